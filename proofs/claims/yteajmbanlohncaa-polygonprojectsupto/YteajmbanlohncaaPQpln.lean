import Derived.Test.YteajmbanlohncaaPQlaw1
import Derived.Test.YteajmbanlohncaaPQpj
import Derived.Test.YteajmbanlohncaaPQsph
set_option linter.unusedVariables false
set_option linter.unusedSimpArgs false
namespace Go.Proofs.Yteajmbanlohncaa
open Ev
namespace Pg
def xs {α:Type} (l:List α) (f:α→Bool):Bool:=l.foldr (fun a b=>f a^^b) false
section
variable {α β : Type}
theorem xs_nil (f:α→Bool):xs [] f=false:=rfl
theorem xs_cons (a:α) (l:List α) (f:α→Bool):xs (a::l) f=(f a^^xs l f):=rfl
theorem xs_congr {l:List α} {f g:α→Bool} (h: ∀a∈l,f a=g a):xs l f=xs l g:=by
 induction l with
 | nil=>rfl
 | cons a l ih=>rw [xs_cons,xs_cons,h a (by simp),ih fun b hb=>h b (by simp [hb])]
theorem xs_xor (l:List α) (f g:α→Bool):(xs l f^^xs l g)=xs l fun a=>f a^^g a:=by
 induction l with
 | nil=>rfl
 | cons a l ih=>
  rw [xs_cons,xs_cons,xs_cons,←ih]
  cases f a<;>cases g a<;>cases xs l f<;>cases xs l g<;>rfl
theorem xs_false (l:List α):xs l (fun _=>false)=false:=by
 induction l with
 | nil=>rfl
 | cons a l ih=>rw [xs_cons,ih]; rfl
theorem xs_zero {l:List α} {f:α→Bool} (h: ∀a∈l,f a=false):xs l f=false:=by rw [xs_congr h,xs_false]
theorem xs_swap (l:List α) (m:List β) (f:α→β→Bool):xs l (fun a=>xs m fun b=>f a b)=xs m fun b=>xs l fun a=>f a b:=by
 induction l with
 | nil=>exact (xs_false m).symm
 | cons a l ih=>
  rw [xs_cons,ih,xs_xor]
  rfl
theorem xs_append (l m:List α) (f:α→Bool):xs (l++m) f=(xs l f^^xs m f):=by
 induction l with
 | nil=>simp [xs_nil]
 | cons a l ih=>rw [List.cons_append,xs_cons,xs_cons,ih,Bool.xor_assoc]
theorem xs_map (l:List β) (g:β→α) (f:α→Bool):xs (l.map g) f=xs l fun b=>f (g b):=by
 induction l with
 | nil=>rfl
 | cons a l ih=>rw [List.map_cons,xs_cons,xs_cons,ih]
theorem xs_one [DecidableEq α] {l:List α} (hn:l.Nodup) {a:α} (ha:a∈l) (f:α→Bool):xs l (fun b=>decide (b=a)&&f b)=f a:=by
 induction l with
 | nil=>cases ha
 | cons b l ih=>
  obtain ⟨h1,h2⟩:=List.nodup_cons.1 hn
  rw [xs_cons]
  by_cases e:b=a
  ·
   subst e
   rw [dT rfl,Bool.true_and,xs_zero fun c hc=>?_,Bool.xor_false]
   have:c≠b:=fun q=>h1 (q▸hc)
   rw [dF this]; rfl
  ·
   have ha':a∈l:=(List.mem_cons.1 ha).resolve_left fun q=>e q.symm
   rw [dF e,Bool.false_and,Bool.false_xor,ih h2 ha']
theorem xs_erase [DecidableEq α] {l:List α} {a:α} (ha:a∈l) (f:α→Bool):xs l f=(f a^^xs (l.erase a) f):=by
 induction l with
 | nil=>cases ha
 | cons b l ih=>
  by_cases e:b=a
  ·
   subst e
   rw [List.erase_cons_head,xs_cons]
  ·
   have ha':a∈l:=(List.mem_cons.1 ha).resolve_left fun q=>e q.symm
   rw [List.erase_cons_tail (by simpa using e),xs_cons,xs_cons,ih ha']
   cases f a<;>cases f b<;>cases xs (l.erase a) f<;>rfl
theorem xs_pairs [DecidableEq α] {p:α→α}: ∀(n:Nat) {l:List α} {f:α→Bool},l.length=n→l.Nodup→(∀a∈l,p a∈l∧p (p a)=a∧p a≠a∧f (p a)=f a)→xs l f=false:=by
 intro n
 induction n using Nat.strongRecOn with
 | _ n ih=>
  intro l f hl hn hp
  cases l with
  | nil=>rfl
  | cons a l=>
   obtain ⟨h1,h2,h3,h4⟩:=hp a (by simp)
   obtain ⟨n1,n2⟩:=List.nodup_cons.1 hn
   have hpa:p a∈l:=(List.mem_cons.1 h1).resolve_left h3
   have hne:=n2.erase (p a)
   have hlen:=List.length_erase_of_mem hpa
   have hpos:=List.length_pos_of_mem hpa
   rw [List.length_cons] at hl
   have:=ih (l.erase (p a)).length (by omega) (l:=l.erase (p a)) (f:=f) rfl hne fun b hb=>by
    obtain ⟨b1,b2⟩:=n2.mem_erase_iff.1 hb
    obtain ⟨q1,q2,q3,q4⟩:=hp b (by simp [b2])
    refine ⟨n2.mem_erase_iff.2 ⟨fun e=>?_,(List.mem_cons.1 q1).resolve_left fun e=>?_⟩,q2,q3,q4⟩
    ·
     have:b=a:=by rw [←q2,e,h2]
     exact n1 (this▸b2)
    ·
     apply b1
     rw [←e,q2]
   rw [xs_cons,xs_erase hpa,this,h4]
   cases f a<;>rfl
end
structure Arr (N:Nat) (inc:List (Nat×Nat)) (x:Nat×Nat→Rat) (j:Nat×Nat→Bool) (pt:Nat×Nat→Nat×Nat) (lo hi sl ic:Nat→Rat):Prop where
 nd:inc.Nodup
 edge: ∀a∈inc,a.1<N
 ptm: ∀a∈inc,pt a∈inc∧pt (pt a)=a∧pt a≠a∧x (pt a)=x a∧j (pt a)=j a∧sl (pt a).1*x a+ic (pt a).1=sl a.1*x a+ic a.1
 rng: ∀a∈inc,lo a.1≤x a∧x a≤hi a.1
 tot: ∀i,i<N→xs inc (fun a=>decide (a.1=i)&&j a)=false
 lt: ∀i,i<N→lo i<hi i
section
variable {N : Nat} {inc : List (Nat × Nat)} {x : Nat × Nat → Rat} {j : Nat × Nat → Bool} {pt : Nat × Nat → Nat × Nat} {lo hi sl ic : Nat → Rat}
def vL (inc:List (Nat×Nat)) (x:Nat×Nat→Rat) (j:Nat×Nat→Bool) (i:Nat) (z:Rat):Bool:=xs inc fun a=>decide (a.1=i∧x a<z)&&j a
def vR (inc:List (Nat×Nat)) (x:Nat×Nat→Rat) (j:Nat×Nat→Bool) (i:Nat) (z:Rat):Bool:=xs inc fun a=>decide (a.1=i∧x a≤z)&&j a
def ht (sl ic:Nat→Rat) (i:Nat) (z:Rat):Rat:=sl i*z+ic i
def bR (sl ic:Nat→Rat) (i e:Nat) (z:Rat):Bool:=decide (ht sl ic i z<ht sl ic e z∨(ht sl ic i z=ht sl ic e z∧sl i<sl e))
def bL (sl ic:Nat→Rat) (i e:Nat) (z:Rat):Bool:=decide (ht sl ic i z<ht sl ic e z∨(ht sl ic i z=ht sl ic e z∧sl e<sl i))
def cR (N:Nat) (inc:List (Nat×Nat)) (x:Nat×Nat→Rat) (j:Nat×Nat→Bool) (sl ic:Nat→Rat) (e:Nat) (z:Rat):Bool:=xs (List.range N) fun i=>decide (i≠e)&&(bR sl ic i e z&&vR inc x j i z)
def cL' (N:Nat) (inc:List (Nat×Nat)) (x:Nat×Nat→Rat) (j:Nat×Nat→Bool) (sl ic:Nat→Rat) (e:Nat) (z:Rat):Bool:=xs (List.range N) fun i=>decide (i≠e)&&(bL sl ic i e z&&vL inc x j i z)
variable (A : Arr N inc x j pt lo hi sl ic)
include A
theorem Arr.vL_out {i:Nat} (hi':i<N) {z:Rat} (h:z≤lo i∨hi i<z):vL inc x j i z=false:=by
 rcases h with h | h
 ·
  refine xs_zero fun a ha=>?_
  have:=A.rng a ha
  by_cases e:a.1=i
  ·
   rw [e] at this
   rw [dF (fun q=>by have:=q.2; grind)]; rfl
  · rw [dF (fun q=>e q.1)]; rfl
 ·
  rw [←A.tot i hi']
  refine xs_congr fun a ha=>?_
  have:=A.rng a ha
  congr 1
  refine decide_eq_decide.mpr ⟨fun q=>q.1,fun q=>⟨q,?_⟩⟩
  rw [q] at this
  grind
theorem Arr.vR_out {i:Nat} (hi':i<N) {z:Rat} (h:z<lo i∨hi i≤z):vR inc x j i z=false:=by
 rcases h with h | h
 ·
  refine xs_zero fun a ha=>?_
  have:=A.rng a ha
  by_cases e:a.1=i
  ·
   rw [e] at this
   rw [dF (fun q=>by have:=q.2; grind)]; rfl
  · rw [dF (fun q=>e q.1)]; rfl
 ·
  rw [←A.tot i hi']
  refine xs_congr fun a ha=>?_
  have:=A.rng a ha
  congr 1
  refine decide_eq_decide.mpr ⟨fun q=>q.1,fun q=>⟨q,?_⟩⟩
  rw [q] at this
  grind
omit A in
theorem v_between {i:Nat} {z z':Rat} (hz:z<z'):(vR inc x j i z^^vL inc x j i z')=xs inc fun a=>decide (a.1=i∧z<x a∧x a<z')&&j a:=by
 unfold vR vL
 rw [xs_xor]
 refine xs_congr fun a _=>?_
 by_cases e:a.1=i
 ·
  by_cases h1:x a≤z
  ·
   rw [dT ⟨e,h1⟩,dT ⟨e,by grind⟩,dF (fun q=>by have:=q.2.1; grind)]
   cases j a<;>rfl
  ·
   by_cases h2:x a<z'
   ·
    rw [dF (fun q=>h1 q.2),dT ⟨e,h2⟩,dT ⟨e,by grind,h2⟩]
    cases j a<;>rfl
   ·
    rw [dF (fun q=>h1 q.2),dF (fun q=>h2 q.2),dF (fun q=>h2 q.2.2)]
    cases j a<;>rfl
 ·
  rw [dF (fun q=>e q.1),dF (fun q=>e q.1),dF (fun q=>e q.1)]
  cases j a<;>rfl
theorem Arr.pairs {C:Rat→Rat→Prop} [∀u v,Decidable (C u v)]:xs inc (fun a=>decide (C (x a) (ht sl ic a.1 (x a)))&&j a)=false:=by
 refine xs_pairs (p:=pt) _ rfl A.nd fun a ha=>?_
 obtain ⟨h1,h2,h3,h4,h5,h6⟩:=A.ptm a ha
 refine ⟨h1,h2,h3,?_⟩
 have:ht sl ic (pt a).1 (x a)=ht sl ic a.1 (x a):=h6
 rw [h4,h5,this]
omit A in
theorem aff_sign {s t u v:Rat} (huv:u<v) (h: ∀z,u<z→z<v→s*z+t≠0):(s*u+t≤0∧s*v+t≤0∧∀z,u<z→z<v→s*z+t<0)∨(0≤s*u+t∧0≤s*v+t∧∀z,u<z→z<v→0<s*z+t):=by
 -- the sign at two places is one
 have key: ∀a b:Rat,u<a→a<v→u<b→b<v→s*a+t<0→¬0<s*b+t:=by
  intro a b ha ha' hb hb' h1 h2
  have hs:s≠0:=fun e=>by rw [e] at h1 h2; grind
  have hz:s*(-t/ s)+t=0:=by grind
  -- the zero lies between a and b
  have hbt:u< -t/ s∧-t/ s<v:=by
   rcases (by grind:s<0∨0<s) with hneg | hpos
   ·
    -- falling:b<zero<a
    have e1: -t/ s<a:=by
     apply Classical.byContradiction
     intro hc
     have hc:a≤-t/ s:=by grind
     have:s*(-t/ s)≤s*a:=by
      have:=Rat.mul_le_mul_of_nonneg_left hc (show (0:Rat)≤-s by grind)
      grind
     grind
    have e2:b< -t/ s:=by
     apply Classical.byContradiction
     intro hc
     have hc: -t/ s≤b:=by grind
     have:=Rat.mul_le_mul_of_nonneg_left hc (show (0:Rat)≤-s by grind)
     grind
    grind
   ·
    have e1:a< -t/ s:=by
     apply Classical.byContradiction
     intro hc
     have hc: -t/ s≤a:=by grind
     have:=Rat.mul_le_mul_of_nonneg_left hc (show (0:Rat)≤s by grind)
     grind
    have e2: -t/ s<b:=by
     apply Classical.byContradiction
     intro hc
     have hc:b≤-t/ s:=by grind
     have:=Rat.mul_le_mul_of_nonneg_left hc (show (0:Rat)≤s by grind)
     grind
    grind
  exact h _ hbt.1 hbt.2 hz
 -- the ends
 have hm:u<(u+v)/ 2∧(u+v)/ 2<v:=by grind
 have fin: ∀(σ τ:Rat),(∀z,u<z→z<v→σ*z+τ<0)→σ*u+τ≤0∧σ*v+τ≤0:=by
  intro σ τ hh
  constructor
  ·
   apply Classical.byContradiction
   intro hc
   have hc:0<σ*u+τ:=by grind
   have h1:=hh _ hm.1 hm.2
   -- between u and the middle the function falls through small positive values
   have hσ:σ<0:=by
    apply Classical.byContradiction
    intro q
    have:=Rat.mul_le_mul_of_nonneg_left (show u≤(u+v)/ 2 by grind) (show (0:Rat)≤σ by grind)
    grind
   have hz:σ*(-τ/ σ)+τ=0:=by grind
   have e1:u< -τ/ σ:=by
    apply Classical.byContradiction
    intro q
    have:=Rat.mul_le_mul_of_nonneg_left (show -τ/ σ≤u by grind) (show (0:Rat)≤-σ by grind)
    grind
   have e2: -τ/ σ<(u+v)/ 2:=by
    apply Classical.byContradiction
    intro q
    have:=Rat.mul_le_mul_of_nonneg_left (show (u+v)/ 2≤-τ/ σ by grind) (show (0:Rat)≤-σ by grind)
    grind
   have:=hh _ e1 (by grind)
   grind
  ·
   apply Classical.byContradiction
   intro hc
   have hc:0<σ*v+τ:=by grind
   have h1:=hh _ hm.1 hm.2
   have hσ:0<σ:=by
    apply Classical.byContradiction
    intro q
    have:=Rat.mul_le_mul_of_nonneg_left (show (u+v)/ 2≤v by grind) (show (0:Rat)≤-σ by grind)
    grind
   have hz:σ*(-τ/ σ)+τ=0:=by grind
   have e1: -τ/ σ<v:=by
    apply Classical.byContradiction
    intro q
    have:=Rat.mul_le_mul_of_nonneg_left (show v≤-τ/ σ by grind) (show (0:Rat)≤σ by grind)
    grind
   have e2:(u+v)/ 2< -τ/ σ:=by
    apply Classical.byContradiction
    intro q
    have:=Rat.mul_le_mul_of_nonneg_left (show -τ/ σ≤(u+v)/ 2 by grind) (show (0:Rat)≤σ by grind)
    grind
   have:=hh _ (by grind) e1
   grind
 by_cases hn:s*((u+v)/ 2)+t<0
 ·
  left
  have all: ∀z,u<z→z<v→s*z+t<0:=fun z h1 h2=>by
   have:=key _ z hm.1 hm.2 h1 h2 hn
   have:=h z h1 h2
   grind
  exact ⟨(fin s t all).1,(fin s t all).2,all⟩
 ·
  right
  have hp:0<s*((u+v)/ 2)+t:=by have:=h _ hm.1 hm.2; grind
  have all: ∀z,u<z→z<v→0<s*z+t:=fun z h1 h2=>by
   have h3:=h z h1 h2
   apply Classical.byContradiction
   intro hc
   exact key z _ h1 h2 hm.1 hm.2 (by grind) hp
  have:=fin (-s) (-t) fun z h1 h2=>by have:=all z h1 h2; grind
  exact ⟨by grind,by grind,all⟩
end
section
variable {N : Nat} {inc : List (Nat × Nat)} {x : Nat × Nat → Rat} {j : Nat × Nat → Bool} {pt : Nat × Nat → Nat × Nat} {lo hi sl ic : Nat → Rat} (A : Arr N inc x j pt lo hi sl ic)
include A
theorem Arr.sum_edges {C:Nat×Nat→Prop} [∀a,Decidable (C a)]:xs (List.range N) (fun i=>xs inc fun a=>decide (a.1=i∧C a)&&j a)=xs inc fun a=>decide (C a)&&j a:=by
 rw [xs_swap]
 refine xs_congr fun a ha=>?_
 have hN:=A.edge a ha
 have:=xs_one (l:=List.range N) List.nodup_range (List.mem_range.2 hN) (fun _=>decide (C a)&&j a)
 rw [←this]
 refine xs_congr fun i _=>?_
 by_cases e:a.1=i
 ·
  subst e
  rw [dT rfl,Bool.true_and]
  congr 1
  exact decide_eq_decide.mpr ⟨fun q=>q.2,fun q=>⟨rfl,q⟩⟩
 · rw [dF (fun q=>e q.1),dF (fun q=>e q.symm)]; rfl
theorem Arr.gap {e:Nat} {u v:Rat} (huv:u<v) (hz: ∀i,i<N→i≠e→∀z,u<z→z<v→lo i≤z→z≤hi i→ht sl ic i z≠ht sl ic e z):cR N inc x j sl ic e u=cL' N inc x j sl ic e v:=by
 have main:(cR N inc x j sl ic e u^^cL' N inc x j sl ic e v)=false:=by
  unfold cR cL'
  rw [xs_xor]
  have key:xs (List.range N) (fun i=>xs inc fun a=>decide (a.1=i∧(u<x a∧x a<v∧ht sl ic a.1 (x a)<ht sl ic e (x a)))&&j a)=false:=by
   rw [A.sum_edges]
   exact A.pairs (C:=fun y h=>u<y∧y<v∧h<ht sl ic e y)
  rw [←key]
  refine xs_congr fun i hi'=>?_
  have hiN:=List.mem_range.1 hi'
  by_cases hie:i=e
  ·
   subst hie
   rw [dF (fun q=>q rfl),Bool.false_and,Bool.false_and]
   symm
   refine xs_zero fun a _=>?_
   rw [dF (fun q=>?_)]
   · rfl
   ·
    have:=q.2.2.2
    rw [q.1] at this
    grind
  ·
   rw [dT hie,Bool.true_and,Bool.true_and]
   have hlt:=A.lt i hiN
   by_cases hov:(u<hi i∧lo i<v)
   ·
    -- there is an overlap
    obtain ⟨U,hU1,hU2,hU3⟩: ∃U,u≤U∧lo i≤U∧(U=u∨U=lo i):=by
     rcases Rat.le_total (a:=u) (b:=lo i) with q | q
     · exact ⟨lo i,q,by grind,.inr rfl⟩
     · exact ⟨u,by grind,q,.inl rfl⟩
    obtain ⟨V,hV1,hV2,hV3⟩: ∃V,V≤v∧V≤hi i∧(V=v∨V=hi i):=by
     rcases Rat.le_total (a:=v) (b:=hi i) with q | q
     · exact ⟨v,by grind,q,.inl rfl⟩
     · exact ⟨hi i,q,by grind,.inr rfl⟩
    have hUV:U<V:=by rcases hU3 with q | q<;>rcases hV3 with q' | q'<;>grind
    have hd: ∀z,sl i*z+ic i-(sl e*z+ic e)=(sl i-sl e)*z+(ic i-ic e):=fun z=>by grind
    have hdiff: ∀z,ht sl ic i z-ht sl ic e z=(sl i-sl e)*z+(ic i-ic e):=hd
    have hnz: ∀z,U<z→z<V→(sl i-sl e)*z+(ic i-ic e)≠0:=fun z h1 h2 q=>by
     refine hz i hiN hie z (by grind) (by grind) (by grind) (by grind) ?_
     have:=hdiff z
     grind
    rcases aff_sign hUV hnz with ⟨a1,a2,a3⟩ | ⟨a1,a2,a3⟩
    ·
     -- below
     have hR:(bR sl ic i e u&&vR inc x j i u)=vR inc x j i u:=by
      by_cases hin:lo i≤u
      ·
       have hUu:U=u:=by rcases hU3 with q | q<;>grind
       have:bR sl ic i e u=true:=by
        unfold bR
        refine dT ?_
        have d0:=hdiff u
        rw [hUu] at a1
        rcases (by grind:ht sl ic i u<ht sl ic e u∨ht sl ic i u=ht sl ic e u) with q | q
        · exact .inl q
        ·
         refine .inr ⟨q,?_⟩
         have hm:U<(U+V)/ 2∧(U+V)/ 2<V:=by grind
         have d1:=a3 _ hm.1 hm.2
         apply Classical.byContradiction
         intro hc
         have hs:(0:Rat)≤sl i-sl e:=by grind
         have:=Rat.mul_le_mul_of_nonneg_left (show u≤(U+V)/ 2 by grind) hs
         grind
       rw [this,Bool.true_and]
      · rw [A.vR_out hiN (.inl (by grind)),Bool.and_false]
     have hL:(bL sl ic i e v&&vL inc x j i v)=vL inc x j i v:=by
      by_cases hin:v≤hi i
      ·
       have hVv:V=v:=by rcases hV3 with q | q<;>grind
       have:bL sl ic i e v=true:=by
        unfold bL
        refine dT ?_
        have d0:=hdiff v
        rw [hVv] at a2
        rcases (by grind:ht sl ic i v<ht sl ic e v∨ht sl ic i v=ht sl ic e v) with q | q
        · exact .inl q
        ·
         refine .inr ⟨q,?_⟩
         have hm:U<(U+V)/ 2∧(U+V)/ 2<V:=by grind
         have d1:=a3 _ hm.1 hm.2
         apply Classical.byContradiction
         intro hc
         have hs:(0:Rat)≤-(sl i-sl e):=by grind
         have:=Rat.mul_le_mul_of_nonneg_left (show (U+V)/ 2≤v by grind) hs
         grind
       rw [this,Bool.true_and]
      · rw [A.vL_out hiN (.inr (by grind)),Bool.and_false]
     rw [hR,hL,v_between huv]
     refine xs_congr fun a ha=>?_
     congr 1
     refine decide_eq_decide.mpr ⟨fun ⟨q1,q2,q3⟩=>⟨q1,q2,q3,?_⟩,fun ⟨q1,q2,q3,_⟩=>⟨q1,q2,q3⟩⟩
     have hr:=A.rng a ha
     rw [q1] at hr⊢
     have hne:=hz i hiN hie (x a) q2 q3 hr.1 hr.2
     have d0:=hdiff (x a)
     have hle:(sl i-sl e)*x a+(ic i-ic e)≤0:=by
      rcases (by grind:x a=U∨x a=V∨(U<x a∧x a<V)) with q | q | q
      · rw [q]; exact a1
      · rw [q]; exact a2
      · have:=a3 _ q.1 q.2; grind
     grind
    ·
     -- above
     have hR:(bR sl ic i e u&&vR inc x j i u)=false:=by
      by_cases hin:lo i≤u
      ·
       have hUu:U=u:=by rcases hU3 with q | q<;>grind
       have:bR sl ic i e u=false:=by
        unfold bR
        refine dF ?_
        have d0:=hdiff u
        rw [hUu] at a1
        rintro (q | ⟨q,q2⟩)
        · grind
        ·
         have hm:U<(U+V)/ 2∧(U+V)/ 2<V:=by grind
         have d1:=a3 _ hm.1 hm.2
         have hs:(0:Rat)≤-(sl i-sl e):=by grind
         have:=Rat.mul_le_mul_of_nonneg_left (show u≤(U+V)/ 2 by grind) hs
         grind
       rw [this,Bool.false_and]
      · rw [A.vR_out hiN (.inl (by grind)),Bool.and_false]
     have hL:(bL sl ic i e v&&vL inc x j i v)=false:=by
      by_cases hin:v≤hi i
      ·
       have hVv:V=v:=by rcases hV3 with q | q<;>grind
       have:bL sl ic i e v=false:=by
        unfold bL
        refine dF ?_
        have d0:=hdiff v
        rw [hVv] at a2
        rintro (q | ⟨q,q2⟩)
        · grind
        ·
         have hm:U<(U+V)/ 2∧(U+V)/ 2<V:=by grind
         have d1:=a3 _ hm.1 hm.2
         have hs:(0:Rat)≤sl i-sl e:=by grind
         have:=Rat.mul_le_mul_of_nonneg_left (show (U+V)/ 2≤v by grind) hs
         grind
       rw [this,Bool.false_and]
      · rw [A.vL_out hiN (.inr (by grind)),Bool.and_false]
     rw [hR,hL]
     symm
     refine (xs_zero fun a ha=>?_)
     rw [dF]
     · rfl
     ·
      rintro ⟨q1,q2,q3,q4⟩
      have hr:=A.rng a ha
      rw [q1] at hr q4
      have d0:=hdiff (x a)
      have hge:0≤(sl i-sl e)*x a+(ic i-ic e):=by
       rcases (by grind:x a=U∨x a=V∨(U<x a∧x a<V)) with q | q | q
       · rw [q]; exact a1
       · rw [q]; exact a2
       · have:=a3 _ q.1 q.2; grind
      grind
   ·
    -- no overlap
    have hcase:hi i≤u∨v≤lo i:=by grind
    have r1:vR inc x j i u=false:=A.vR_out hiN (by rcases hcase with q | q; exact .inr q; exact .inl (by grind))
    have r2:vL inc x j i v=false:=A.vL_out hiN (by rcases hcase with q | q; exact .inr (by grind); exact .inl q)
    rw [r1,r2,Bool.and_false,Bool.and_false]
    symm
    refine (xs_zero fun a ha=>?_)
    rw [dF]
    · rfl
    ·
     rintro ⟨q1,q2,q3,q4⟩
     have hr:=A.rng a ha
     rw [q1] at hr
     rcases hcase with q | q<;>grind
 revert main
 cases cR N inc x j sl ic e u<;>cases cL' N inc x j sl ic e v<;>simp
theorem Arr.point {e f:Nat} (he:e<N) (hf:f<N) (hef:e≠f) {z:Rat} (heq:ht sl ic e z=ht sl ic f z) (hz: ∀i,i<N→i≠e→i≠f→lo i≤z→z≤hi i→ht sl ic i z≠ht sl ic e z):
  ∃Λ,cR N inc x j sl ic e z=(Λ^^(decide (sl f<sl e)&&vR inc x j f z))∧cL' N inc x j sl ic e z=(Λ^^(decide (sl e<sl f)&&vL inc x j f z))∧cR N inc x j sl ic f z=(Λ^^(decide (sl e<sl f)&&vR inc x j e z))∧cL' N inc x j sl ic f z=(Λ^^(decide (sl f<sl e)&&vL inc x j e z)):=by
 -- both sums of what lies strictly below
 have hRL:xs (List.range N) (fun i=>decide (ht sl ic i z<ht sl ic e z)&&vR inc x j i z)=xs (List.range N) (fun i=>decide (ht sl ic i z<ht sl ic e z)&&vL inc x j i z):=by
  have main:(xs (List.range N) (fun i=>decide (ht sl ic i z<ht sl ic e z)&&vR inc x j i z)^^xs (List.range N) (fun i=>decide (ht sl ic i z<ht sl ic e z)&&vL inc x j i z))=false:=by
   rw [xs_xor]
   have key:xs (List.range N) (fun i=>xs inc fun a=>decide (a.1=i∧(x a=z∧ht sl ic a.1 (x a)<ht sl ic e z))&&j a)=false:=by
    rw [A.sum_edges]
    exact A.pairs (C:=fun y h=>y=z∧h<ht sl ic e z)
   rw [←key]
   refine xs_congr fun i _=>?_
   by_cases hb:ht sl ic i z<ht sl ic e z
   ·
    rw [dT hb,Bool.true_and,Bool.true_and]
    unfold vR vL
    rw [xs_xor]
    refine xs_congr fun a _=>?_
    by_cases q:a.1=i
    ·
     by_cases h1:x a<z
     ·
      rw [dT ⟨q,by grind⟩,dT ⟨q,h1⟩,dF (fun w=>by have:=w.2.1; grind)]
      cases j a<;>rfl
     ·
      by_cases h2:x a=z
      ·
       rw [dT ⟨q,by grind⟩,dF (fun w=>h1 w.2),dT ⟨q,h2,by rw [q,h2]; exact hb⟩]
       cases j a<;>rfl
      ·
       rw [dF (fun w=>by have:=w.2; grind),dF (fun w=>h1 w.2),dF (fun w=>h2 w.2.1)]
       cases j a<;>rfl
    ·
     rw [dF (fun w=>q w.1),dF (fun w=>q w.1),dF (fun w=>q w.1)]
     cases j a<;>rfl
   ·
    rw [dF hb,Bool.false_and,Bool.false_and]
    symm
    refine (xs_zero fun a _=>?_)
    rw [dF]
    · rfl
    ·
     rintro ⟨q1,q2,q3⟩
     rw [q1,q2] at q3
     exact hb q3
  revert main
  cases xs (List.range N) (fun i=>decide (ht sl ic i z<ht sl ic e z)&&vR inc x j i z)<;>cases xs (List.range N) (fun i=>decide (ht sl ic i z<ht sl ic e z)&&vL inc x j i z)<;>simp
 -- one edge seen from the other
 have sideR: ∀e' f':Nat,f'<N→f'≠e'→ht sl ic e' z=ht sl ic e z→ht sl ic f' z=ht sl ic e z→(∀i,i<N→i≠e'→i≠f'→lo i≤z→z≤hi i→ht sl ic i z≠ht sl ic e z)→cR N inc x j sl ic e' z=(xs (List.range N) (fun i=>decide (ht sl ic i z<ht sl ic e z)&&vR inc x j i z)^^(decide (sl f'<sl e')&&vR inc x j f' z)):=by
  intro e' f' hf' hne he' hff hz'
  have:=xs_one (l:=List.range N) List.nodup_range (List.mem_range.2 hf') (fun _=>decide (sl f'<sl e')&&vR inc x j f' z)
  rw [←this,xs_xor]
  unfold cR
  refine xs_congr fun i hi'=>?_
  have hiN:=List.mem_range.1 hi'
  by_cases h1:i=e'
  ·
   subst h1
   rw [dF (fun q=>q rfl),dF (show¬ht sl ic i z<ht sl ic e z by grind),dF (fun q=>hne q.symm)]; rfl
  ·
   rw [dT h1,Bool.true_and]
   by_cases h2:i=f'
   ·
    subst h2
    rw [dT rfl,dF (show¬ht sl ic i z<ht sl ic e z by grind),Bool.true_and,Bool.false_and,Bool.false_xor]
    congr 1
    unfold bR
    refine decide_eq_decide.mpr ⟨fun q=>?_,fun q=>.inr ⟨by grind,q⟩⟩
    rcases q with q | q
    · grind
    · exact q.2
   ·
    rw [dF h2,Bool.false_and,Bool.xor_false]
    by_cases h3:lo i≤z∧z≤hi i
    ·
     have:=hz' i hiN h1 h2 h3.1 h3.2
     congr 1
     unfold bR
     refine decide_eq_decide.mpr ⟨fun q=>?_,fun q=>.inl (by grind)⟩
     rcases q with q | q
     · grind
     · grind
    · rw [A.vR_out hiN (by grind),Bool.and_false,Bool.and_false]
 have sideL: ∀e' f':Nat,f'<N→f'≠e'→ht sl ic e' z=ht sl ic e z→ht sl ic f' z=ht sl ic e z→(∀i,i<N→i≠e'→i≠f'→lo i≤z→z≤hi i→ht sl ic i z≠ht sl ic e z)→cL' N inc x j sl ic e' z=(xs (List.range N) (fun i=>decide (ht sl ic i z<ht sl ic e z)&&vL inc x j i z)^^(decide (sl e'<sl f')&&vL inc x j f' z)):=by
  intro e' f' hf' hne he' hff hz'
  have:=xs_one (l:=List.range N) List.nodup_range (List.mem_range.2 hf') (fun _=>decide (sl e'<sl f')&&vL inc x j f' z)
  rw [←this,xs_xor]
  unfold cL'
  refine xs_congr fun i hi'=>?_
  have hiN:=List.mem_range.1 hi'
  by_cases h1:i=e'
  ·
   subst h1
   rw [dF (fun q=>q rfl),dF (show¬ht sl ic i z<ht sl ic e z by grind),dF (fun q=>hne q.symm)]; rfl
  ·
   rw [dT h1,Bool.true_and]
   by_cases h2:i=f'
   ·
    subst h2
    rw [dT rfl,dF (show¬ht sl ic i z<ht sl ic e z by grind),Bool.true_and,Bool.false_and,Bool.false_xor]
    congr 1
    unfold bL
    refine decide_eq_decide.mpr ⟨fun q=>?_,fun q=>.inr ⟨by grind,q⟩⟩
    rcases q with q | q
    · grind
    · exact q.2
   ·
    rw [dF h2,Bool.false_and,Bool.xor_false]
    by_cases h3:lo i≤z∧z≤hi i
    ·
     have:=hz' i hiN h1 h2 h3.1 h3.2
     congr 1
     unfold bL
     refine decide_eq_decide.mpr ⟨fun q=>?_,fun q=>.inl (by grind)⟩
     rcases q with q | q
     · grind
     · grind
    · rw [A.vL_out hiN (by grind),Bool.and_false,Bool.and_false]
 refine ⟨xs (List.range N) (fun i=>decide (ht sl ic i z<ht sl ic e z)&&vL inc x j i z),?_,?_,?_,?_⟩
 · rw [←hRL]; exact sideR e f hf (fun q=>hef q.symm) rfl heq.symm hz
 · exact sideL e f hf (fun q=>hef q.symm) rfl heq.symm hz
 · rw [←hRL]; exact sideR f e he hef heq.symm rfl fun i h1 h2 h3=>hz i h1 h3 h2
 · exact sideL f e he hef heq.symm rfl fun i h1 h2 h3=>hz i h1 h3 h2
end
def incL (N:Nat) (m:Nat→Nat):List (Nat×Nat):=(List.range N).flatMap fun i=>(List.range (m i+2)).map (Prod.mk i)
theorem mem_incL {N:Nat} {m:Nat→Nat} {a:Nat×Nat}:a∈incL N m↔a.1<N∧a.2<m a.1+2:=by
 unfold incL
 rw [List.mem_flatMap]
 constructor
 ·
  rintro ⟨i,hi,h⟩
  obtain ⟨t,ht,rfl⟩:=List.mem_map.1 h
  exact ⟨List.mem_range.1 hi,List.mem_range.1 ht⟩
 ·
  rintro ⟨h1,h2⟩
  exact ⟨a.1,List.mem_range.2 h1,List.mem_map.2 ⟨a.2,List.mem_range.2 h2,rfl⟩⟩
theorem xs_flatMap {α β:Type} (l:List α) (g:α→List β) (f:β→Bool):xs (l.flatMap g) f=xs l fun a=>xs (g a) f:=by
 induction l with
 | nil=>rfl
 | cons a l ih=>rw [List.flatMap_cons,xs_append,xs_cons,ih]
theorem incL_nodup (N:Nat) (m:Nat→Nat):(incL N m).Nodup:=by
 unfold incL
 have key: ∀v:List Nat,v.Nodup→(v.flatMap fun i=>(List.range (m i+2)).map (Prod.mk i)).Nodup:=by
  intro v
  induction v with
  | nil=>intro _; exact List.nodup_nil
  | cons c v ih=>
   intro h
   obtain ⟨h1,h2⟩:=List.nodup_cons.1 h
   rw [List.flatMap_cons,List.nodup_append]
   refine ⟨?_,ih h2,fun a ha b hb e=>?_⟩
   ·
    unfold List.Nodup
    rw [List.pairwise_map]
    exact List.nodup_range.imp fun hab e=>hab (Prod.mk.inj e).2
   ·
    subst e
    obtain ⟨t,_,rfl⟩:=List.mem_map.1 ha
    obtain ⟨d,hd,hb⟩:=List.mem_flatMap.1 hb
    obtain ⟨s,_,e⟩:=List.mem_map.1 hb
    have:=(Prod.mk.inj e).1
    subst this
    exact h1 hd
 exact key _ List.nodup_range
theorem incL_edge {N:Nat} {m:Nat→Nat} {i:Nat} (hi:i<N) (C:Nat×Nat→Prop) [∀a,Decidable (C a)] (j:Nat×Nat→Bool):xs (incL N m) (fun a=>decide (a.1=i∧C a)&&j a)=xs (List.range (m i+2)) fun t=>decide (C (i,t))&&j (i,t):=by
 unfold incL
 rw [xs_flatMap]
 have:=xs_one (l:=List.range N) List.nodup_range (List.mem_range.2 hi) (fun _=>xs (List.range (m i+2)) fun t=>decide (C (i,t))&&j (i,t))
 rw [←this]
 refine xs_congr fun k _=>?_
 rw [xs_map]
 by_cases e:k=i
 ·
  subst e
  rw [dT rfl,Bool.true_and]
  refine xs_congr fun t _=>?_
  congr 1
  exact decide_eq_decide.mpr ⟨fun q=>q.2,fun q=>⟨rfl,q⟩⟩
 ·
  rw [dF e,Bool.false_and]
  refine xs_zero fun t _=>?_
  rw [dF (fun q=>e q.1)]; rfl
theorem xs_steps (w:Nat→Bool): ∀n,xs (List.range n) (fun t=>w t^^w (t+1))=(w 0^^w n)
 | 0=>by simp [xs_nil]
 | n+1=>by
  rw [List.range_succ,xs_append,xs_steps w n,xs_cons,xs_nil]
  cases w 0<;>cases w n<;>cases w (n+1)<;>rfl
theorem xs_below (w:Nat→Bool) {n t:Nat} (ht:t≤n):xs (List.range n) (fun s=>decide (s<t)&&(w s^^w (s+1)))=(w 0^^w t):=by
 rw [←xs_steps w t]
 obtain ⟨r,rfl⟩: ∃r,n=t+r:=⟨n-t,by omega⟩
 rw [List.range_add,xs_append,xs_map]
 have h1:xs (List.range r) (fun b=>decide (t+b<t)&&(w (t+b)^^w (t+b+1)))=false:=xs_zero fun b _=>by rw [dF (by omega)]; rfl
 rw [h1,Bool.xor_false]
 refine xs_congr fun s hs=>?_
 rw [dT (List.mem_range.1 hs),Bool.true_and]
theorem xs_above (w:Nat→Bool) {n t:Nat} (ht:t≤n):xs (List.range n) (fun s=>decide (t≤s)&&(w s^^w (s+1)))=(w t^^w n):=by
 have h:=xs_below w ht
 have h2:=xs_steps w n
 have h3:(xs (List.range n) (fun s=>decide (s<t)&&(w s^^w (s+1)))^^xs (List.range n) (fun s=>decide (t≤s)&&(w s^^w (s+1))))=xs (List.range n) (fun s=>w s^^w (s+1)):=by
  rw [xs_xor]
  refine xs_congr fun s _=>?_
  by_cases q:s<t
  ·
   rw [dT q,dF (by omega)]
   cases w s<;>cases w (s+1)<;>rfl
  ·
   rw [dF q,dT (by omega)]
   cases w s<;>cases w (s+1)<;>rfl
 rw [h,h2] at h3
 generalize xs (List.range n) (fun s=>decide (t≤s)&&(w s^^w (s+1)))=q at*
 revert h3
 cases w 0<;>cases w t<;>cases w n<;>cases q<;>simp
section
variable {N : Nat} {m : Nat → Nat} {x : Nat × Nat → Rat} {j : Nat × Nat → Bool} {i : Nat} (hi : i < N) {w : Nat → Bool} (h0 : w 0 = false) (h1 : w (m i + 2) = false) (hj : ∀ t, t < m i + 2 → j (i, t) = (w t ^^ w (t + 1)))
include hi h0 h1 hj
theorem own_tot:xs (incL N m) (fun a=>decide (a.1=i)&&j a)=false:=by
 have:=incL_edge (N:=N) (m:=m) hi (fun _=>True) j
 simp only [and_true] at this
 rw [this]
 have e:xs (List.range (m i+2)) (fun t=>decide True&&j (i,t))=xs (List.range (m i+2)) fun t=>w t^^w (t+1):=xs_congr fun t ht=>by rw [hj t (List.mem_range.1 ht)]; simp
 rw [e,xs_steps,h0,h1]; rfl
omit h1 in
theorem own_up (hx: ∀s t,s<t→t<m i+2→x (i,s)<x (i,t)) {t:Nat} (ht:t<m i+2):vL (incL N m) x j i (x (i,t))=w t∧vR (incL N m) x j i (x (i,t))=w (t+1):=by
 have cmp: ∀s,s<m i+2→(x (i,s)<x (i,t)↔s<t)∧(x (i,s)≤x (i,t)↔s<t+1):=fun s hs=>by
  rcases Nat.lt_trichotomy s t with q | q | q
  ·
   have:=hx s t q ht
   exact ⟨⟨fun _=>q,fun _=>this⟩,⟨fun _=>by omega,fun _=>by grind⟩⟩
  ·
   subst q
   exact ⟨⟨fun h=>by grind,fun h=>by omega⟩,⟨fun _=>by omega,fun _=>by grind⟩⟩
  ·
   have:=hx t s q hs
   exact ⟨⟨fun h=>by grind,fun h=>by omega⟩,⟨fun h=>by grind,fun h=>by omega⟩⟩
 constructor
 ·
  unfold vL
  rw [incL_edge hi (fun a=>x a<x (i,t)) j]
  have e:xs (List.range (m i+2)) (fun s=>decide (x (i,s)<x (i,t))&&j (i,s))=xs (List.range (m i+2)) fun s=>decide (s<t)&&(w s^^w (s+1)):=xs_congr fun s hs=>by
   have hs:=List.mem_range.1 hs
   rw [hj s hs,decide_eq_decide.mpr (cmp s hs).1]
  rw [e,xs_below w (by omega),h0,Bool.false_xor]
 ·
  unfold vR
  rw [incL_edge hi (fun a=>x a≤x (i,t)) j]
  have e:xs (List.range (m i+2)) (fun s=>decide (x (i,s)≤x (i,t))&&j (i,s))=xs (List.range (m i+2)) fun s=>decide (s<t+1)&&(w s^^w (s+1)):=xs_congr fun s hs=>by
   have hs:=List.mem_range.1 hs
   rw [hj s hs,decide_eq_decide.mpr (cmp s hs).2]
  rw [e,xs_below w (by omega),h0,Bool.false_xor]
omit h0 in
theorem own_down (hx: ∀s t,s<t→t<m i+2→x (i,t)<x (i,s)) {t:Nat} (ht:t<m i+2):vL (incL N m) x j i (x (i,t))=w (t+1)∧vR (incL N m) x j i (x (i,t))=w t:=by
 have cmp: ∀s,s<m i+2→(x (i,s)<x (i,t)↔t+1≤s)∧(x (i,s)≤x (i,t)↔t≤s):=fun s hs=>by
  rcases Nat.lt_trichotomy s t with q | q | q
  ·
   have:=hx s t q ht
   exact ⟨⟨fun h=>by grind,fun h=>by omega⟩,⟨fun h=>by grind,fun h=>by omega⟩⟩
  ·
   subst q
   exact ⟨⟨fun h=>by grind,fun h=>by omega⟩,⟨fun _=>by omega,fun _=>by grind⟩⟩
  ·
   have:=hx t s q hs
   exact ⟨⟨fun _=>by omega,fun _=>this⟩,⟨fun _=>by omega,fun _=>by grind⟩⟩
 constructor
 ·
  unfold vL
  rw [incL_edge hi (fun a=>x a<x (i,t)) j]
  have e:xs (List.range (m i+2)) (fun s=>decide (x (i,s)<x (i,t))&&j (i,s))=xs (List.range (m i+2)) fun s=>decide (t+1≤s)&&(w s^^w (s+1)):=xs_congr fun s hs=>by
   have hs:=List.mem_range.1 hs
   rw [hj s hs,decide_eq_decide.mpr (cmp s hs).1]
  rw [e,xs_above w (by omega),h1,Bool.xor_false]
 ·
  unfold vR
  rw [incL_edge hi (fun a=>x a≤x (i,t)) j]
  have e:xs (List.range (m i+2)) (fun s=>decide (x (i,s)≤x (i,t))&&j (i,s))=xs (List.range (m i+2)) fun s=>decide (t≤s)&&(w s^^w (s+1)):=xs_congr fun s hs=>by
   have hs:=List.mem_range.1 hs
   rw [hj s hs,decide_eq_decide.mpr (cmp s hs).2]
  rw [e,xs_above w (by omega),h1,Bool.xor_false]
end
def qx (p:Pt):Rat:=((3000*p.1+p.2.1:Int):Rat)
def qy (p:Pt):Rat:=((p.2.1:Int):Rat)
def sl (es:List Ed) (i:Nat):Rat:=(qy (eAt es i).2.1-qy (eAt es i).1)/ (qx (eAt es i).2.1-qx (eAt es i).1)
def ic (es:List Ed) (i:Nat):Rat:=qy (eAt es i).1-sl es i*qx (eAt es i).1
def lo (es:List Ed) (i:Nat):Rat:=if qx (eAt es i).1<qx (eAt es i).2.1 then qx (eAt es i).1 else qx (eAt es i).2.1
def hi (es:List Ed) (i:Nat):Rat:=if qx (eAt es i).1<qx (eAt es i).2.1 then qx (eAt es i).2.1 else qx (eAt es i).1
def xc (es:List Ed) (i k:Nat):Rat:=qx (eAt es i).1+(qx (eAt es i).2.1-qx (eAt es i).1)*((prt (eAt es i) (eAt es k):Rat)/ (whl (eAt es i) (eAt es k):Rat))
abbrev hh (es:List Ed) (i:Nat) (z:Rat):Rat:=ht (sl es) (ic es) i z
theorem qx_flat {p q:Pt} (hp:Fit p) (hq:Fit q) (h:qx p=qx q):Flat p q:=by
 unfold qx at h
 have h:=Rat.intCast_inj.1 h
 unfold Fit at hp hq
 unfold Flat
 omega
theorem T_q (a b p:Pt):3000*(T a b p:Rat)=(qx b-qx a)*(qy p-qy a)-(qy b-qy a)*(qx p-qx a):=by
 unfold T qx qy
 grind
theorem cast_neg {z:Int} (h:(z:Rat)<0):z<0:=Rat.intCast_lt_intCast.1 (by simpa using h)
theorem cast_pos {z:Int} (h:0<(z:Rat)):0<z:=Rat.intCast_lt_intCast.1 (by simpa using h)
theorem cast_zero {z:Int} (h:(z:Rat)=0):z=0:=Rat.intCast_inj.1 (by simpa using h)
theorem share_neg (a b:Rat) (n1:b-a≠0) (n2:a-b≠0): -a/ (b-a)=a/ (a-b):=by
 have:b-a=-(a-b):=by grind
 rw [this]
 grind

structure Gen (es:List Ed) (vs:List (List Nat)):Prop where
 F:FitE es
 N:es.length≤100000000
 R:Rg es vs
 g:GenE es
 n3: ∀i,i<es.length→nxE es (nxE es i)≠i
section
variable {es : List Ed} {vs : List (List Nat)} (G : Gen es vs)
include G
theorem Gen.n2 {i:Nat} (hi':i<es.length):nxE es i≠i:=fun e=>G.n3 i hi' (by rw [e,e])
theorem Gen.ne {i:Nat} (hi':i<es.length):qx (eAt es i).1≠qx (eAt es i).2.1:=fun e=>by
 have hn:=G.R.lt i hi'
 rw [←G.R.jn i hi'] at e
 exact (G.g i hi').1 _ hn (G.n2 hi') (.inl (qx_flat (G.F.at hi').1 (G.F.at hn).1 e))
theorem Gen.ab {i:Nat} (hi':i<es.length):hh es i (qx (eAt es i).1)=qy (eAt es i).1∧hh es i (qx (eAt es i).2.1)=qy (eAt es i).2.1:=by
 have:=G.ne hi'
 unfold hh ht ic sl
 constructor
 · grind
 ·
  have h:qx (eAt es i).2.1-qx (eAt es i).1≠0:=by grind
  grind
theorem Gen.lohi {i:Nat} (hi':i<es.length):lo es i<hi es i∧((lo es i=qx (eAt es i).1∧hi es i=qx (eAt es i).2.1∧qx (eAt es i).1<qx (eAt es i).2.1)∨(lo es i=qx (eAt es i).2.1∧hi es i=qx (eAt es i).1∧qx (eAt es i).2.1<qx (eAt es i).1)):=by
 have:=G.ne hi'
 unfold lo hi
 by_cases h:qx (eAt es i).1<qx (eAt es i).2.1
 · rw [if_pos h,if_pos h]; exact ⟨h,.inl ⟨rfl,rfl,h⟩⟩
 · rw [if_neg h,if_neg h]; exact ⟨by grind,.inr ⟨rfl,rfl,by grind⟩⟩
theorem Gen.T_line {i:Nat} (hi':i<es.length) (p:Pt):3000*(T (eAt es i).1 (eAt es i).2.1 p:Rat)=(qx (eAt es i).2.1-qx (eAt es i).1)*(qy p-hh es i (qx p)):=by
 have:=G.ne hi'
 have h:qx (eAt es i).2.1-qx (eAt es i).1≠0:=by grind
 rw [T_q]
 unfold hh ht ic sl
 grind
theorem Gen.on {i:Nat} (hi':i<es.length) {p:Pt} (h:hh es i (qx p)=qy p) (h1:lo es i≤qx p) (h2:qx p≤hi es i):On (eAt es i).1 (eAt es i).2.1 p:=by
 have hT:T (eAt es i).1 (eAt es i).2.1 p=0:=by
  have:=G.T_line hi' p
  rw [h] at this
  exact cast_zero (by grind)
 have hne:=G.ne hi'
 obtain ⟨_,hl⟩:=G.lohi hi'
 have hd:qx (eAt es i).2.1-qx (eAt es i).1≠0:=by grind
 -- the share of the edge
 obtain ⟨s,hs⟩: ∃s:Rat,s=(qx p-qx (eAt es i).1)/ (qx (eAt es i).2.1-qx (eAt es i).1):=⟨_,rfl⟩
 have e1:qx p=qx (eAt es i).1+s*(qx (eAt es i).2.1-qx (eAt es i).1):=by rw [hs]; grind
 have e2:qy p=qy (eAt es i).1+s*(qy (eAt es i).2.1-qy (eAt es i).1):=by
  rw [←h,e1]
  unfold hh ht ic sl
  grind
 have s01:0≤s∧s≤1:=by
  rcases hl with ⟨l1,l2,l3⟩ | ⟨l1,l2,l3⟩
  ·
   rw [l1] at h1; rw [l2] at h2
   have q1:0≤s*(qx (eAt es i).2.1-qx (eAt es i).1):=by grind
   have q2:s*(qx (eAt es i).2.1-qx (eAt es i).1)≤1*(qx (eAt es i).2.1-qx (eAt es i).1):=by grind
   have hp:0<qx (eAt es i).2.1-qx (eAt es i).1:=by grind
   constructor
   ·
    apply Classical.byContradiction
    intro hc
    have:=(Rat.mul_lt_mul_right (a:=s) (b:=0) hp).2 (by grind)
    grind
   ·
    apply Classical.byContradiction
    intro hc
    have:=(Rat.mul_lt_mul_right (a:=1) (b:=s) hp).2 (by grind)
    grind
  ·
   rw [l1] at h1; rw [l2] at h2
   have hp:0<qx (eAt es i).1-qx (eAt es i).2.1:=by grind
   constructor
   ·
    apply Classical.byContradiction
    intro hc
    have:=(Rat.mul_lt_mul_right (a:=s) (b:=0) hp).2 (by grind)
    grind
   ·
    apply Classical.byContradiction
    intro hc
    have:=(Rat.mul_lt_mul_right (a:=1) (b:=s) hp).2 (by grind)
    grind
 have betw: ∀u v:Int,∀w:Int,(w:Rat)=u+s*((v:Rat)-u)→min u v≤w∧w≤max u v:=by
  intro u v w hw
  rcases Int.le_total u v with q | q
  ·
   have q':(0:Rat)≤(v:Rat)-u:=by have:=Rat.intCast_le_intCast.2 q; grind
   have a1:=Rat.mul_nonneg s01.1 q'
   have a2:=Rat.mul_nonneg (show 0≤1-s by grind) q'
   have b1:u≤w:=Rat.intCast_le_intCast.1 (by grind)
   have b2:w≤v:=Rat.intCast_le_intCast.1 (by grind)
   omega
  ·
   have q':(0:Rat)≤(u:Rat)-v:=by have:=Rat.intCast_le_intCast.2 q; grind
   have a1:=Rat.mul_nonneg s01.1 q'
   have a2:=Rat.mul_nonneg (show 0≤1-s by grind) q'
   have b1:w≤u:=Rat.intCast_le_intCast.1 (by grind)
   have b2:v≤w:=Rat.intCast_le_intCast.1 (by grind)
   omega
 have c2:=betw (eAt es i).1.2.1 (eAt es i).2.1.2.1 p.2.1 e2
 have c1:=betw (eAt es i).1.1 (eAt es i).2.1.1 p.1 (by unfold qx at e1; unfold qy at e2; grind)
 exact ⟨hT,c1.1,c1.2,c2.1,c2.2⟩
theorem Gen.vertex {i k:Nat} (hi':i<es.length) (hk:k<es.length) (h:hh es i (qx (eAt es k).1)=qy (eAt es k).1) (h1:lo es i<qx (eAt es k).1) (h2:qx (eAt es k).1<hi es i):False:=by
 have hon:=G.on hi' h (by grind) (by grind)
 obtain ⟨_,hl⟩:=G.lohi hi'
 have hki:k≠i:=fun e=>by subst e; rcases hl with ⟨l1,l2,l3⟩ | ⟨l1,l2,l3⟩<;>grind
 have hkn:k≠nxE es i:=fun e=>by
  rw [e,G.R.jn i hi'] at h1 h2
  rcases hl with ⟨l1,l2,l3⟩ | ⟨l1,l2,l3⟩<;>grind
 refine (G.g i hi').1 k hk hki (.inr (.inl ⟨?_,hon⟩))
 rw [G.R.fst k hk,G.R.lst i hi']
 omega
theorem Gen.same {i k:Nat} (hi':i<es.length) (hk:k<es.length) (h:qx (eAt es i).1=qx (eAt es k).1):i=k:=by
 apply Classical.byContradiction
 intro hne
 exact (G.g i hi').1 k hk (fun e=>hne e.symm) (.inl (qx_flat (G.F.at hi').1 (G.F.at hk).1 h))
omit G in
theorem hh_diff (es:List Ed) (i e:Nat) (z w:Rat):hh es i w-hh es e w=(hh es i z-hh es e z)+(sl es i-sl es e)*(w-z):=by unfold hh ht; grind
theorem Gen.meet0 {e i:Nat} (he:e<es.length) (hi':i<es.length) (hne:i≠e) {z:Rat} (h1:lo es e<z) (h2:z<hi es e) (h3:lo es i<z) (h4:z<hi es i) (h:hh es i z=hh es e z) (hs:sl es i≠sl es e):(∃o,psg es e i=some ((i:Int),o))∧z=xc es e i:=by
 obtain ⟨_,le⟩:=G.lohi he
 obtain ⟨_,li⟩:=G.lohi hi'
 have ae:=G.ab he
 have ai:=G.ab hi'
 have dif:=hh_diff es i e z
 rw [h] at dif
 have t1:=G.T_line he (eAt es i).1
 have t2:=G.T_line he (eAt es i).2.1
 have t3:=G.T_line hi' (eAt es e).1
 have t4:=G.T_line hi' (eAt es e).2.1
 have d1:=dif (qx (eAt es i).1)
 have d2:=dif (qx (eAt es i).2.1)
 have d3:=dif (qx (eAt es e).1)
 have d4:=dif (qx (eAt es e).2.1)
 rw [ai.1] at d1; rw [ai.2] at d2; rw [ae.1] at d3; rw [ae.2] at d4
 obtain ⟨k,hk⟩: ∃k,k=sl es i-sl es e:=⟨_,rfl⟩
 have hk0:k≠0:=by grind
 rw [←hk] at d1 d2 d3 d4
 -- the signs of four turns
 have f1:3000*(T (eAt es e).1 (eAt es e).2.1 (eAt es i).1:Rat)=(qx (eAt es e).2.1-qx (eAt es e).1)*(k*(qx (eAt es i).1-z)):=by rw [t1]; congr 1; grind
 have f2:3000*(T (eAt es e).1 (eAt es e).2.1 (eAt es i).2.1:Rat)=(qx (eAt es e).2.1-qx (eAt es e).1)*(k*(qx (eAt es i).2.1-z)):=by rw [t2]; congr 1; grind
 have f3:3000*(T (eAt es i).1 (eAt es i).2.1 (eAt es e).1:Rat)=(qx (eAt es i).2.1-qx (eAt es i).1)*(k*(z-qx (eAt es e).1)):=by rw [t3]; congr 1; grind
 have f4:3000*(T (eAt es i).1 (eAt es i).2.1 (eAt es e).2.1:Rat)=(qx (eAt es i).2.1-qx (eAt es i).1)*(k*(z-qx (eAt es e).2.1)):=by rw [t4]; congr 1; grind
 have opp: ∀(D u v:Rat) (p q:Int),D≠0→3000*(p:Rat)=D*(k*u)→3000*(q:Rat)=D*(k*v)→(u<0∧0<v∨0<u∧v<0)→Opp p q:=by
  intro D u v p q hD hp hq huv
  have hDk:D*k≠0:=by
   intro q
   rcases Rat.mul_eq_zero.1 q with q | q<;>contradiction
  have hp':3000*(p:Rat)=(D*k)*u:=by grind
  have hq':3000*(q:Rat)=(D*k)*v:=by grind
  have sgn: ∀c y:Rat,0<c→0<y→0<c*y:=fun c y=>Rat.mul_pos
  rcases (by grind:D*k<0∨0<D*k) with s | s<;>rcases huv with ⟨a,b⟩ | ⟨a,b⟩
  ·
   have z1:=sgn (-(D*k)) (-u) (by grind) (by grind)
   have z2:=sgn (-(D*k)) v (by grind) b
   exact .inr ⟨cast_pos (by grind),cast_neg (by grind)⟩
  ·
   have z1:=sgn (-(D*k)) u (by grind) a
   have z2:=sgn (-(D*k)) (-v) (by grind) (by grind)
   exact .inl ⟨cast_neg (by grind),cast_pos (by grind)⟩
  ·
   have z1:=sgn (D*k) (-u) s (by grind)
   have z2:=sgn (D*k) v s b
   exact .inl ⟨cast_neg (by grind),cast_pos (by grind)⟩
  ·
   have z1:=sgn (D*k) u s a
   have z2:=sgn (D*k) (-v) s (by grind)
   exact .inr ⟨cast_pos (by grind),cast_neg (by grind)⟩
 have nee:=G.ne he
 have nei:=G.ne hi'
 have o1:Opp (T (eAt es e).1 (eAt es e).2.1 (eAt es i).1) (T (eAt es e).1 (eAt es e).2.1 (eAt es i).2.1):=opp _ _ _ _ _ (by grind) f1 f2 (by rcases li with ⟨l1,l2,l3⟩ | ⟨l1,l2,l3⟩<;>grind)
 have o2:Opp (T (eAt es i).1 (eAt es i).2.1 (eAt es e).1) (T (eAt es i).1 (eAt es i).2.1 (eAt es e).2.1):=opp _ _ _ _ _ (by grind) f3 f4 (by rcases le with ⟨l1,l2,l3⟩ | ⟨l1,l2,l3⟩<;>grind)
 have nadj: ¬Adj (eAt es e) (eAt es i):=fun q=>by
  rw [G.R.adj he hi'] at q
  rcases q with q | q
  ·
   have:=G.R.jn e he
   rw [←q] at this
   rw [this] at o1
   have z:T (eAt es e).1 (eAt es e).2.1 (eAt es e).2.1=0:=by unfold T; grind
   rw [z] at o1
   unfold Opp at o1; omega
  ·
   have:=G.R.jn i hi'
   rw [←q] at this
   rw [←this] at o1
   have z:T (eAt es e).1 (eAt es e).2.1 (eAt es e).1=0:=by unfold T; grind
   rw [z] at o1
   unfold Opp at o1; omega
 have fe:=G.F.at he
 have fi:=G.F.at hi'
 have hcr:(cr (eAt es e).1 (eAt es e).2.1 (eAt es i).1 (eAt es i).2.1).1=1:=by
  have hb:=(G.g e he).1 i hi' hne
  unfold BadP at hb
  rw [not_or,not_or] at hb
  have h3:=hb.2.2
  unfold cr at h3⊢
  rw [if_pos ⟨fe.1,fe.2,fi.1,fi.2⟩,if_pos ⟨o1,o2⟩] at h3⊢
  by_cases q:hU (eAt es e).1 (eAt es e).2.1 (eAt es i).1 (eAt es i).2.1=hU (eAt es i).1 (eAt es i).2.1 (eAt es e).1 (eAt es e).2.1
  ·
   rw [if_pos q] at h3
   exact absurd ⟨nadj,rfl⟩ h3
  · rw [if_neg q]
 refine ⟨⟨_,psg_some.2 ⟨rfl,hne,nadj,hcr,rfl⟩⟩,?_⟩
 -- the share
 have hsh:(prt (eAt es e) (eAt es i):Rat)/ (whl (eAt es e) (eAt es i):Rat)=(T (eAt es i).1 (eAt es i).2.1 (eAt es e).1:Rat)/ ((T (eAt es i).1 (eAt es i).2.1 (eAt es e).1:Rat)-(T (eAt es i).1 (eAt es i).2.1 (eAt es e).2.1:Rat)):=by
  unfold prt whl
  generalize T (eAt es i).1 (eAt es i).2.1 (eAt es e).1=p at*
  generalize T (eAt es i).1 (eAt es i).2.1 (eAt es e).2.1=q at*
  rcases o2 with ⟨a,b⟩ | ⟨a,b⟩
  ·
   rw [show max p (-p)=-p by omega,show max (p-q) (q-p)=q-p by omega]
   have n1:(q:Rat)-p≠0:=by have:=Rat.intCast_lt_intCast.2 (show p<q by omega); grind
   have n2:(p:Rat)-q≠0:=by grind
   rw [Rat.intCast_neg,Rat.intCast_sub]
   exact share_neg _ _ n1 n2
  · rw [show max p (-p)=p by omega,show max (p-q) (q-p)=p-q by omega,Rat.intCast_sub]
 unfold xc
 rw [hsh]
 have hD:(T (eAt es i).1 (eAt es i).2.1 (eAt es e).1:Rat)-(T (eAt es i).1 (eAt es i).2.1 (eAt es e).2.1:Rat)≠0:=by
  rcases o2 with ⟨a,b⟩ | ⟨a,b⟩
  · have:=Rat.intCast_lt_intCast.2 (show T (eAt es i).1 (eAt es i).2.1 (eAt es e).1<T (eAt es i).1 (eAt es i).2.1 (eAt es e).2.1 by omega); grind
  · have:=Rat.intCast_lt_intCast.2 (show T (eAt es i).1 (eAt es i).2.1 (eAt es e).2.1<T (eAt es i).1 (eAt es i).2.1 (eAt es e).1 by omega); grind
 generalize (T (eAt es i).1 (eAt es i).2.1 (eAt es e).1:Rat)=p at*
 generalize (T (eAt es i).1 (eAt es i).2.1 (eAt es e).2.1:Rat)=q at*
 have e1:(p-q)*(z-qx (eAt es e).1)=(qx (eAt es e).2.1-qx (eAt es e).1)*p:=by grind
 have e2:z-qx (eAt es e).1=(qx (eAt es e).2.1-qx (eAt es e).1)*(p/ (p-q)):=by grind
 grind
theorem Gen.apart {e i:Nat} (he:e<es.length) (hi':i<es.length) (hne:i≠e) (hs:sl es i=sl es e) {z:Rat} (h:hh es i z=hh es e z) (h1:lo es e<z) (h2:z<hi es e) (h3:lo es i<z) (h4:z<hi es i):False:=by
 have all: ∀w,hh es i w=hh es e w:=fun w=>by
  have:=hh_diff es i e z w
  rw [hs] at this
  grind
 -- ends of one within the other
 have within: ∀a b:Nat,a<es.length→b<es.length→(∀w,hh es a w=hh es b w)→lo es a<lo es b→lo es b<hi es a→False:=by
  intro a b ha hb hw p q
  obtain ⟨_,lb⟩:=G.lohi hb
  have vb:=G.ab hb
  rcases lb with ⟨l1,l2,l3⟩ | ⟨l1,l2,l3⟩
  · exact G.vertex ha hb (by rw [hw,vb.1]) (by grind) (by grind)
  ·
   have hn:=G.R.lt b hb
   have hj:=G.R.jn b hb
   exact G.vertex ha hn (by rw [hj,hw,vb.2]) (by rw [hj]; grind) (by rw [hj]; grind)
 have within': ∀a b:Nat,a<es.length→b<es.length→(∀w,hh es a w=hh es b w)→lo es a<hi es b→hi es b<hi es a→False:=by
  intro a b ha hb hw p q
  obtain ⟨_,lb⟩:=G.lohi hb
  have vb:=G.ab hb
  rcases lb with ⟨l1,l2,l3⟩ | ⟨l1,l2,l3⟩
  ·
   have hn:=G.R.lt b hb
   have hj:=G.R.jn b hb
   exact G.vertex ha hn (by rw [hj,hw,vb.2]) (by rw [hj]; grind) (by rw [hj]; grind)
  · exact G.vertex ha hb (by rw [hw,vb.1]) (by grind) (by grind)
 rcases (by grind:lo es e<lo es i∨lo es i<lo es e∨lo es e=lo es i) with q | q | q
 · exact within e i he hi' (fun w=>(all w).symm) q (by grind)
 · exact within i e hi' he all q (by grind)
 ·
  rcases (by grind:hi es e<hi es i∨hi es i<hi es e∨hi es e=hi es i) with q2 | q2 | q2
  · exact within' i e hi' he all (by grind) q2
  · exact within' e i he hi' (fun w=>(all w).symm) (by grind) q2
  ·
   obtain ⟨_,le⟩:=G.lohi he
   obtain ⟨_,li⟩:=G.lohi hi'
   have hne':=G.R.lt e he
   have hni:=G.R.lt i hi'
   have je:=G.R.jn e he
   have ji:=G.R.jn i hi'
   rcases le with ⟨l1,l2,_⟩ | ⟨l1,l2,_⟩<;>rcases li with ⟨m1,m2,_⟩ | ⟨m1,m2,_⟩
   · exact hne (G.same hi' he (by grind))
   ·
    have a1:=G.same he hni (by rw [ji]; grind)
    have a2:=G.same hne' hi' (by rw [je]; grind)
    exact G.n3 e he (by rw [a2,←a1])
   ·
    have a1:=G.same hne' hi' (by rw [je]; grind)
    have a2:=G.same he hni (by rw [ji]; grind)
    exact G.n3 e he (by rw [a1,←a2])
   · exact hne (G.same hi' he (by grind))
theorem Gen.meet {e i:Nat} (he:e<es.length) (hi':i<es.length) (hne:i≠e) {z:Rat} (h1:lo es e<z) (h2:z<hi es e) (h3:lo es i≤z) (h4:z≤hi es i) (h:hh es i z=hh es e z):(∃o,psg es e i=some ((i:Int),o))∧z=xc es e i:=by
 obtain ⟨_,li⟩:=G.lohi hi'
 have vi:=G.ab hi'
 have hni:=G.R.lt i hi'
 have ji:=G.R.jn i hi'
 by_cases c1:z=qx (eAt es i).1
 · exact (G.vertex he hi' (by rw [←c1,←h,c1,vi.1]) (by grind) (by grind)).elim
 by_cases c2:z=qx (eAt es i).2.1
 · exact (G.vertex he hni (by rw [ji,←c2,←h,c2,vi.2]) (by rw [ji]; grind) (by rw [ji]; grind)).elim
 have s3:lo es i<z:=by rcases li with ⟨l1,l2,_⟩ | ⟨l1,l2,_⟩<;>grind
 have s4:z<hi es i:=by rcases li with ⟨l1,l2,_⟩ | ⟨l1,l2,_⟩<;>grind
 by_cases hs:sl es i=sl es e
 · exact (G.apart he hi' hne hs h h1 h2 s3 s4).elim
 · exact G.meet0 he hi' hne h1 h2 s3 s4 h hs
theorem Gen.corner {k i:Nat} (hk:k<es.length) (hi':i<es.length) (h1:i≠k) (h2:nxE es i≠k) (h3:lo es i≤qx (eAt es k).1) (h4:qx (eAt es k).1≤hi es i):hh es i (qx (eAt es k).1)≠qy (eAt es k).1:=by
 intro h
 obtain ⟨_,li⟩:=G.lohi hi'
 have hni:=G.R.lt i hi'
 have ji:=G.R.jn i hi'
 by_cases c1:qx (eAt es k).1=qx (eAt es i).1
 · exact h1 (G.same hi' hk c1.symm)
 by_cases c2:qx (eAt es k).1=qx (eAt es i).2.1
 · exact h2 (G.same hni hk (by rw [ji]; exact c2.symm))
 exact G.vertex hi' hk h (by rcases li with ⟨l1,l2,_⟩ | ⟨l1,l2,_⟩<;>grind) (by rcases li with ⟨l1,l2,_⟩ | ⟨l1,l2,_⟩<;>grind)
end
theorem share_eq {p q:Int} (o:Opp p q):((max p (-p):Int):Rat)/ ((max (p-q) (q-p):Int):Rat)=(p:Rat)/ ((p:Rat)-(q:Rat)):=by
 rcases o with ⟨a,b⟩ | ⟨a,b⟩
 ·
  rw [show max p (-p)=-p by omega,show max (p-q) (q-p)=q-p by omega]
  have n1:(q:Rat)-p≠0:=by have:=Rat.intCast_lt_intCast.2 (show p<q by omega); grind
  have n2:(p:Rat)-q≠0:=by grind
  rw [Rat.intCast_neg,Rat.intCast_sub]
  exact share_neg _ _ n1 n2
 · rw [show max p (-p)=p by omega,show max (p-q) (q-p)=p-q by omega,Rat.intCast_sub]
theorem share_in {p q:Int} (o:Opp p q):0<(p:Rat)/ ((p:Rat)-(q:Rat))∧(p:Rat)/ ((p:Rat)-(q:Rat))<1:=by
 have key: ∀a b:Rat,0<a→b<0→0<a/ (a-b)∧a/ (a-b)<1:=fun a b h1 h2=>by
  have hd:0<a-b:=by grind
  have hi:=Rat.inv_pos.2 hd
  have e:a/ (a-b)=a*(a-b)⁻¹ :=by grind
  have m1:=Rat.mul_pos h1 hi
  have m2:=Rat.mul_pos (show 0< -b by grind) hi
  have u:(a-b)*(a-b)⁻¹ =1:=Rat.mul_inv_cancel _ (by grind)
  rw [e]
  exact ⟨m1,by grind⟩
 rcases o with ⟨a,b⟩ | ⟨a,b⟩
 ·
  have a':(p:Rat)<0:=Rat.intCast_lt_intCast.2 a
  have b':(0:Rat)<q:=Rat.intCast_lt_intCast.2 b
  have:=key (-(p:Rat)) (-(q:Rat)) (by grind) (by grind)
  have e: -(p:Rat)/ (-(p:Rat)- -(q:Rat))=(p:Rat)/ ((p:Rat)-(q:Rat)):=by
   have n2:(p:Rat)-q≠0:=by grind
   have n1: -(p:Rat)- -(q:Rat)≠0:=by grind
   grind
  rwa [e] at this
 · exact key _ _ (Rat.intCast_lt_intCast.2 a) (Rat.intCast_lt_intCast.2 b)
def mR (es:List Ed) (i:Nat):Nat:=(srt es i).length
def atP (es:List Ed) (i t:Nat):Int×Bool:=(srt es i).getD t (0,false)
def shr (es:List Ed) (i k:Nat):Rat:=(prt (eAt es i) (eAt es k):Rat)/ (whl (eAt es i) (eAt es k):Rat)
def sgm (es:List Ed) (i t:Nat):Rat:=if t=0 then 0 else if t=mR es i+1 then 1 else shr es i (atP es i (t-1)).1.toNat
def Xp (es:List Ed) (a:Nat×Nat):Rat:=qx (eAt es a.1).1+(qx (eAt es a.1).2.1-qx (eAt es a.1).1)*sgm es a.1 a.2
section
variable {es : List Ed} {vs : List (List Nat)} (G : Gen es vs)
include G
omit G in
theorem shr_eqx {i k:Nat} {x:Int×Bool} (h:psg es i k=some x):shr es i k=(T (eAt es k).1 (eAt es k).2.1 (eAt es i).1:Rat)/ ((T (eAt es k).1 (eAt es k).2.1 (eAt es i).1:Rat)-(T (eAt es k).1 (eAt es k).2.1 (eAt es i).2.1:Rat)):=share_eq (cr_one (psg_some.1 h).2.2.2.1).2
omit G in
theorem shr_inx {i k:Nat} {x:Int×Bool} (h:psg es i k=some x):0<shr es i k∧shr es i k<1:=by
 rw [shr_eqx h]
 exact share_in (cr_one (psg_some.1 h).2.2.2.1).2
omit G in
theorem psg_sym {i k:Nat} {x:Int×Bool} (h:psg es i k=some x):psg es k i=some ((i:Int),!x.2):=by
 obtain ⟨h1,h2,h3,h4,h5⟩:=psg_some.1 h
 obtain ⟨c1,c2,_⟩:=cr_exch (eAt es i).1 (eAt es i).2.1 (eAt es k).1 (eAt es k).2.1
 exact psg_some.2 ⟨rfl,fun e=>h2 e.symm,fun q=>h3 (adj_symm.1 q),by rw [c1,h4],by rw [c2 h4,←h5]⟩
theorem Gen.cross0 {i k:Nat} (hi':i<es.length) (hk:k<es.length) {x:Int×Bool} (h:psg es i k=some x):sl es i≠sl es k∧hh es i (xc es i k)=hh es k (xc es i k):=by
 have hop:=(cr_one (psg_some.1 h).2.2.2.1).2
 have hs:=shr_eqx h
 have vi:=G.ab hi'
 have hne:=G.ne hk
 have t1:=G.T_line hk (eAt es i).1
 have t2:=G.T_line hk (eAt es i).2.1
 have d1:=hh_diff es i k (qx (eAt es i).1) (qx (eAt es i).2.1)
 have d2:=hh_diff es i k (qx (eAt es i).1) (xc es i k)
 have hx:xc es i k=qx (eAt es i).1+(qx (eAt es i).2.1-qx (eAt es i).1)*shr es i k:=rfl
 have hpq:(T (eAt es k).1 (eAt es k).2.1 (eAt es i).1:Rat)-(T (eAt es k).1 (eAt es k).2.1 (eAt es i).2.1:Rat)≠0:=by
  rcases hop with ⟨a,b⟩ | ⟨a,b⟩
  · have:=Rat.intCast_lt_intCast.2 (show T (eAt es k).1 (eAt es k).2.1 (eAt es i).1<T (eAt es k).1 (eAt es k).2.1 (eAt es i).2.1 by omega); grind
  · have:=Rat.intCast_lt_intCast.2 (show T (eAt es k).1 (eAt es k).2.1 (eAt es i).2.1<T (eAt es k).1 (eAt es k).2.1 (eAt es i).1 by omega); grind
 rw [←vi.1] at t1
 rw [←vi.2] at t2
 generalize (T (eAt es k).1 (eAt es k).2.1 (eAt es i).1:Rat)=p at*
 generalize (T (eAt es k).1 (eAt es k).2.1 (eAt es i).2.1:Rat)=q at*
 generalize hD0:hh es i (qx (eAt es i).1)-hh es k (qx (eAt es i).1)=D0 at*
 generalize hD1:hh es i (qx (eAt es i).2.1)-hh es k (qx (eAt es i).2.1)=D1 at*
 generalize hDk:qx (eAt es k).2.1-qx (eAt es k).1=Dk at*
 have hDk0:Dk≠0:=by grind
 constructor
 ·
  intro e
  rw [e] at d1
  have:D1=D0:=by grind
  rw [this] at t2
  apply hpq
  grind
 ·
  have e1:hh es i (xc es i k)-hh es k (xc es i k)=D0+(D1-D0)*shr es i k:=by
   rw [d2,hx,d1]
   grind
  have e2:Dk*(hh es i (xc es i k)-hh es k (xc es i k))=3000*(p+(q-p)*shr es i k):=by
   rw [e1]
   grind
  have e3:p+(q-p)*shr es i k=0:=by
   rw [hs]
   grind
  rw [e3] at e2
  have:hh es i (xc es i k)-hh es k (xc es i k)=0:=by
   apply Classical.byContradiction
   intro hc
   grind
  grind
theorem Gen.cross {i k:Nat} (hi':i<es.length) (hk:k<es.length) {x:Int×Bool} (h:psg es i k=some x):xc es k i=xc es i k:=by
 obtain ⟨a1,a2⟩:=G.cross0 hi' hk h
 obtain ⟨b1,b2⟩:=G.cross0 hk hi' (psg_sym h)
 have d:=hh_diff es i k (xc es i k) (xc es k i)
 have e:(sl es i-sl es k)*(xc es k i-xc es i k)=0:=by grind
 have n:sl es i-sl es k≠0:=by grind
 grind
theorem Gen.N1:es.length≤1000000000:=by have:=G.N; omega
theorem Gen.row {i t:Nat} (hi':i<es.length) (ht:t<mR es i): ∃k:Nat,(atP es i t).1=(k:Int)∧k<es.length∧k≠i∧psg es i k=some (atP es i t):=by
 have hm:atP es i t∈srt es i:=by
  unfold atP
  rw [getD_of' ht]
  exact List.getElem_mem ht
 obtain ⟨k,hk,h⟩:=(mem_srt G.F G.N1 hi').1 hm
 exact ⟨k,(psg_some.1 h).1,hk,(psg_some.1 h).2.1,h⟩
theorem Gen.pos {i k:Nat} (hi':i<es.length) (hk:k<es.length) {x:Int×Bool} (h:psg es i k=some x): ∃t,t<mR es i∧atP es i t=x:=by
 have hm:x∈srt es i:=(mem_srt G.F G.N1 hi').2 ⟨k,hk,h⟩
 obtain ⟨t,ht,e⟩:=List.getElem_of_mem hm
 exact ⟨t,ht,by unfold atP; rw [getD_of' ht,e]⟩
theorem Gen.sgm_lt {i s t:Nat} (hi':i<es.length) (hs:s<t) (ht:t<mR es i+2):sgm es i s<sgm es i t:=by
 have inn: ∀t,0<t→t<mR es i+1→0<sgm es i t∧sgm es i t<1:=fun t h1 h2=>by
  obtain ⟨k,e,hk,_,h⟩:=G.row hi' (show t-1<mR es i by omega)
  unfold sgm
  rw [if_neg (by omega),if_neg (by omega),e,Int.toNat_natCast]
  exact shr_inx h
 have z0:sgm es i 0=0:=by unfold sgm; rw [if_pos rfl]
 have z1:sgm es i (mR es i+1)=1:=by unfold sgm; rw [if_neg (by omega),if_pos rfl]
 by_cases c0:s=0
 ·
  subst c0
  by_cases c1:t=mR es i+1
  · subst c1; rw [z0,z1]; grind
  · rw [z0]; exact (inn t (by omega) (by omega)).1
 by_cases c1:t=mR es i+1
 · subst c1; rw [z1]; exact (inn s (by omega) (by omega)).2
 have hp:=List.pairwise_iff_getElem.1 (srt_strict G.F G.N1 hi' (G.g i hi').2) (s-1) (t-1) (by unfold mR at *; omega) (by unfold mR at *; omega) (by omega)
 obtain ⟨k,e,hk,_,h⟩:=G.row hi' (show s-1<mR es i by omega)
 obtain ⟨k',e',hk',_,h'⟩:=G.row hi' (show t-1<mR es i by omega)
 unfold sgm
 rw [if_neg c0,if_neg (by omega),if_neg (by omega),if_neg c1,e,e',Int.toNat_natCast,Int.toNat_natCast]
 have g1:(srt es i)[s-1]'(by unfold mR at *; omega)=atP es i (s-1):=by unfold atP; rw [getD_of']
 have g2:(srt es i)[t-1]'(by unfold mR at *; omega)=atP es i (t-1):=by unfold atP; rw [getD_of']
 rw [g1,g2] at hp
 unfold cmpS at hp
 rw [e,e',Int.toNat_natCast,Int.toNat_natCast] at hp
 have w1:0<whl (eAt es i) (eAt es k):=by
  have:=(cr_one (psg_some.1 h).2.2.2.1).2
  unfold Opp at this
  unfold whl
  omega
 have w2:0<whl (eAt es i) (eAt es k'):=by
  have:=(cr_one (psg_some.1 h').2.2.2.1).2
  unfold Opp at this
  unfold whl
  omega
 unfold shr
 have w1':(0:Rat)<whl (eAt es i) (eAt es k):=Rat.intCast_lt_intCast.2 w1
 have w2':(0:Rat)<whl (eAt es i) (eAt es k'):=Rat.intCast_lt_intCast.2 w2
 have hp':((prt (eAt es i) (eAt es k)*whl (eAt es i) (eAt es k'):Int):Rat)<((prt (eAt es i) (eAt es k')*whl (eAt es i) (eAt es k):Int):Rat):=Rat.intCast_lt_intCast.2 (by omega)
 rw [Rat.intCast_mul,Rat.intCast_mul] at hp'
 generalize (prt (eAt es i) (eAt es k):Rat)=p at*
 generalize (prt (eAt es i) (eAt es k'):Rat)=p' at*
 generalize (whl (eAt es i) (eAt es k):Rat)=w at*
 generalize (whl (eAt es i) (eAt es k'):Rat)=w' at*
 have h1:=Rat.inv_pos.2 w1'
 have h2:=Rat.inv_pos.2 w2'
 have m:=Rat.mul_pos h1 h2
 have m2:=Rat.mul_pos (show 0<p'*w-p*w' by grind) m
 have u1:w*w⁻¹ =1:=Rat.mul_inv_cancel _ (by grind)
 have u2:w'*w'⁻¹ =1:=Rat.mul_inv_cancel _ (by grind)
 have e1:(p'*w-p*w')*(w⁻¹ *w'⁻¹)=p'*w'⁻¹ - p*w⁻¹ :=by grind
 have e2:p/ w=p*w⁻¹ :=by grind
 have e3:p'/ w'=p'*w'⁻¹ :=by grind
 rw [e2,e3]
 grind
end
open Classical in
noncomputable def pdE (es:List Ed) (i:Nat):Nat:=if h: ∃k,k<es.length∧nxE es k=i then Classical.choose h else 0
def opp (es:List Ed) (i t:Nat):Nat:=(srt es (atP es i t).1.toNat).idxOf ((i:Int),!(atP es i t).2)
noncomputable def ptE (es:List Ed) (a:Nat×Nat):Nat×Nat:=
 if a.2=0 then (pdE es a.1,mR es (pdE es a.1)+1) else if a.2=mR es a.1+1 then (nxE es a.1,0) else ((atP es a.1 (a.2-1)).1.toNat,opp es a.1 (a.2-1)+1)
def wv (es:List Ed) (val:Nat→Nat→Bool) (i t:Nat):Bool:=if t=0∨mR es i+2≤t then false else val i (t-1)
def jv (es:List Ed) (val:Nat→Nat→Bool) (a:Nat×Nat):Bool:=wv es val a.1 a.2^^wv es val a.1 (a.2+1)
theorem wv_0 (es:List Ed) (val:Nat→Nat→Bool) (i:Nat):wv es val i 0=false:=by unfold wv; rw [if_pos (.inl rfl)]
theorem wv_end (es:List Ed) (val:Nat→Nat→Bool) (i:Nat):wv es val i (mR es i+2)=false:=by unfold wv; rw [if_pos (.inr (Nat.le_refl _))]
theorem wv_s {es:List Ed} {val:Nat→Nat→Bool} {i t:Nat} (ht:t≤mR es i):wv es val i (t+1)=val i t:=by
 unfold wv
 rw [if_neg (by omega)]; rfl
structure Bits (es:List Ed) (val:Nat→Nat→Bool):Prop where
 vx: ∀i,i<es.length→val i (mR es i)=val (nxE es i) 0
 cx: ∀i k t u,i<es.length→k<es.length→t<mR es i→u<mR es k→(atP es i t).1=(k:Int)→atP es k u=((i:Int),!(atP es i t).2)→(val i t^^val i (t+1))=(val k u^^val k (u+1))
section
variable {es : List Ed} {vs : List (List Nat)} (G : Gen es vs)
include G
theorem Gen.pd {i:Nat} (hi':i<es.length):pdE es i<es.length∧nxE es (pdE es i)=i:=by
 have h: ∃k,k<es.length∧nxE es k=i:=G.R.surj hi'
 unfold pdE
 rw [dif_pos h]
 exact Classical.choose_spec h
theorem Gen.pd_nx {i:Nat} (hi':i<es.length):pdE es (nxE es i)=i:=by
 obtain ⟨h1,h2⟩:=G.pd (G.R.lt i hi')
 exact G.R.inj h1 hi' h2
theorem Gen.row_inj {i s t:Nat} (hi':i<es.length) (hs:s<mR es i) (ht:t<mR es i) (e:(atP es i s).1=(atP es i t).1):s=t:=by
 have:=(nt_of G.F G.N1 G.R).row i hi'
 have h:=(List.getElem?_inj (i:=s) (j:=t) (by rw [List.length_map]; exact hs) this).1
 refine h ?_
 unfold atP at e
 rw [getD_of' hs,getD_of' ht] at e
 rw [List.getElem?_map,List.getElem?_map,gE hs,gE ht]
 simp [e]
theorem Gen.opp_at {i t:Nat} (hi':i<es.length) (ht:t<mR es i): ∃k:Nat,(atP es i t).1=(k:Int)∧k<es.length∧k≠i∧psg es i k=some (atP es i t)∧opp es i t<mR es k∧atP es k (opp es i t)=((i:Int),!(atP es i t).2)∧opp es k (opp es i t)=t:=by
 obtain ⟨k,e,hk,hne,h⟩:=G.row hi' ht
 have hm:((i:Int),!(atP es i t).2)∈srt es k:=(mem_srt G.F G.N1 hk).2 ⟨i,hi',psg_sym h⟩
 have hl:opp es i t<mR es k:=by
  unfold opp mR
  rw [e,Int.toNat_natCast]
  exact List.idxOf_lt_length_of_mem hm
 have ha:atP es k (opp es i t)=((i:Int),!(atP es i t).2):=by
  unfold atP
  rw [getD_of' hl]
  have:=List.getElem_idxOf (List.idxOf_lt_length_of_mem hm)
  unfold opp
  simp only [e,Int.toNat_natCast]
  exact this
 refine ⟨k,e,hk,hne,h,hl,ha,?_⟩
 have hm2:atP es i t∈srt es i:=(mem_srt G.F G.N1 hi').2 ⟨k,hk,h⟩
 have e2:((k:Int),!(atP es k (opp es i t)).2)=atP es i t:=by
  rw [ha,Bool.not_not]
  exact Prod.ext e.symm rfl
 have hl2:=List.idxOf_lt_length_of_mem hm2
 have e3:opp es k (opp es i t)=(srt es i).idxOf (atP es i t):=by
  have d: ∀u,opp es k u=(srt es (atP es k u).1.toNat).idxOf ((k:Int),!(atP es k u).2):=fun u=>rfl
  rw [d,e2,ha,Int.toNat_natCast]
 rw [e3]
 refine G.row_inj hi' hl2 ht ?_
 have:=List.getElem_idxOf hl2
 have d: ∀u,u<(srt es i).length→atP es i u=(srt es i).getD u (0,false):=fun u _=>rfl
 rw [d _ hl2,getD_of' hl2,this]
omit G in
theorem Xp0 {i:Nat}:Xp es (i,0)=qx (eAt es i).1:=by
 unfold Xp sgm
 dsimp only
 rw [if_pos rfl]
 grind
omit G in
theorem Xp1 {i:Nat}:Xp es (i,mR es i+1)=qx (eAt es i).2.1:=by
 unfold Xp sgm
 dsimp only
 rw [if_neg (by omega),if_pos rfl]
 grind
omit G in
theorem Xpc {i t k:Nat} (ht:t<mR es i) (e:(atP es i t).1=(k:Int)):Xp es (i,t+1)=xc es i k:=by
 unfold Xp sgm
 dsimp only
 rw [if_neg (by omega),if_neg (by omega),Nat.add_sub_cancel,e,Int.toNat_natCast]
 rfl
theorem Gen.dir {i:Nat} (hi':i<es.length):
  (qx (eAt es i).1<qx (eAt es i).2.1∧∀s t,s<t→t<mR es i+2→Xp es (i,s)<Xp es (i,t))∨(qx (eAt es i).2.1<qx (eAt es i).1∧∀s t,s<t→t<mR es i+2→Xp es (i,t)<Xp es (i,s)):=by
 obtain ⟨_,l⟩:=G.lohi hi'
 rcases l with ⟨_,_,l⟩ | ⟨_,_,l⟩
 ·
  refine .inl ⟨l,fun s t h1 h2=>?_⟩
  have:=G.sgm_lt hi' h1 h2
  have:=Rat.mul_pos (show 0<qx (eAt es i).2.1-qx (eAt es i).1 by grind) (show 0<sgm es i t-sgm es i s by grind)
  unfold Xp
  dsimp only
  grind
 ·
  refine .inr ⟨l,fun s t h1 h2=>?_⟩
  have:=G.sgm_lt hi' h1 h2
  have:=Rat.mul_pos (show 0<qx (eAt es i).1-qx (eAt es i).2.1 by grind) (show 0<sgm es i t-sgm es i s by grind)
  unfold Xp
  dsimp only
  grind
theorem Gen.Xrng {i t:Nat} (hi':i<es.length) (ht:t<mR es i+2):lo es i≤Xp es (i,t)∧Xp es (i,t)≤hi es i:=by
 obtain ⟨_,l⟩:=G.lohi hi'
 have x0:=Xp0 (es:=es) (i:=i)
 have x1:=Xp1 (es:=es) (i:=i)
 rcases G.dir hi' with ⟨d,h⟩ | ⟨d,h⟩
 ·
  have a:Xp es (i,0)≤Xp es (i,t):=by
   by_cases c:t=0
   · subst c; exact Rat.le_refl
   · exact Rat.le_of_lt (h 0 t (by omega) ht)
  have b:Xp es (i,t)≤Xp es (i,mR es i+1):=by
   by_cases c:t=mR es i+1
   · subst c; exact Rat.le_refl
   · exact Rat.le_of_lt (h t _ (by omega) (by omega))
  grind
 ·
  have a:Xp es (i,t)≤Xp es (i,0):=by
   by_cases c:t=0
   · subst c; exact Rat.le_refl
   · exact Rat.le_of_lt (h 0 t (by omega) ht)
  have b:Xp es (i,mR es i+1)≤Xp es (i,t):=by
   by_cases c:t=mR es i+1
   · subst c; exact Rat.le_refl
   · exact Rat.le_of_lt (h t _ (by omega) (by omega))
  grind
theorem Gen.arr {val:Nat→Nat→Bool} (B:Bits es val):Arr es.length (incL es.length (mR es)) (Xp es) (jv es val) (ptE es) (lo es) (hi es) (sl es) (ic es):=by
 refine ⟨incL_nodup _ _,fun a ha=>(mem_incL.1 ha).1,fun a ha=>?_,fun a ha=>?_,fun i hi'=>?_,fun i hi'=>(G.lohi hi').1⟩
 ·
  obtain ⟨i,t⟩:=a
  obtain ⟨hi',ht⟩:=mem_incL.1 ha
  dsimp only at hi' ht
  by_cases c0:t=0
  ·
   subst c0
   obtain ⟨p1,p2⟩:=G.pd hi'
   have hp:ptE es (i,0)=(pdE es i,mR es (pdE es i)+1):=by unfold ptE; dsimp only; rw [if_pos rfl]
   have j1:=G.R.jn _ p1
   rw [p2] at j1
   have a1:=(G.ab p1).2
   have a2:=(G.ab hi').1
   refine ⟨?_,?_,?_,?_,?_,?_⟩
   · rw [hp]; exact mem_incL.2 ⟨p1,by dsimp only; omega⟩
   ·
    rw [hp]
    unfold ptE
    dsimp only
    rw [if_neg (by omega),if_pos rfl,p2]
   · rw [hp]; intro e; have:=(Prod.mk.inj e).2; omega
   · rw [hp,Xp1,Xp0,j1]
   ·
    rw [hp]
    unfold jv
    dsimp only
    rw [wv_0,wv_end,wv_s (Nat.le_refl _),wv_s (Nat.zero_le _),B.vx _ p1,p2]
    cases val i 0<;>rfl
   ·
    rw [hp,Xp0]
    dsimp only
    show hh es (pdE es i) (qx (eAt es i).1)=hh es i (qx (eAt es i).1)
    rw [a2,j1,a1]
  by_cases c1:t=mR es i+1
  ·
   subst c1
   have hn:=G.R.lt i hi'
   have hp:ptE es (i,mR es i+1)=(nxE es i,0):=by unfold ptE; dsimp only; rw [if_neg (by omega),if_pos rfl]
   have j1:=G.R.jn _ hi'
   have a1:=(G.ab hi').2
   have a2:=(G.ab hn).1
   refine ⟨?_,?_,?_,?_,?_,?_⟩
   · rw [hp]; exact mem_incL.2 ⟨hn,by dsimp only; omega⟩
   ·
    rw [hp]
    unfold ptE
    dsimp only
    rw [if_pos rfl,G.pd_nx hi']
   · rw [hp]; intro e; have:=(Prod.mk.inj e).2; omega
   · rw [hp,Xp1,Xp0,j1]
   ·
    rw [hp]
    unfold jv
    dsimp only
    rw [wv_0,wv_end,wv_s (Nat.le_refl _),wv_s (Nat.zero_le _),B.vx _ hi']
    cases val (nxE es i) 0<;>rfl
   ·
    rw [hp,Xp1]
    dsimp only
    show hh es (nxE es i) (qx (eAt es i).2.1)=hh es i (qx (eAt es i).2.1)
    rw [a1,←j1,a2]
  ·
   obtain ⟨s,rfl⟩: ∃s,t=s+1:=⟨t-1,by omega⟩
   obtain ⟨k,e,hk,hne,h,hl,hat,hoo⟩:=G.opp_at hi' (show s<mR es i by omega)
   have hp:ptE es (i,s+1)=(k,opp es i s+1):=by
    unfold ptE
    dsimp only
    rw [if_neg (by omega),if_neg c1,Nat.add_sub_cancel,e,Int.toNat_natCast]
   refine ⟨?_,?_,?_,?_,?_,?_⟩
   · rw [hp]; exact mem_incL.2 ⟨hk,by dsimp only; omega⟩
   ·
    rw [hp]
    unfold ptE
    dsimp only
    rw [if_neg (by omega),if_neg (by omega),Nat.add_sub_cancel,hat,hoo,Int.toNat_natCast]
   · rw [hp]; intro e; exact hne (Prod.mk.inj e).1
   · rw [hp,Xpc hl (by rw [hat]),Xpc (show s<mR es i by omega) e,G.cross hi' hk h]
   ·
    rw [hp]
    unfold jv
    dsimp only
    rw [wv_s (by omega),wv_s (by omega),wv_s (by omega),wv_s (by omega)]
    exact (B.cx i k s _ hi' hk (by omega) hl e hat).symm
   ·
    rw [hp,Xpc (show s<mR es i by omega) e]
    dsimp only
    exact (G.cross0 hi' hk h).2.symm
 ·
  obtain ⟨i,t⟩:=a
  obtain ⟨hi',ht⟩:=mem_incL.1 ha
  exact G.Xrng hi' ht
 · exact own_tot (w:=wv es val i) hi' (wv_0 _ _ _) (wv_end _ _ _) (fun t _=>rfl)
end
def Rt (es:List Ed) (i:Nat):Prop:=qx (eAt es i).1<qx (eAt es i).2.1
instance (es:List Ed) (i:Nat):Decidable (Rt es i):=by unfold Rt; infer_instance
abbrev CR (es:List Ed) (val:Nat→Nat→Bool) (e:Nat) (z:Rat):Bool:=cR es.length (incL es.length (mR es)) (Xp es) (jv es val) (sl es) (ic es) e z
abbrev CL (es:List Ed) (val:Nat→Nat→Bool) (e:Nat) (z:Rat):Bool:=cL' es.length (incL es.length (mR es)) (Xp es) (jv es val) (sl es) (ic es) e z
def cA (es:List Ed) (val:Nat→Nat→Bool) (i t:Nat):Bool:=if Rt es i then CR es val i (Xp es (i,t))^^wv es val i (t+1) else CL es val i (Xp es (i,t))
def cB (es:List Ed) (val:Nat→Nat→Bool) (i t:Nat):Bool:=if Rt es i then CL es val i (Xp es (i,t))^^wv es val i t else CR es val i (Xp es (i,t))
def Wd (e f:Ed):Int:=(e.2.1.1-e.1.1)*(f.2.1.2.1-f.1.2.1)-(e.2.1.2.1-e.1.2.1)*(f.2.1.1-f.1.1)
theorem pos_of_mul {a b:Rat} (h:0<a*b) (hb:0<b):0<a:=by
 apply Classical.byContradiction
 intro hc
 have:=Rat.mul_le_mul_of_nonneg_left (show a≤0 by grind) (Rat.le_of_lt hb)
 grind
section
variable {es : List Ed} {vs : List (List Nat)} (G : Gen es vs)
include G
theorem Gen.up {i:Nat} (hi':i<es.length) (h:Rt es i): ∀s t,s<t→t<mR es i+2→Xp es (i,s)<Xp es (i,t):=by
 rcases G.dir hi' with ⟨d,q⟩ | ⟨d,q⟩
 · exact q
 · unfold Rt at h; grind
theorem Gen.down {i:Nat} (hi':i<es.length) (h: ¬Rt es i): ∀s t,s<t→t<mR es i+2→Xp es (i,t)<Xp es (i,s):=by
 rcases G.dir hi' with ⟨d,q⟩ | ⟨d,q⟩
 · unfold Rt at h; grind
 · exact q
theorem Gen.own {i t:Nat} (hi':i<es.length) (ht:t<mR es i+2) (val:Nat→Nat→Bool):
  (Rt es i→vL (incL es.length (mR es)) (Xp es) (jv es val) i (Xp es (i,t))=wv es val i t∧vR (incL es.length (mR es)) (Xp es) (jv es val) i (Xp es (i,t))=wv es val i (t+1))∧
  (¬Rt es i→vL (incL es.length (mR es)) (Xp es) (jv es val) i (Xp es (i,t))=wv es val i (t+1)∧vR (incL es.length (mR es)) (Xp es) (jv es val) i (Xp es (i,t))=wv es val i t):=
 ⟨fun h=>own_up (w:=wv es val i) hi' (wv_0 _ _ _) (fun t _=>rfl) (G.up hi' h) ht,fun h=>own_down (w:=wv es val i) hi' (wv_end _ _ _) (fun t _=>rfl) (G.down hi' h) ht⟩
theorem Gen.inj {i s t:Nat} (hi':i<es.length) (hs:s<mR es i+2) (ht:t<mR es i+2) (e:Xp es (i,s)=Xp es (i,t)):s=t:=by
 rcases G.dir hi' with ⟨d,q⟩ | ⟨d,q⟩
 ·
  rcases Nat.lt_trichotomy s t with c | c | c
  · have:=q s t c ht; grind
  · exact c
  · have:=q t s c hs; grind
 ·
  rcases Nat.lt_trichotomy s t with c | c | c
  · have:=q s t c ht; grind
  · exact c
  · have:=q t s c hs; grind
theorem Gen.hits {i k:Nat} (hi':i<es.length) (hk:k<es.length) (hne:k≠i) {z:Rat} (h1:lo es i<z) (h2:z<hi es i) (h3:lo es k≤z) (h4:z≤hi es k) (h:hh es k z=hh es i z): ∃s,s<mR es i∧(atP es i s).1=(k:Int)∧Xp es (i,s+1)=z:=by
 obtain ⟨⟨o,hp⟩,hz⟩:=G.meet hi' hk hne h1 h2 h3 h4 h
 obtain ⟨s,hs,e⟩:=G.pos hi' hk hp
 have e1:(atP es i s).1=(k:Int):=by rw [e]
 exact ⟨s,hs,e1,by rw [Xpc hs e1,hz]⟩
theorem Gen.gapL {val:Nat→Nat→Bool} (B:Bits es val) {i t:Nat} (hi':i<es.length) (ht:t≤mR es i):cB es val i (t+1)=cA es val i t:=by
 have r0:=G.Xrng hi' (show t<mR es i+2 by omega)
 have r1:=G.Xrng hi' (show t+1<mR es i+2 by omega)
 unfold cA cB
 by_cases hr:Rt es i
 ·
  rw [if_pos hr,if_pos hr]
  have hup:=G.up hi' hr
  congr 1
  refine ((G.arr B).gap (hup t (t+1) (by omega) (by omega)) fun k hk hne z z1 z2 z3 z4 e=>?_).symm
  obtain ⟨s,hs,_,e2⟩:=G.hits hi' hk hne (by grind) (by grind) z3 z4 e
  rcases Nat.lt_or_ge (s+1) (t+1) with c | c
  ·
   rcases Nat.lt_or_ge (s+1) t with c' | c'
   · have:=hup (s+1) t c' (by omega); grind
   ·
    have:s+1=t:=by omega
    rw [this] at e2; grind
  ·
   rcases Nat.lt_or_ge (t+1) (s+1) with c' | c'
   · have:=hup (t+1) (s+1) c' (by omega); grind
   ·
    have:s+1=t+1:=by omega
    rw [this] at e2; grind
 ·
  rw [if_neg hr,if_neg hr]
  have hdn:=G.down hi' hr
  refine (G.arr B).gap (hdn t (t+1) (by omega) (by omega)) fun k hk hne z z1 z2 z3 z4 e=>?_
  obtain ⟨s,hs,_,e2⟩:=G.hits hi' hk hne (by grind) (by grind) z3 z4 e
  rcases Nat.lt_or_ge (s+1) (t+1) with c | c
  ·
   rcases Nat.lt_or_ge (s+1) t with c' | c'
   · have:=hdn (s+1) t c' (by omega); grind
   ·
    have:s+1=t:=by omega
    rw [this] at e2; grind
  ·
   rcases Nat.lt_or_ge (t+1) (s+1) with c' | c'
   · have:=hdn (t+1) (s+1) c' (by omega); grind
   ·
    have:s+1=t+1:=by omega
    rw [this] at e2; grind
theorem Gen.slope {i k:Nat} (hi':i<es.length) (hk:k<es.length):(sl es k-sl es i)*((qx (eAt es i).2.1-qx (eAt es i).1)*(qx (eAt es k).2.1-qx (eAt es k).1))=3000*(Wd (eAt es i) (eAt es k):Rat):=by
 have n1:=G.ne hi'
 have n2:=G.ne hk
 have d1:qx (eAt es i).2.1-qx (eAt es i).1≠0:=by grind
 have d2:qx (eAt es k).2.1-qx (eAt es k).1≠0:=by grind
 have e1:sl es k*(qx (eAt es k).2.1-qx (eAt es k).1)=qy (eAt es k).2.1-qy (eAt es k).1:=by unfold sl; grind
 have e2:sl es i*(qx (eAt es i).2.1-qx (eAt es i).1)=qy (eAt es i).2.1-qy (eAt es i).1:=by unfold sl; grind
 have e3:(Wd (eAt es i) (eAt es k):Rat)*3000=(qx (eAt es i).2.1-qx (eAt es i).1)*(qy (eAt es k).2.1-qy (eAt es k).1)-(qy (eAt es i).2.1-qy (eAt es i).1)*(qx (eAt es k).2.1-qx (eAt es k).1):=by
  unfold Wd qx qy
  grind
 grind
theorem Gen.vxL {val:Nat→Nat→Bool} (B:Bits es val) {i:Nat} (hi':i<es.length):cA es val (nxE es i) 0=cB es val i (mR es i+1):=by
 have hn:=G.R.lt i hi'
 have hj:=G.R.jn i hi'
 have hne:i≠nxE es i:=fun e=>G.n2 hi' e.symm
 have e0:Xp es (nxE es i,0)=qx (eAt es i).2.1:=by rw [Xp0,hj]
 have e1:=Xp1 (es:=es) (i:=i)
 have vi:=(G.ab hi').2
 have vn:=(G.ab hn).1
 rw [hj] at vn
 obtain ⟨Λ,p1,p2,p3,p4⟩:=(G.arr B).point hi' hn hne (z:=qx (eAt es i).2.1) (by show hh es i _=hh es (nxE es i) _; rw [vi,vn]) fun k hk k1 k2 k3 k4=>by
  show hh es k _≠hh es i _
  rw [vi,←hj]
  refine G.corner hn hk k2 (fun e=>k1 (G.R.inj hk hi' e)) (by rw [hj]; exact k3) (by rw [hj]; exact k4)
 have oi:=G.own hi' (show mR es i+1<mR es i+2 by omega) val
 have on:=G.own hn (show 0<mR es (nxE es i)+2 by omega) val
 rw [e1] at oi
 rw [e0] at on
 rw [wv_end,wv_s (Nat.le_refl _)] at oi
 rw [wv_0,wv_s (Nat.zero_le _),←B.vx i hi'] at on
 unfold cA cB
 rw [e0,e1,wv_s (Nat.zero_le _),wv_s (Nat.le_refl _),←B.vx i hi']
 obtain ⟨_,li⟩:=G.lohi hi'
 obtain ⟨_,ln⟩:=G.lohi hn
 rw [hj] at ln
 -- on one side the slopes differ
 have hsl:(Rt es i↔¬Rt es (nxE es i))→sl es i≠sl es (nxE es i):=by
  intro hc e
  have all: ∀w,hh es (nxE es i) w=hh es i w:=fun w=>by
   have:=hh_diff es (nxE es i) i (qx (eAt es i).2.1) w
   rw [e,vi,vn] at this
   grind
  by_cases hr:Rt es i
  ·
   have hnr: ¬Rt es (nxE es i):=hc.1 hr
   unfold Rt at hr hnr
   rw [hj] at hnr
   obtain ⟨z,z1,z2,z3⟩: ∃z,qx (eAt es i).1<z∧qx (eAt es (nxE es i)).2.1<z∧z<qx (eAt es i).2.1:=by
    rcases Rat.le_total (a:=qx (eAt es i).1) (b:=qx (eAt es (nxE es i)).2.1) with q | q
    · exact ⟨(qx (eAt es (nxE es i)).2.1+qx (eAt es i).2.1)/ 2,by grind,by grind,by grind⟩
    · exact ⟨(qx (eAt es i).1+qx (eAt es i).2.1)/ 2,by grind,by grind,by grind⟩
   exact G.apart hi' hn (fun q=>hne q.symm) e.symm (all z) (by grind) (by grind) (by grind) (by grind)
  ·
   have hnr:Rt es (nxE es i):=Classical.byContradiction fun q=>hr (hc.2 q)
   unfold Rt at hr hnr
   rw [hj] at hnr
   obtain ⟨z,z1,z2,z3⟩: ∃z,z<qx (eAt es i).1∧z<qx (eAt es (nxE es i)).2.1∧qx (eAt es i).2.1<z:=by
    rcases Rat.le_total (a:=qx (eAt es i).1) (b:=qx (eAt es (nxE es i)).2.1) with q | q
    · exact ⟨(qx (eAt es i).1+qx (eAt es i).2.1)/ 2,by grind,by grind,by grind⟩
    · exact ⟨(qx (eAt es (nxE es i)).2.1+qx (eAt es i).2.1)/ 2,by grind,by grind,by grind⟩
   exact G.apart hi' hn (fun q=>hne q.symm) e.symm (all z) (by grind) (by grind) (by grind) (by grind)
 unfold CR CL
 generalize val i (mR es i)=s at*
 by_cases hr:Rt es i<;>by_cases hr2:Rt es (nxE es i)
 · rw [if_pos hr,if_pos hr2,p2,p3,(oi.1 hr).2,(on.1 hr2).1,Bool.and_false]
 ·
  rw [if_pos hr,if_neg hr2,p2,p4,(oi.1 hr).1,(on.2 hr2).1]
  rcases (by have:=hsl ⟨fun _=>hr2,fun _=>hr⟩; grind:sl es i<sl es (nxE es i)∨sl es (nxE es i)<sl es i) with q | q
  ·
   rw [dT q,dF (by grind)]
   cases Λ<;>cases s<;>rfl
  ·
   rw [dT q,dF (show¬sl es i<sl es (nxE es i) by grind)]
   cases Λ<;>cases s<;>rfl
 ·
  rw [if_neg hr,if_pos hr2,p1,p3,(oi.2 hr).2,(on.1 hr2).2]
  rcases (by have:=hsl ⟨fun q=>absurd q hr,fun q=>absurd hr2 q⟩; grind:sl es i<sl es (nxE es i)∨sl es (nxE es i)<sl es i) with q | q
  ·
   rw [dT q,dF (by grind)]
   cases Λ<;>cases s<;>rfl
  ·
   rw [dT q,dF (show¬sl es i<sl es (nxE es i) by grind)]
   cases Λ<;>cases s<;>rfl
 · rw [if_neg hr,if_neg hr2,p1,p4,(oi.2 hr).1,(on.2 hr2).2,Bool.and_false]
theorem Gen.crL {val:Nat→Nat→Bool} (B:Bits es val) {i k t u:Nat} (hi':i<es.length) (hk:k<es.length) (ht:t<mR es i) (hu:u<mR es k) (e1:(atP es i t).1=(k:Int)) (e2:atP es k u=((i:Int),!(atP es i t).2)) (hW:0<Wd (eAt es i) (eAt es k)):
  cB es val k (u+1)=(cB es val i (t+1)^^val i t)∧cA es val k (u+1)=cB es val i (t+1)∧cA es val i (t+1)=(cB es val i (t+1)^^val k (u+1)):=by
 obtain ⟨k',q1,_,hne,hp⟩:=G.row hi' ht
 have:k'=k:=by omega
 subst this
 have x1:=Xpc ht e1
 have x2:Xp es (k',u+1)=xc es i k':=by rw [Xpc hu (by rw [e2]),G.cross hi' hk hp]
 have hh0:=(G.cross0 hi' hk hp).2
 have c:=B.cx i k' t u hi' hk ht hu e1 e2
 obtain ⟨Λ,p1,p2,p3,p4⟩:=(G.arr B).point hi' hk (fun e=>hne e.symm) (z:=xc es i k') hh0 fun j hj j1 j2 j3 j4 e=>by
  have lh:lo es i<xc es i k'∧xc es i k'<hi es i:=by
   obtain ⟨_,li⟩:=G.lohi hi'
   have x0:=Xp0 (es:=es) (i:=i)
   have xm:=Xp1 (es:=es) (i:=i)
   by_cases hr:Rt es i
   ·
    have a:=G.up hi' hr 0 (t+1) (by omega) (by omega)
    have b:=G.up hi' hr (t+1) (mR es i+1) (by omega) (by omega)
    grind
   ·
    have a:=G.down hi' hr 0 (t+1) (by omega) (by omega)
    have b:=G.down hi' hr (t+1) (mR es i+1) (by omega) (by omega)
    grind
  obtain ⟨s,hs,s1,s2⟩:=G.hits hi' hj j1 lh.1 lh.2 j3 j4 e
  have:=G.inj hi' (show s+1<mR es i+2 by omega) (show t+1<mR es i+2 by omega) (by rw [s2,x1])
  have:s=t:=by omega
  subst this
  exact j2 (by omega)
 have oi:=G.own hi' (show t+1<mR es i+2 by omega) val
 have ok:=G.own hk (show u+1<mR es k'+2 by omega) val
 rw [x1] at oi
 rw [x2] at ok
 rw [wv_s (by omega),wv_s (by omega)] at oi ok
 have sp:=G.slope hi' hk
 have hW':(0:Rat)<(Wd (eAt es i) (eAt es k'):Rat):=Rat.intCast_lt_intCast.2 hW
 unfold cA cB
 rw [x1,x2,wv_s (show t≤mR es i by omega),wv_s (show t+1≤mR es i by omega),wv_s (show u≤mR es k' by omega),wv_s (show u+1≤mR es k' by omega)]
 unfold CR CL
 have ni:=G.ne hi'
 have nk:=G.ne hk
 have s12:((Rt es i↔Rt es k')→sl es i<sl es k')∧(¬(Rt es i↔Rt es k')→sl es k'<sl es i):=by
  generalize hDi:qx (eAt es i).2.1-qx (eAt es i).1=Di at*
  generalize hDk:qx (eAt es k').2.1-qx (eAt es k').1=Dk at*
  unfold Rt
  constructor
  ·
   intro hc
   have:0<Di*Dk:=by
    by_cases q:qx (eAt es i).1<qx (eAt es i).2.1
    · exact Rat.mul_pos (by grind) (by have:=hc.1 q; grind)
    ·
     have:=Rat.mul_pos (show 0< -Di by grind) (show 0< -Dk by
      have: ¬qx (eAt es k').1<qx (eAt es k').2.1:=fun w=>q (hc.2 w)
      grind)
     grind
   have:=pos_of_mul (a:=sl es k'-sl es i) (b:=Di*Dk) (by rw [sp]; grind) this
   grind
  ·
   intro hc
   have:0< -(Di*Dk):=by
    by_cases q:qx (eAt es i).1<qx (eAt es i).2.1
    ·
     have:=Rat.mul_pos (show 0<Di by grind) (show 0< -Dk by
      have: ¬qx (eAt es k').1<qx (eAt es k').2.1:=fun w=>hc ⟨fun _=>w,fun _=>q⟩
      grind)
     grind
    ·
     have:=Rat.mul_pos (show 0< -Di by grind) (show 0<Dk by
      have:qx (eAt es k').1<qx (eAt es k').2.1:=Classical.byContradiction fun w=>hc ⟨fun v=>absurd v q,fun v=>absurd v w⟩
      grind)
     grind
   have:=pos_of_mul (a:=sl es i-sl es k') (b:=-(Di*Dk)) (by grind) this
   grind
 generalize val i t=a at*
 generalize val i (t+1)=b at*
 generalize val k' u=c' at*
 generalize val k' (u+1)=d at*
 by_cases hr:Rt es i<;>by_cases hr2:Rt es k'
 ·
  have s:=s12.1 ⟨fun _=>hr2,fun _=>hr⟩
  have s': ¬sl es k'<sl es i:=by grind
  rw [if_pos hr,if_pos hr2,if_pos hr,if_pos hr2,p1,p2,p3,p4,(oi.1 hr).1,(oi.1 hr).2,(ok.1 hr2).1,(ok.1 hr2).2,dT s,dF s']
  revert c
  cases Λ<;>cases a<;>cases b<;>cases c'<;>cases d<;>decide
 ·
  have s:=s12.2 (fun q=>hr2 (q.1 hr))
  have s': ¬sl es i<sl es k':=by grind
  rw [if_pos hr,if_neg hr2,if_pos hr,if_neg hr2,p1,p2,p3,p4,(oi.1 hr).1,(oi.1 hr).2,(ok.2 hr2).1,(ok.2 hr2).2,dT s,dF s']
  revert c
  cases Λ<;>cases a<;>cases b<;>cases c'<;>cases d<;>decide
 ·
  have s:=s12.2 (fun q=>hr (q.2 hr2))
  have s': ¬sl es i<sl es k':=by grind
  rw [if_neg hr,if_pos hr2,if_neg hr,if_pos hr2,p1,p2,p3,p4,(oi.2 hr).1,(oi.2 hr).2,(ok.1 hr2).1,(ok.1 hr2).2,dT s,dF s']
  revert c
  cases Λ<;>cases a<;>cases b<;>cases c'<;>cases d<;>decide
 ·
  have s:=s12.1 ⟨fun q=>absurd q hr,fun q=>absurd q hr2⟩
  have s': ¬sl es k'<sl es i:=by grind
  rw [if_neg hr,if_neg hr2,if_neg hr,if_neg hr2,p1,p2,p3,p4,(oi.2 hr).1,(oi.2 hr).2,(ok.2 hr2).1,(ok.2 hr2).2,dT s,dF s']
  revert c
  cases Λ<;>cases a<;>cases b<;>cases c'<;>cases d<;>decide
end
def par (T:Nat→Bool) (c:Nat):Bool:=((T (4*c)^^T (4*c+1))^^T (4*c+2))^^T (4*c+3)
theorem par_flip (T:Nat→Bool) (x c:Nat):par (fun z=>T z^^decide (z=x)) c=(par T c^^decide (x/ 4=c)):=by
 have key: ∀q r,r<4→x=4*q+r→par (fun z=>T z^^decide (z=x)) c=(par T c^^decide (x/ 4=c)):=by
  intro q r hr hx
  have hq:x/ 4=q:=by omega
  rw [hq]
  unfold par
  dsimp only
  by_cases e:q=c
  ·
   subst e
   have hr4:r=0∨r=1∨r=2∨r=3:=by omega
   rcases hr4 with h | h | h | h<;>subst h<;>subst hx
   ·
    rw [dT (show 4*q=4*q+0 by omega),dF (show¬4*q+1=4*q+0 by omega),dF (show¬4*q+2=4*q+0 by omega),dF (show¬4*q+3=4*q+0 by omega),dT rfl]
    cases T (4*q)<;>cases T (4*q+1)<;>cases T (4*q+2)<;>cases T (4*q+3)<;>rfl
   ·
    rw [dF (show¬4*q=4*q+1 by omega),dT (show 4*q+1=4*q+1 by omega),dF (show¬4*q+2=4*q+1 by omega),dF (show¬4*q+3=4*q+1 by omega),dT rfl]
    cases T (4*q)<;>cases T (4*q+1)<;>cases T (4*q+2)<;>cases T (4*q+3)<;>rfl
   ·
    rw [dF (show¬4*q=4*q+2 by omega),dF (show¬4*q+1=4*q+2 by omega),dT (show 4*q+2=4*q+2 by omega),dF (show¬4*q+3=4*q+2 by omega),dT rfl]
    cases T (4*q)<;>cases T (4*q+1)<;>cases T (4*q+2)<;>cases T (4*q+3)<;>rfl
   ·
    rw [dF (show¬4*q=4*q+3 by omega),dF (show¬4*q+1=4*q+3 by omega),dF (show¬4*q+2=4*q+3 by omega),dT (show 4*q+3=4*q+3 by omega),dT rfl]
    cases T (4*q)<;>cases T (4*q+1)<;>cases T (4*q+2)<;>cases T (4*q+3)<;>rfl
  ·
   rw [dF (show¬4*c=x by omega),dF (show¬4*c+1=x by omega),dF (show¬4*c+2=x by omega),dF (show¬4*c+3=x by omega),dF e]
   cases T (4*c)<;>cases T (4*c+1)<;>cases T (4*c+2)<;>cases T (4*c+3)<;>rfl
 exact key (x/ 4) (x%4) (Nat.mod_lt _ (by omega)) (by omega)
theorem par_none (c:Nat):par (fun _=>false) c=false:=rfl
theorem way_set {n:Nat} {ν:Nat→Nat} (hν:IV n ν) {p q:Nat} (h:Cn (adjP n ν) p q): ∃T:Nat→Bool,(∀x,x<4*n→T (ν x)=T x)∧(∀x,x<4*n→T x=true→ν x≠x)∧∀c,c<n→par T c=(decide (p=c)^^decide (q=c)):=by
 induction h with
 | refl=>exact ⟨fun _=>false,fun _ _=>rfl,fun _ _ h=>absurd (show false=true from h) (by decide),fun c _=>by rw [par_none]; cases decide (p=c)<;>rfl⟩
 | @step b d h1 h2 ih=>
  obtain ⟨T,t1,t2,t3⟩:=ih
  obtain ⟨hb,hd,s,hs,hm⟩:=h2
  generalize hx:4*b+s=x at hm
  have hxl:x<4*n:=by omega
  have hxb:x/ 4=b:=by omega
  by_cases hf:ν x=x
  ·
   rw [hf,hxb] at hm
   subst hm
   exact ⟨T,t1,t2,t3⟩
  ·
   have hyl:=hν.lt x hxl
   have hyy:=hν.inv x hxl
   refine ⟨fun z=>(T z^^decide (z=x))^^decide (z=ν x),fun z hz=>?_,fun z hz hT=>?_,fun c hc=>?_⟩
   ·
    dsimp only
    rw [t1 z hz]
    have e1:decide (ν z=x)=decide (z=ν x):=decide_eq_decide.2 ⟨fun e=>by rw [←e,hν.inv z hz],fun e=>by rw [e,hyy]⟩
    have e2:decide (ν z=ν x)=decide (z=x):=decide_eq_decide.2 ⟨fun e=>by rw [←hν.inv z hz,e,hyy],fun e=>by rw [e]⟩
    rw [e1,e2]
    cases T z<;>cases decide (z=x)<;>cases decide (z=ν x)<;>rfl
   ·
    dsimp only at hT
    intro hz2
    by_cases e1:z=x
    · subst e1; exact hf hz2
    by_cases e2:z=ν x
    ·
     subst e2
     rw [hyy] at hz2
     exact hf hz2.symm
    rw [dF e1,dF e2,Bool.xor_false,Bool.xor_false] at hT
    exact t2 z hz hT hz2
   ·
    rw [par_flip (fun z=>T z^^decide (z=x)) (ν x) c,par_flip T x c,t3 c hc,hxb,hm]
    cases decide (p=c)<;>cases decide (b=c)<;>cases decide (d=c)<;>rfl
def Parts (n:Nat) (μ:Nat→Nat):Prop:= ∀S:Nat→Bool,(∀x,x<4*n→S (μ x)=S x)→(∀c,c<n→par S c=false)→
 ∃κ:Nat→Bool,(∀x,x<4*n→κ (fc μ x)=κ x)∧∀x,x<4*n→(κ x^^κ (turnN x 3))=S x
theorem dd_add' {n:Nat} {μ:Nat→Nat} (h:IV n μ) {a b:Nat} (ha:a<4*n) (hb:b<4*n) (hab:a≠b) (fa:μ a=a) (fb:μ b=b):dd n (addP μ a b)=dd n μ∨(Cn (adjP n μ) (a/ 4) (b/ 4)∧¬Cn (adjI (4*n) (fc μ)) a b):=by
 have hm:mvd n (addP μ a b)=mvd n μ+2:=by
  unfold mvd
  have c1:=cnt_one (N:=4*n) (p:=fun x=>μ x≠x) ha (fun q=>q fa)
  have c2:=cnt_one (N:=4*n) (p:=fun h=>h=a∨μ h≠h) hb (by rintro (e | e); exact hab e.symm; exact e fb)
  have c3:cnt (4*n) (fun x=>addP μ a b x≠x)=cnt (4*n) (fun h=>h=b∨h=a∨μ h≠h):=by
   refine cnt_congr fun k hk=>?_
   unfold addP
   by_cases k1:k=a
   · subst k1; rw [if_pos rfl]; exact ⟨fun _=>.inr (.inl rfl),fun _ e=>hab e.symm⟩
   by_cases k2:k=b
   · subst k2; rw [if_neg k1,if_pos rfl]; exact ⟨fun _=>.inl rfl,fun _ e=>hab e⟩
   ·
    rw [if_neg k1,if_neg k2]
    exact ⟨fun e=>.inr (.inr e),fun e=>by rcases e with e | e | e; exact absurd e k2; exact absurd e k1; exact e⟩
  omega
 have hf:fc (addP μ a b)=sw (fc μ) a b:=by
  funext x
  unfold fc addP sw
  by_cases x1:x=a
  ·
   rw [if_pos x1,if_pos x1]
   show turnN b 3=turnN (μ b) 3
   rw [fb]
  by_cases x2:x=b
  ·
   rw [if_neg x1,if_pos x2,if_neg x1,if_pos x2]
   show turnN a 3=turnN (μ a) 3
   rw [fa]
  · rw [if_neg x1,if_neg x2,if_neg x1,if_neg x2]
 have hF:cls (4*n) (adjF n (addP μ a b))=cls (4*n) (adjI (4*n) (sw (fc μ) a b)):=by
  rw [←hf]; rfl
 have hF0:cls (4*n) (adjF n μ)=cls (4*n) (adjI (4*n) (fc μ)):=rfl
 obtain ⟨f1,f2⟩:=cls_sw h.pi ha hb hab
 have hP: ∀x y,Cn (adjP n (addP μ a b)) x y↔Cn (orAdj (adjP n μ) (a/ 4) (b/ 4)) x y:=by
  intro x y
  constructor
  ·
   refine fun hc=>Cn.map (f:=id) (fun x y hxy=>?_) hc
   show Cn _ x y
   obtain ⟨h1,h2,s,hs,h3⟩:=hxy
   unfold addP at h3
   by_cases s1:4*x+s=a
   ·
    rw [if_pos s1] at h3
    exact Cn.one (.inr (.inl ⟨by omega,h3.symm⟩))
   by_cases s2:4*x+s=b
   ·
    rw [if_neg s1,if_pos s2] at h3
    exact Cn.one (.inr (.inr ⟨by omega,h3.symm⟩))
   ·
    rw [if_neg s1,if_neg s2] at h3
    exact Cn.one (.inl ⟨h1,h2,s,hs,h3⟩)
  ·
   have hp:adjP n (addP μ a b) (a/ 4) (b/ 4):=⟨by omega,by omega,a%4,by omega,by
    rw [show 4*(a/ 4)+a%4=a from by omega]
    unfold addP
    rw [if_pos rfl]⟩
   refine fun hc=>Cn.map (f:=id) (fun x y hxy=>?_) hc
   show Cn _ x y
   rcases hxy with ⟨h1,h2,s,hs,h3⟩ | ⟨rfl,rfl⟩ | ⟨rfl,rfl⟩
   ·
    by_cases s1:4*x+s=a
    ·
     rw [s1,fa] at h3
     have:x=y:=by omega
     rw [this]; exact .refl _
    by_cases s2:4*x+s=b
    ·
     rw [s2,fb] at h3
     have:x=y:=by omega
     rw [this]; exact .refl _
    ·
     refine Cn.one ⟨h1,h2,s,hs,?_⟩
     unfold addP
     rw [if_neg s1,if_neg s2]; exact h3
   · exact Cn.one hp
   · exact Cn.one ((h.add ha hb hab fa fb).symm _ _ hp)
 have hK:cls n (adjP n (addP μ a b))=cls n (orAdj (adjP n μ) (a/ 4) (b/ 4)):=cls_congr fun x y _ _=>hP x y
 unfold dd
 by_cases hc:Cn (adjP n μ) (a/ 4) (b/ 4)
 ·
  have hK2:cls n (orAdj (adjP n μ) (a/ 4) (b/ 4))=cls n (adjP n μ):=cls_congr fun x y _ _=>⟨fun q=>Cn.map (f:=id) (fun x y hxy=>by
   show Cn _ x y
   rcases hxy with hxy | ⟨rfl,rfl⟩ | ⟨rfl,rfl⟩
   · exact Cn.one hxy
   · exact hc
   · exact hc.symm h.symm) q,fun q=>Cn.map (f:=id) (fun x y hxy=>Cn.one (.inl hxy)) q⟩
  by_cases hfc:Cn (adjI (4*n) (fc μ)) a b
  ·
   have:=f2 hfc
   left; omega
  ·
   have:=f1 hfc
   right; exact ⟨hc,hfc⟩
 ·
  have hj:=cls_join h.symm (show a/ 4<n by omega) (show b/ 4<n by omega) hc
  have:=f1 (fun hfc=>hc (face_part h hfc))
  left; omega
theorem dd_flat {n:Nat} {μ:Nat→Nat} (h:IV n μ) (hP:Parts n μ) {ν:Nat→Nat} (hν:IV n ν) (hle: ∀x,x<4*n→ν x=x∨ν x=μ x) {a:Nat} (ha:a<4*n) (hab:a≠μ a) (fa:ν a=a) (fb:ν (μ a)=μ a):dd n (addP ν a (μ a))=dd n ν:=by
 have hb:=h.lt a ha
 rcases dd_add' hν ha hb hab fa fb with q | ⟨hc,hfc⟩
 · exact q
 exfalso
 obtain ⟨T,t1,t2,t3⟩:=way_set hν hc
 have hf:fc (addP ν a (μ a))=sw (fc ν) a (μ a):=by
  funext x
  unfold fc addP sw
  by_cases x1:x=a
  ·
   rw [if_pos x1,if_pos x1]
   show turnN (μ a) 3=turnN (ν (μ a)) 3
   rw [fb]
  by_cases x2:x=μ a
  ·
   rw [if_neg x1,if_pos x2,if_neg x1,if_pos x2]
   show turnN a 3=turnN (ν a) 3
   rw [fa]
  · rw [if_neg x1,if_neg x2,if_neg x1,if_neg x2]
 -- a and its mate are joined by the new faces
 have hj:Cn (adjI (4*n) (fc (addP ν a (μ a)))) a (μ a):=by
  rw [hf]
  exact (cn_sw hν.pi ha hb hfc a (μ a)).2 (Cn.one (.inr (.inl ⟨rfl,rfl⟩)))
 have hia:μ (μ a)=a:=h.inv a ha
 have ha0:T a=false:=by
  cases e:T a with
  | false=>rfl
  | true=>exact absurd fa (t2 a ha e)
 have hb0:T (μ a)=false:=by
  cases e:T (μ a) with
  | false=>rfl
  | true=>exact absurd fb (t2 _ hb e)
 obtain ⟨κ,k1,k2⟩:=hP (fun z=>(T z^^decide (z=a))^^decide (z=μ a)) (fun x hx=>by
  have e1:decide (μ x=a)=decide (x=μ a):=decide_eq_decide.2 ⟨fun e=>by rw [←e,h.inv x hx],fun e=>by rw [e,hia]⟩
  have e2:decide (μ x=μ a)=decide (x=a):=decide_eq_decide.2 ⟨fun e=>by rw [←h.inv x hx,e,hia],fun e=>by rw [e]⟩
  have e3:T (μ x)=T x:=by
   rcases hle x hx with q | q
   ·
    have h1:T x=false:=by
     cases e:T x with
     | false=>rfl
     | true=>exact absurd q (t2 x hx e)
    have h2:T (μ x)=false:=by
     cases e:T (μ x) with
     | false=>rfl
     | true=>
      have h3:=t2 _ (h.lt x hx) e
      rcases hle _ (h.lt x hx) with q2 | q2
      · exact absurd q2 h3
      ·
       rw [h.inv x hx] at q2
       have h4:=hν.inv _ (h.lt x hx)
       rw [q2,q] at h4
       exact absurd (q2.trans h4) h3
    rw [h1,h2]
   · rw [←q,t1 x hx]
  rw [e1,e2,e3]
  cases T x<;>cases decide (x=a)<;>cases decide (x=μ a)<;>rfl) (fun c hcn=>by
  rw [par_flip (fun z=>T z^^decide (z=a)) (μ a) c,par_flip T a c,t3 c hcn]
  cases decide (a/ 4=c)<;>cases decide (μ a/ 4=c)<;>rfl)
 -- the corners of the new faces keep their side
 have hinv: ∀x,x<4*n→κ (fc (addP ν a (μ a)) x)=κ x:=by
  intro x hx
  by_cases x1:x=a
  ·
   have:fc (addP ν a (μ a)) x=fc μ x:=by unfold fc addP; rw [if_pos x1,x1]
   rw [this,k1 x hx]
  by_cases x2:x=μ a
  ·
   have:fc (addP ν a (μ a)) x=fc μ x:=by unfold fc addP; rw [if_neg x1,if_pos x2,x2,hia]
   rw [this,k1 x hx]
  rcases hle x hx with q | q
  ·
   have:fc (addP ν a (μ a)) x=turnN x 3:=by unfold fc addP; rw [if_neg x1,if_neg x2,q]
   rw [this]
   have h1:T x=false:=by
    cases e:T x with
    | false=>rfl
    | true=>exact absurd q (t2 x hx e)
   have h2:=k2 x hx
   rw [h1,dF x1,dF x2] at h2
   revert h2
   cases κ x<;>cases κ (turnN x 3)<;>decide
  ·
   have:fc (addP ν a (μ a)) x=fc μ x:=by unfold fc addP; rw [if_neg x1,if_neg x2,q]
   rw [this,k1 x hx]
 have hsame:κ a=κ (μ a):=by
  have: ∀y,Cn (adjI (4*n) (fc (addP ν a (μ a)))) a y→κ a=κ y:=by
   intro y hy
   refine Cn.closed (S:=fun y=>κ a=κ y) (fun u v hu ⟨h1,h2,h3⟩=>?_) hy rfl
   rcases h3 with h3 | h3
   · rw [h3,hinv u h1]; exact hu
   · rw [h3,hinv v h2] at hu; exact hu
  exact this _ hj
 have h1:=k2 a ha
 have h2:=k1 _ hb
 have h3:fc μ (μ a)=turnN a 3:=by unfold fc; rw [hia]
 rw [h3] at h2
 rw [ha0,dT rfl,dF hab,h2,hsame] at h1
 revert h1
 cases κ (μ a)<;>decide
theorem dd_same {n:Nat} {μ:Nat→Nat} (h:IV n μ) (hP:Parts n μ): ∀(k:Nat) (ν:Nat→Nat),IV n ν→4*n-mvd n ν≤k→(∀x,x<4*n→ν x=x∨ν x=μ x)→dd n μ=dd n ν:=by
 intro k
 induction k with
 | zero=>
  intro ν hν hk hle
  have hc:=cnt_le (4*n) (fun x=>ν x≠x)
  have hall: ∀x,x<4*n→ν x≠x:=by
   intro x hx e
   have:=cnt_one (N:=4*n) (p:=fun x=>ν x≠x) hx (fun q=>q e)
   have h2:=cnt_le (4*n) (fun h=>h=x∨ν h≠h)
   unfold mvd at hk
   omega
  have e: ∀x,x<4*n→ν x=μ x:=fun x hx=>by
   rcases hle x hx with q | q
   · exact absurd q (hall x hx)
   · exact q
  have e1:cls n (adjP n μ)=cls n (adjP n ν):=cls_congr fun x y _ _=>by
   have:adjP n μ=adjP n ν:=by
    funext c d
    refine propext ⟨fun ⟨h1,h2,s,hs,h3⟩=>⟨h1,h2,s,hs,by rw [e _ (by omega)]; exact h3⟩,fun ⟨h1,h2,s,hs,h3⟩=>⟨h1,h2,s,hs,by rw [←e _ (by omega)]; exact h3⟩⟩
   rw [this]
  have e2:cls (4*n) (adjF n μ)=cls (4*n) (adjF n ν):=cls_congr fun x y _ _=>by
   have:adjF n μ=adjF n ν:=by
    funext c d
    unfold adjF fc
    refine propext ⟨fun ⟨h1,h2,h3⟩=>⟨h1,h2,by rw [e c h1,e d h2]; exact h3⟩,fun ⟨h1,h2,h3⟩=>⟨h1,h2,by rw [←e c h1,←e d h2]; exact h3⟩⟩
   rw [this]
  have e3:mvd n μ=mvd n ν:=cnt_congr fun x hx=>by rw [e x hx]
  unfold dd
  rw [e1,e2,e3]
 | succ k ih=>
  intro ν hν hk hle
  by_cases hex: ∃x,x<4*n∧ν x≠μ x
  ·
   obtain ⟨a,ha,hne⟩:=hex
   have fa:ν a=a:=by
    rcases hle a ha with q | q
    · exact q
    · exact absurd q hne
   have hb:=h.lt a ha
   have hab:a≠μ a:=fun e=>hne (by rw [fa]; exact e)
   have fb:ν (μ a)=μ a:=by
    rcases hle _ hb with q | q
    · exact q
    ·
     rw [h.inv a ha] at q
     exact absurd (by rw [←hν.inv _ hb,q,fa]) hab
   have hI:=hν.add ha hb hab fa fb
   have hm:mvd n ν+2≤mvd n (addP ν a (μ a)):=by
    have:=dd_add hν ha hb hab fa fb
    unfold mvd
    have c1:=cnt_one (N:=4*n) (p:=fun x=>ν x≠x) ha (fun q=>q fa)
    have c2:=cnt_one (N:=4*n) (p:=fun h=>h=a∨ν h≠h) hb (by rintro (e | e); exact hab e.symm; exact e fb)
    have:cnt (4*n) (fun h=>h=μ a∨h=a∨ν h≠h)=cnt (4*n) (fun x=>addP ν a (μ a) x≠x):=by
     refine cnt_congr fun k hk=>?_
     unfold addP
     by_cases k1:k=a
     · subst k1; rw [if_pos rfl]; exact ⟨fun _ e=>hab e.symm,fun _=>.inr (.inl rfl)⟩
     by_cases k2:k=μ a
     · subst k2; rw [if_neg k1,if_pos rfl]; exact ⟨fun _ e=>hab e,fun _=>.inl rfl⟩
     ·
      rw [if_neg k1,if_neg k2]
      exact ⟨fun e=>by rcases e with e | e | e; exact absurd e k2; exact absurd e k1; exact e,fun e=>.inr (.inr e)⟩
    omega
   have hj:=ih (addP ν a (μ a)) hI (by omega) (fun x hx=>by
    unfold addP
    by_cases x1:x=a
    · right; rw [if_pos x1,x1]
    by_cases x2:x=μ a
    · right; rw [if_neg x1,if_pos x2,x2,h.inv a ha]
    · rw [if_neg x1,if_neg x2]; exact hle x hx)
   rw [hj,dd_flat h hP hν hle ha hab fa fb]
  ·
   have e: ∀x,x<4*n→ν x=μ x:=fun x hx=>Classical.byContradiction fun q=>hex ⟨x,hx,q⟩
   have e1:cls n (adjP n μ)=cls n (adjP n ν):=cls_congr fun x y _ _=>by
    have:adjP n μ=adjP n ν:=by
     funext c d
     refine propext ⟨fun ⟨h1,h2,s,hs,h3⟩=>⟨h1,h2,s,hs,by rw [e _ (by omega)]; exact h3⟩,fun ⟨h1,h2,s,hs,h3⟩=>⟨h1,h2,s,hs,by rw [←e _ (by omega)]; exact h3⟩⟩
    rw [this]
   have e2:cls (4*n) (adjF n μ)=cls (4*n) (adjF n ν):=cls_congr fun x y _ _=>by
    have:adjF n μ=adjF n ν:=by
     funext c d
     unfold adjF fc
     refine propext ⟨fun ⟨h1,h2,h3⟩=>⟨h1,h2,by rw [e c h1,e d h2]; exact h3⟩,fun ⟨h1,h2,h3⟩=>⟨h1,h2,by rw [←e c h1,←e d h2]; exact h3⟩⟩
    rw [this]
   have e3:mvd n μ=mvd n ν:=cnt_congr fun x hx=>by rw [e x hx]
   unfold dd
   rw [e1,e2,e3]
theorem planar {n:Nat} {M:List Int} {μ:Nat→Nat} (hM:MT (4*n) M μ) (hP:Parts n μ):gen2 n μ=0:=by
 have h0:IV n (fun h=>h):=⟨fun h hh=>hh,fun h _=>rfl⟩
 have h1:=dd_same hM.iv hP (4*n) (fun h=>h) h0 (by omega) (fun x _=>.inl rfl)
 rw [dd_id,dd_full hM] at h1
 omega
abbrev FF (es:List Ed) (vs:List (List Nat)):List Psg:=fsN (srt es) vs
abbrev SG (es:List Ed) (vs:List (List Nat)):List Int:=(fsN (srt es) vs).map fun q=>sgX es q.1 q.2
abbrev CC (es:List Ed) (vs:List (List Nat)):List (List Vis):=csR (prt' (srt es) (fsN (srt es) vs)) vs
abbrev uv (es:List Ed) (vs:List (List Nat)) (i t:Nat):Vis:=vn (fsN (srt es) vs) i (atP es i t)
theorem par_vis (S:Nat→Bool) (sg:List Int) (v:Vis):((S (inH sg v)^^S (outH sg v))^^(S (inH sg (v.1,!v.2))^^S (outH sg (v.1,!v.2))))=par S v.1.toNat:=by
 obtain ⟨c,o⟩:=v
 unfold par inH outH
 dsimp only
 generalize c.toNat=c
 cases o with
 | true=>
  simp only [Bool.not_true,Bool.false_eq_true,if_true,if_false,Nat.add_zero]
  by_cases h:sg.getD c 0=1
  ·
   rw [if_pos h,if_pos h]
   cases S (4*c)<;>cases S (4*c+1)<;>cases S (4*c+2)<;>cases S (4*c+3)<;>rfl
  ·
   rw [if_neg h,if_neg h]
   cases S (4*c)<;>cases S (4*c+1)<;>cases S (4*c+2)<;>cases S (4*c+3)<;>rfl
 | false=>
  simp only [Bool.not_false,Bool.false_eq_true,if_true,if_false,Nat.add_zero]
  by_cases h:sg.getD c 0=1
  ·
   rw [if_pos h,if_pos h]
   cases S (4*c)<;>cases S (4*c+1)<;>cases S (4*c+2)<;>cases S (4*c+3)<;>rfl
  ·
   rw [if_neg h,if_neg h]
   cases S (4*c)<;>cases S (4*c+1)<;>cases S (4*c+2)<;>cases S (4*c+3)<;>rfl
section
variable {es : List Ed} {vs : List (List Nat)} (G : Gen es vs)
include G
theorem Gen.nt:Nt es.length (nxE es) vs (srt es):=nt_of G.F G.N1 G.R
omit G in
theorem at_mem {i t:Nat} (ht:t<mR es i):atP es i t∈srt es i:=by
 unfold atP
 rw [getD_of' ht]
 exact List.getElem_mem ht
theorem Gen.uv_lt {i t:Nat} (hi':i<es.length) (ht:t<mR es i):0≤(uv es vs i t).1∧(uv es vs i t).1<((SG es vs).length:Int):=by
 have:=G.nt.vn_lt hi' (at_mem ht)
 rw [List.length_map]
 exact this
theorem Gen.uv_inj {i t j s:Nat} (hi':i<es.length) (ht:t<mR es i) (hj:j<es.length) (hs:s<mR es j) (e:uv es vs i t=uv es vs j s):i=j∧t=s:=by
 obtain ⟨rfl,e2⟩:=G.nt.vn_inj hi' hj (at_mem ht) (at_mem hs) e
 exact ⟨rfl,G.row_inj hi' ht hs (by rw [e2])⟩
theorem Gen.uv_at {c:Nat} (hc:c<(SG es vs).length) (o:Bool): ∃i t,i<es.length∧t<mR es i∧uv es vs i t=((c:Int),o):=by
 rw [List.length_map] at hc
 obtain ⟨i,hi',x,hx,e⟩:=G.nt.both hc o
 obtain ⟨t,ht,e2⟩:=List.getElem_of_mem hx
 refine ⟨i,t,hi',ht,?_⟩
 have:atP es i t=x:=by unfold atP; rw [getD_of' ht,e2]
 show vn _ i (atP es i t)=_
 rw [this,e]
omit G in
theorem uv_opp {i t k u:Nat} (e1:(atP es i t).1=(k:Int)) (e2:atP es k u=((i:Int),!(atP es i t).2)):uv es vs k u=((uv es vs i t).1,!(uv es vs i t).2):=by
 show vn _ k (atP es k u)=_
 unfold uv vn
 rw [e1,e2]
 dsimp only
 rw [show kv (k:Int) (i:Int)=kv (i:Int) (k:Int) from kv_eq.2 (.inr ⟨rfl,rfl⟩)]
theorem Gen.uv_sg {i t k u:Nat} (hi':i<es.length) (hk:k<es.length) (ht:t<mR es i) (hu:u<mR es k) (e1:(atP es i t).1=(k:Int)) (e2:atP es k u=((i:Int),!(atP es i t).2)) (ho:(atP es i t).2=true):
  (SG es vs).getD (uv es vs i t).1.toNat 0=sgE (eAt es i) (eAt es k):=by
 obtain ⟨h1,h2⟩:=G.uv_lt hi' ht
 have h2':(uv es vs i t).1<((FF es vs).length:Int):=by rw [List.length_map] at h2; exact h2
 have hc:(uv es vs i t).1.toNat<(FF es vs).length:=by omega
 obtain ⟨q1,q2,q3⟩:=G.nt.vn_at hc
 rw [getD_of' (by rw [List.length_map]; exact hc),List.getElem_map]
 generalize (FF es vs)[(uv es vs i t).1.toNat]=q at*
 have hq:vn (fsN (srt es) vs) q.1 q.2=((uv es vs i t).1,q.2.2):=by rw [q3,Int.toNat_of_nonneg h1]
 by_cases h:q.2.2=true
 ·
  have:vn (fsN (srt es) vs) q.1 q.2=vn (fsN (srt es) vs) i (atP es i t):=by
   rw [hq,h]
   exact Prod.ext rfl ho.symm
  obtain ⟨a,b⟩:=G.nt.vn_inj q1 hi' q2 (at_mem ht) this
  rw [a,b]
  unfold sgX
  rw [if_pos ho,e1,Int.toNat_natCast]
 ·
  have:vn (fsN (srt es) vs) q.1 q.2=vn (fsN (srt es) vs) k (atP es k u):=by
   rw [hq]
   have:=uv_opp (vs:=vs) e1 e2
   refine Eq.trans ?_ this.symm
   refine Prod.ext rfl ?_
   show q.2.2=!(atP es i t).2
   rw [ho]
   revert h
   cases q.2.2<;>simp
  obtain ⟨a,b⟩:=G.nt.vn_inj q1 hk q2 (at_mem hu) this
  rw [a,b,e2]
  unfold sgX
  dsimp only
  rw [ho,Bool.not_true,if_neg (by decide),Int.toNat_natCast]
open Classical in
theorem Gen.parts {lo:Int} (GG:GV (CC es vs) (SG es vs) lo):Parts (SG es vs).length (muS (SG es vs) (CC es vs)):=by
 intro S hS hpar
 obtain ⟨A,hA⟩:=walkR GG G.R.nd G.R.cyc
 have hA': ∀i,i<es.length→Ch (fun r=>inH (SG es vs) (vn (FF es vs) i r)) (fun r=>muS (SG es vs) (CC es vs) (outH (SG es vs) (vn (FF es vs) i r))) (A i) (srt es i) (A (nxE es i)):=fun i hi'=>Ch.map.1 (hA i ((G.R.mem i).2 hi'))
 have hlt: ∀i t,i<es.length→t<mR es i→inH (SG es vs) (uv es vs i t)<4*(SG es vs).length∧outH (SG es vs) (uv es vs i t)<4*(SG es vs).length:=fun i t hi' ht=>by
  obtain ⟨h1,h2⟩:=G.uv_lt hi' ht
  exact ends_lt h1 h2
 have hget: ∀i t,t<mR es i→(srt es i)[t]? =some (atP es i t):=fun i t ht=>by
  unfold atP
  rw [getD_of' ht]
  exact gE ht
 -- the bits along the edges
 obtain ⟨val,hval⟩: ∃val:Nat→Nat→Bool,val=fun i t=>if t<mR es i then S (inH (SG es vs) (uv es vs i t)) else S (A (nxE es i)):=⟨_,rfl⟩
 have vin: ∀i t,t<mR es i→val i t=S (inH (SG es vs) (uv es vs i t)):=fun i t ht=>by rw [hval]; dsimp only; rw [if_pos ht]
 have vend: ∀i,val i (mR es i)=S (A (nxE es i)):=fun i=>by rw [hval]; dsimp only; rw [if_neg (by omega)]
 have vout: ∀i t,i<es.length→t<mR es i→val i (t+1)=S (outH (SG es vs) (uv es vs i t)):=fun i t hi' ht=>by
  rw [←hS _ (hlt i t hi' ht).2]
  by_cases h:t+1<mR es i
  ·
   rw [vin i _ h]
   have:=(hA' i hi').next t _ _ (hget i t ht) (hget i (t+1) h)
   rw [this]
  ·
   have e:t+1=mR es i:=by omega
   rw [e,vend]
   have:=(hA' i hi').last (atP es i t) (by
    have:(srt es i).length-1=t:=by unfold mR at e; omega
    rw [this]
    exact hget i t ht)
   rw [this]
 have B:Bits es val:=by
  refine ⟨fun i hi'=>?_,fun i k t u hi' hk ht hu e1 e2=>?_⟩
  ·
   have hn:=G.R.lt i hi'
   rw [vend]
   by_cases h:0<mR es (nxE es i)
   ·
    rw [vin _ _ h]
    have:=(hA' _ hn).first _ (hget _ 0 h)
    rw [this]
   ·
    have e:mR es (nxE es i)=0:=by omega
    have hv:=vend (nxE es i)
    rw [e] at hv
    rw [hv]
    have h1:=hA' _ hn
    have h2:srt es (nxE es i)=[]:=List.eq_nil_of_length_eq_zero e
    rw [h2] at h1
    rw [show A (nxE es i)=A (nxE es (nxE es i)) from h1]
  ·
   rw [vin i t ht,vout i t hi' ht,vin k u hu,vout k u hk hu]
   have hp:=par_vis S (SG es vs) (uv es vs i t)
   obtain ⟨h1,h2⟩:=G.uv_lt hi' ht
   rw [hpar _ (by omega),←uv_opp (vs:=vs) e1 e2] at hp
   revert hp
   cases S (inH (SG es vs) (uv es vs i t))<;>cases S (outH (SG es vs) (uv es vs i t))<;>cases S (inH (SG es vs) (uv es vs k u))<;>cases S (outH (SG es vs) (uv es vs k u))<;>decide
 -- the colours
 have hκ: ∀h,∃b:Bool,∀i t,i<es.length→t<mR es i→(h=outH (SG es vs) (uv es vs i t)→b=cA es val i (t+1))∧(h=inH (SG es vs) (uv es vs i t)→b=(cB es val i (t+1)^^val i t)):=by
  intro h
  by_cases q: ∃i t,i<es.length∧t<mR es i∧h=outH (SG es vs) (uv es vs i t)
  ·
   obtain ⟨i,t,hi',ht,e⟩:=q
   refine ⟨cA es val i (t+1),fun j s hj hs=>⟨fun e2=>?_,fun e2=>?_⟩⟩
   ·
    have:=outH_inj (G.uv_lt hi' ht).1 (G.uv_lt hj hs).1 (e.symm.trans e2)
    obtain ⟨rfl,rfl⟩:=G.uv_inj hi' ht hj hs this
    rfl
   · exact absurd (e.symm.trans e2) out_ne_in
  ·
   by_cases q2: ∃i t,i<es.length∧t<mR es i∧h=inH (SG es vs) (uv es vs i t)
   ·
    obtain ⟨i,t,hi',ht,e⟩:=q2
    refine ⟨cB es val i (t+1)^^val i t,fun j s hj hs=>⟨fun e2=>absurd ⟨j,s,hj,hs,e2⟩ q,fun e2=>?_⟩⟩
    have:=inH_inj (G.uv_lt hi' ht).1 (G.uv_lt hj hs).1 (e.symm.trans e2)
    obtain ⟨rfl,rfl⟩:=G.uv_inj hi' ht hj hs this
    rfl
   · exact ⟨false,fun j s hj hs=>⟨fun e2=>absurd ⟨j,s,hj,hs,e2⟩ q,fun e2=>absurd ⟨j,s,hj,hs,e2⟩ q2⟩⟩
 obtain ⟨κ,hκ⟩:=Classical.skolem.1 hκ
 have kout: ∀i t,i<es.length→t<mR es i→κ (outH (SG es vs) (uv es vs i t))=cA es val i (t+1):=fun i t hi' ht=>(hκ _ i t hi' ht).1 rfl
 have kin: ∀i t,i<es.length→t<mR es i→κ (inH (SG es vs) (uv es vs i t))=(cB es val i (t+1)^^val i t):=fun i t hi' ht=>(hκ _ i t hi' ht).2 rfl
 -- the corners of a crossing
 have sector: ∀x,x<4*(SG es vs).length→(κ x^^κ (turnN x 3))=S x:=by
  intro x hx
  have hc:x/ 4<(SG es vs).length:=by omega
  obtain ⟨i,t,hi',ht,hv⟩:=G.uv_at hc true
  have ho:(atP es i t).2=true:=(Prod.mk.inj hv).2
  obtain ⟨k,e1,hk,hne,hp,hu,e2,_⟩:=G.opp_at hi' ht
  generalize opp es i t=u at*
  have hw:uv es vs k u=(((x/ 4:Nat):Int),false):=by rw [uv_opp e1 e2,hv]; rfl
  have hsg:=G.uv_sg hi' hk ht hu e1 e2 ho
  rw [hv] at hsg
  dsimp only at hsg
  rw [Int.toNat_natCast] at hsg
  have i1:=kin i t hi' ht
  have i2:=kout i t hi' ht
  have k1:=kin k u hk hu
  have k2:=kout k u hk hu
  have s1:=vin i t ht
  have s2:=vout i t hi' ht
  have s3:=vin k u hu
  have s4:=vout k u hk hu
  rw [hv] at i1 i2 s1 s2
  rw [hw] at k1 k2 s3 s4
  have hcx:=B.cx i k t u hi' hk ht hu e1 e2
  unfold inH at i1 k1 s1 s3
  unfold outH at i2 k2 s2 s4
  simp only [Int.toNat_natCast,Bool.false_eq_true,if_true,if_false,Nat.add_zero] at i1 i2 k1 k2 s1 s2 s3 s4
  have r:x%4=0∨x%4=1∨x%4=2∨x%4=3:=by omega
  have t0:turnN (4*(x/ 4)) 3=4*(x/ 4)+3:=by unfold turnN; omega
  have t1:turnN (4*(x/ 4)+1) 3=4*(x/ 4):=by unfold turnN; omega
  have t2:turnN (4*(x/ 4)+2) 3=4*(x/ 4)+1:=by unfold turnN; omega
  have t3:turnN (4*(x/ 4)+3) 3=4*(x/ 4)+2:=by unfold turnN; omega
  by_cases hW:0<Wd (eAt es i) (eAt es k)
  ·
   have hs1:(SG es vs).getD (x/ 4) 0=1:=hsg.trans (if_pos hW)
   rw [if_pos hs1] at i1 i2 s1 s2
   obtain ⟨c1,c2,c3⟩:=G.crL B hi' hk ht hu e1 e2 hW
   rw [c1] at k1
   rw [c2] at k2
   rw [c3] at i2
   generalize cB es val i (t+1)=b at*
   rcases r with r | r | r | r
   ·
    have ex:x=4*(x/ 4):=by omega
    rw [ex,t0,k1,i1,←s3]
    cases b<;>cases val i t<;>cases val k u<;>rfl
   ·
    have ex:x=4*(x/ 4)+1:=by omega
    rw [ex,t1,i2,k1,←s2]
    revert hcx
    cases b<;>cases val i t<;>cases val k u<;>cases val i (t+1)<;>cases val k (u+1)<;>decide
   ·
    have ex:x=4*(x/ 4)+2:=by omega
    rw [ex,t2,k2,i2,←s4]
    cases b<;>cases val k (u+1)<;>rfl
   ·
    have ex:x=4*(x/ 4)+3:=by omega
    rw [ex,t3,i1,k2,←s1]
    cases b<;>cases val i t<;>rfl
  ·
   have hs1:(SG es vs).getD (x/ 4) 0=-1:=hsg.trans (if_neg hW)
   have hW2:0<Wd (eAt es k) (eAt es i):=by
    have h0:Wd (eAt es i) (eAt es k)≠0:=by
     intro h0
     have sp:=G.slope hi' hk
     rw [h0] at sp
     have hs:=(G.cross0 hi' hk hp).1
     have n1:=G.ne hi'
     have n2:=G.ne hk
     have d1:qx (eAt es i).2.1-qx (eAt es i).1≠0:=by grind
     have d2:qx (eAt es k).2.1-qx (eAt es k).1≠0:=by grind
     have d3:sl es k-sl es i≠0:=by grind
     generalize qx (eAt es i).2.1-qx (eAt es i).1=D1 at*
     generalize qx (eAt es k).2.1-qx (eAt es k).1=D2 at*
     generalize sl es k-sl es i=D3 at*
     have sp':D3*(D1*D2)=0:=by rw [sp]; grind
     rcases Rat.mul_eq_zero.1 sp' with q | q
     · exact d3 q
     ·
      rcases Rat.mul_eq_zero.1 q with q | q
      · exact d1 q
      · exact d2 q
    have e:Wd (eAt es k) (eAt es i)=- Wd (eAt es i) (eAt es k):=by unfold Wd; grind
    omega
   rw [if_neg (by rw [hs1]; decide)] at i1 i2 s1 s2
   obtain ⟨c1,c2,c3⟩:=G.crL B hk hi' hu ht (by rw [e2]) (by rw [e2]; exact Prod.ext e1 (by rw [Bool.not_not])) hW2
   rw [c1] at i1
   rw [c2] at i2
   rw [c3] at k2
   generalize cB es val k (u+1)=b at*
   rcases r with r | r | r | r
   ·
    have ex:x=4*(x/ 4):=by omega
    rw [ex,t0,k1,i2,←s3]
    cases b<;>cases val k u<;>rfl
   ·
    have ex:x=4*(x/ 4)+1:=by omega
    rw [ex,t1,i1,k1,←s1]
    cases b<;>cases val i t<;>cases val k u<;>rfl
   ·
    have ex:x=4*(x/ 4)+2:=by omega
    rw [ex,t2,k2,i1,←s4]
    revert hcx
    cases b<;>cases val i t<;>cases val k u<;>cases val i (t+1)<;>cases val k (u+1)<;>decide
   ·
    have ex:x=4*(x/ 4)+3:=by omega
    rw [ex,t3,i2,k2,←s2]
    cases b<;>cases val i (t+1)<;>rfl
 refine ⟨κ,?_,sector⟩
 -- along the edges
 have hch: ∀i,i<es.length→Ch (fun u=>κ (inH (SG es vs) u)^^S (inH (SG es vs) u)) (fun u=>κ (outH (SG es vs) u)) (cA es val i 0) (prt' (srt es) (FF es vs) i) (cA es val (nxE es i) 0):=by
  intro i hi'
  refine Ch.map.2 ?_
  have hIn: ∀t,t<mR es i→(κ (inH (SG es vs) (uv es vs i t))^^S (inH (SG es vs) (uv es vs i t)))=cB es val i (t+1):=fun t ht=>by
   rw [kin i t hi' ht,←vin i t ht]
   cases cB es val i (t+1)<;>cases val i t<;>rfl
  by_cases he:srt es i=[]
  ·
   rw [he]
   have hm:mR es i=0:=by unfold mR; rw [he]; rfl
   have g:=G.gapL B hi' (Nat.zero_le (mR es i))
   have v:=G.vxL B hi'
   rw [hm] at v
   show cA es val i 0=cA es val (nxE es i) 0
   rw [v,g]
  ·
   refine Ch.of_next he (fun x hx=>?_) (fun t x y hx hy=>?_) fun x hx=>?_
   ·
    have h0:0<mR es i:=List.length_pos_iff.2 he
    rw [hget i 0 h0] at hx
    rw [←Option.some.inj hx,hIn 0 h0]
    exact (G.gapL B hi' (Nat.zero_le _)).symm
   ·
    have h1:t+1<mR es i:=(List.getElem?_eq_some_iff.1 hy).1
    rw [hget i t (by omega)] at hx
    rw [hget i (t+1) h1] at hy
    rw [←Option.some.inj hx,←Option.some.inj hy,hIn (t+1) h1,kout i t hi' (by omega)]
    exact (G.gapL B hi' (by omega)).symm
   ·
    have h0:0<mR es i:=List.length_pos_iff.2 he
    have hx':(srt es i)[mR es i-1]? =some x:=hx
    rw [hget i _ (by omega)] at hx'
    rw [←Option.some.inj hx',kout i _ hi' (by omega),show mR es i-1+1=mR es i by omega,←G.gapL B hi' (Nat.le_refl _),←G.vxL B hi']
 have hpair: ∀a b,(a,b)∈allP (SG es vs) (CC es vs)→κ a=(κ b^^S b):=by
  intro a b hab
  obtain ⟨v,hv,k,u,w,hk,hu,hw,rfl,rfl⟩:=pairR_of hab
  obtain ⟨y,hy⟩:=ring_ch (G.R.cyc v hv) (P:=prt' (srt es) (FF es vs)) (A:=fun i=>cA es val i 0) fun c hc=>hch c ((G.R.mem c).1 (List.mem_flatten.2 ⟨v,hv,hc⟩))
  exact hy.ring hk hu hw
 intro x hx
 have hmt:=GG.mt
 have hfc:κ (fc (muS (SG es vs) (CC es vs)) x)=(κ (muS (SG es vs) (CC es vs) x)^^S x):=by
  have:=sector _ (hmt.iv.lt x hx)
  rw [hS x hx] at this
  unfold fc
  revert this
  cases κ (muS (SG es vs) (CC es vs) x)<;>cases κ (turnN (muS (SG es vs) (CC es vs) x) 3)<;>cases S x<;>decide
 rw [hfc]
 rcases GG.pairs.2.2.2.2.2 x hx with hm | hm
 ·
  obtain ⟨⟨a,b⟩,hab,rfl⟩:=List.mem_map.1 hm
  obtain ⟨_,_,m1,m2,_⟩:=muS_pair GG hab
  dsimp only at hx⊢
  have h1:=hpair a b hab
  have h2:=hS a hx
  rw [m1] at h2⊢
  rw [←h2,h1]
 ·
  obtain ⟨⟨a,b⟩,hab,rfl⟩:=List.mem_map.1 hm
  obtain ⟨_,_,m1,m2,l1,l2,_⟩:=muS_pair GG hab
  dsimp only at hx⊢
  rw [m2,hpair a b hab]
  cases κ b<;>cases S b<;>rfl
theorem Gen.genus {lo:Int} (GG:GV (CC es vs) (SG es vs) lo):gen2 (SG es vs).length (muS (SG es vs) (CC es vs))=0:=planar GG.mt (G.parts GG)
end
end Pg
end Go.Proofs.Yteajmbanlohncaa
