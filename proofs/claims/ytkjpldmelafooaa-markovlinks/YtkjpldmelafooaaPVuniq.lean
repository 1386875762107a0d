import Derived.Test.YtkjpldmelafooaaPHbraid
import Derived.Test.YtkjpldmelafooaaPTly
set_option linter.all false
namespace Go.Proofs.Ytkjpldmelafooaa
open Ev
namespace Pv
abbrev Tm:=Int×(Int×Int)
abbrev En:=(Int×Int)×(Int×Int)
def mo (a z:Rat) (i j:Int):Rat:=a ^ i*z ^ j
def tv (a z:Rat) (t:Tm):Rat:=(t.2.2:Rat)*mo a z t.1 t.2.1
def ev (a z:Rat):List Tm→Rat
 | []=>0
 | t::L=>tv a z t+ev a z L
def nrm:List Tm→Nat
 | []=>0
 | t::L=>t.2.2.natAbs+nrm L
def klt (s t:Tm):Prop:=s.1<t.1∨(s.1=t.1∧s.2.1<t.2.1)
def Box (E:Nat) (i j:Int):Prop:=-(E:Int)≤i∧i≤E∧-(E:Int)≤j∧j≤E
structure Pol (B E:Nat) (V:Rat→Rat→Rat) (L:List Tm):Prop where
 asc:L.Pairwise klt
 nz: ∀t∈L,t.2.2≠0
 nb:nrm L≤B
 bx: ∀t∈L,Box E t.1 t.2.1
 ev: ∀a z:Rat,a≠0→z≠0→ev a z L=V a z
theorem mo_add {a z:Rat} (ha:a≠0) (hz:z≠0) (i j k l:Int):mo a z (i+k) (j+l)=mo a z i j*mo a z k l:=by
 unfold mo
 rw [Rat.zpow_add ha,Rat.zpow_add hz]
 grind
theorem ev_app (a z:Rat) (L M:List Tm):ev a z (L++M)=ev a z L+ev a z M:=by
 induction L with
 | nil=>show ev a z M=0+_; grind
 | cons t L ih=>show _+ev a z (L++M)=(_+_)+_; rw [ih]; grind
theorem ev_perm (a z:Rat) {L M:List Tm} (h:L.Perm M):ev a z L=ev a z M:=by
 induction h with
 | nil=>rfl
 | cons t _ ih=>exact congrArg (tv a z t+ ·) ih
 | swap s t L=>show _+(_+_)=_+(_+_); grind
 | trans _ _ h1 h2=>exact h1.trans h2
theorem nrm_perm {L M:List Tm} (h:L.Perm M):nrm L=nrm M:=by
 induction h with
 | nil=>rfl
 | cons t _ ih=>exact congrArg (t.2.2.natAbs+ ·) ih
 | swap s t L=>show _+(_+_)=_+(_+_); omega
 | trans _ _ h1 h2=>exact h1.trans h2
theorem nrm_mem {L:List Tm} {t:Tm} (h:t∈L):t.2.2.natAbs≤nrm L:=by
 induction L with
 | nil=>cases h
 | cons s L ih=>
  rcases List.mem_cons.1 h with rfl | h
  · exact Nat.le_add_right _ _
  ·
   have:=ih h
   show _≤s.2.2.natAbs+nrm L
   omega
theorem len_nrm {L:List Tm} (h: ∀t∈L,t.2.2≠0):L.length≤nrm L:=by
 induction L with
 | nil=>exact Nat.le_refl _
 | cons s L ih=>
  have h1:=h s List.mem_cons_self
  have:=ih fun t ht=>h t (List.mem_cons_of_mem _ ht)
  show L.length+1≤s.2.2.natAbs+nrm L
  omega
/-! Entries of sums. -/
def vl (e:En):Int:=e.2.1*33554432+e.2.2
def tm (e:En):Tm:=(e.1.1,(e.1.2,vl e))
structure SM (m:List En) (T B E:Nat) (V:Rat→Rat→Rat):Prop where
 nd:(m.map (·.1)).Nodup
 lo: ∀e∈m,0≤e.2.2∧e.2.2≤T*33554432∧-(T*67108864:Int)≤e.2.1∧e.2.1≤T*67108864
 bx: ∀e∈m,Box E e.1.1 e.1.2
 nb:nrm (m.map tm)≤B
 ev: ∀a z:Rat,a≠0→z≠0→ev a z (m.map tm)=V a z
theorem SM.nil {E:Nat}:SM [] 0 0 E (fun _ _=>0):=⟨by simp,by simp,by simp,Nat.le_refl _,fun _ _ _ _=>rfl⟩
theorem put_ev (a z:Rat): ∀(m:List En) (k:Int×Int) (v:Int×Int),ev a z ((gput m k v).map tm)+tv a z (tm (k,(gget m k).getD (0,0)))=ev a z (m.map tm)+tv a z (tm (k,v))
 | [],k,v=>by
  show (tv a z (tm (k,v))+0)+tv a z (tm (k,(0,0)))=0+tv a z (tm (k,v))
  have:tv a z (tm (k,(0,0)))=0:=by
   show ((0*33554432+0:Int):Rat)*_=0
   rw [show ((0*33554432+0:Int):Rat)=0 by rfl]; grind
  rw [this]; grind
 | p::r,k,v=>by
  unfold gput gget
  by_cases h:k=p.1
  ·
   rw [if_pos h,if_pos h]
   show (tv a z (tm (k,v))+ev a z (r.map tm))+tv a z (tm (k,p.2))=(tv a z (tm p)+ev a z (r.map tm))+tv a z (tm (k,v))
   rw [h]
   show _+tv a z (tm p)=_
   grind
  ·
   rw [if_neg h,if_neg h]
   have:=put_ev a z r k v
   show (tv a z (tm p)+ev a z ((gput r k v).map tm))+_=(tv a z (tm p)+ev a z (r.map tm))+_
   grind
theorem put_nrm: ∀(m:List En) (k:Int×Int) (v:Int×Int),nrm ((gput m k v).map tm)+(vl (k,(gget m k).getD (0,0))).natAbs=nrm (m.map tm)+(vl (k,v)).natAbs
 | [],k,v=>by
  show ((vl (k,v)).natAbs+0)+(vl (k,(0,0))).natAbs=0+(vl (k,v)).natAbs
  have:vl (k,(0,0))=0:=rfl
  rw [this]; simp
 | p::r,k,v=>by
  unfold gput gget
  by_cases h:k=p.1
  ·
   rw [if_pos h,if_pos h]
   show ((vl (k,v)).natAbs+nrm (r.map tm))+(vl (k,p.2)).natAbs=((vl p).natAbs+nrm (r.map tm))+(vl (k,v)).natAbs
   have:vl (k,p.2)=vl p:=rfl
   omega
  ·
   rw [if_neg h,if_neg h]
   have:=put_nrm r k v
   show ((vl p).natAbs+nrm ((gput r k v).map tm))+_=((vl p).natAbs+nrm (r.map tm))+_
   omega
theorem put_mem {m:List En} {k v:Int×Int} {e:En} (h:e∈gput m k v):e=(k,v)∨e∈m:=by
 induction m with
 | nil=>exact .inl (List.mem_singleton.1 h)
 | cons p r ih=>
  unfold gput at h
  by_cases q:k=p.1
  ·
   rw [if_pos q] at h
   rcases List.mem_cons.1 h with h | h
   · exact .inl h
   · exact .inr (List.mem_cons_of_mem _ h)
  ·
   rw [if_neg q] at h
   rcases List.mem_cons.1 h with h | h
   · exact .inr (h▸List.mem_cons_self)
   ·
    rcases ih h with h | h
    · exact .inl h
    · exact .inr (List.mem_cons_of_mem _ h)
theorem SM.put {m:List En} {T B E:Nat} {V:Rat→Rat→Rat} (h:SM m T B E V) (k:Int×Int) (c:Int) (hc:c.natAbs≤1125899906842624) (hk:Box E k.1 k.2):
  SM (gput m k (((gget m k).getD (0,0)).1+c/ 33554432,((gget m k).getD (0,0)).2+c%33554432)) (T+1) (B+c.natAbs) E (fun a z=>V a z+(c:Rat)*mo a z k.1 k.2):=by
 have old:0≤((gget m k).getD (0,0)).2∧((gget m k).getD (0,0)).2≤T*33554432∧-(T*67108864:Int)≤((gget m k).getD (0,0)).1∧((gget m k).getD (0,0)).1≤T*67108864:=by
  cases hg:gget m k with
  | none=>exact ⟨Int.le_refl _,by show (0:Int)≤_; omega,by show -_≤(0:Int); omega,by show (0:Int)≤_; omega⟩
  | some u=>exact h.lo _ (gget_mem hg)
 generalize hu:(gget m k).getD (0,0)=u at old⊢
 have ev1:vl (k,(u.1+c/ 33554432,u.2+c%33554432))=vl (k,u)+c:=by
  unfold vl
  show (u.1+c/ 33554432)*33554432+(u.2+c%33554432)=(u.1*33554432+u.2)+c
  omega
 refine ⟨gput_nodup h.nd _ _,fun e he=>?_,fun e he=>?_,?_,fun a z ha hz=>?_⟩
 ·
  rcases put_mem he with rfl | he
  ·
   show 0≤u.2+c%33554432∧u.2+c%33554432≤((T+1:Nat):Int)*33554432∧-(((T+1:Nat):Int)*67108864)≤u.1+c/ 33554432∧u.1+c/ 33554432≤((T+1:Nat):Int)*67108864
   omega
  ·
   have:=h.lo e he
   omega
 ·
  rcases put_mem he with rfl | he
  · exact hk
  · exact h.bx e he
 ·
  have h1:=put_nrm m k (u.1+c/ 33554432,u.2+c%33554432)
  rw [hu,ev1] at h1
  have:=h.nb
  omega
 ·
  have h1:=put_ev a z m k (u.1+c/ 33554432,u.2+c%33554432)
  rw [hu] at h1
  have h2:tv a z (tm (k,(u.1+c/ 33554432,u.2+c%33554432)))=tv a z (tm (k,u))+(c:Rat)*mo a z k.1 k.2:=by
   show ((vl _:Int):Rat)*_=((vl _:Int):Rat)*mo a z k.1 k.2+_
   rw [ev1,Rat.intCast_add]
   show (_+_)*mo a z k.1 k.2=_
   grind
  rw [h2,h.ev a z ha hz] at h1
  show _=V a z+_
  grind
end Pv
end Go.Proofs.Ytkjpldmelafooaa

set_option linter.all false
namespace Go.Proofs.Ytkjpldmelafooaa
open Ev
namespace Pv
theorem qgc (n:Nat) (v l:Int) (h0:0≤l) (h1:l≤1125899906842624):F.qbv n v l=some (decide (-l≤v∧v≤l)):=by
 unfold F.qbv
 rw [qal (by omega) (by omega),bB]
 by_cases h: -l≤v
 ·
  rw [dT h,kT]
  congr 1
  exact decide_eq_decide.mpr ⟨fun q=>⟨h,q⟩,fun q=>q.2⟩
 ·
  rw [dF h,kF]
  congr 1
  exact (dF fun q=>h q.1).symm
theorem cmp_int (n:Nat) (x y:Int):F.cmp_Compare_int n x y=some (if x<y then -1 else if y<x then 1 else 0):=by
 unfold F.cmp_Compare_int F.cmp_isNaN_int
 rw [dT rfl,dT rfl,Bool.not_true,bB,bB,kF,kF]
 by_cases h1:x<y
 · rw [dT h1,kT,if_pos h1]
 ·
  rw [dF h1,kF,if_neg h1]
  by_cases h2:y<x
  · rw [dT h2,kT,if_pos h2]
  · rw [dF h2,kF,if_neg h2]
theorem cmp_or (n:Nat) (hn:10<n) (x y:Int):F.cmp_Or_int n [x,y]=some (if x=0 then y else x):=by
 have s0: ∀v:Int,F.qfi n [v,y] 0=if v=0 then some (.inl 1) else some (.inr (.inr v)):=fun v=>by
  unfold F.qfi
  dsimp only
  rw [dT (show (0:Int)<(([v,y]:List Int).length:Int) by show (0:Int)<2; decide),kT]
  show ((some v).bind _)=_
  rw [bB]
  by_cases h:v=0
  · rw [if_pos h,dT h,Bool.not_true,kF]; rfl
  · rw [if_neg h,dF h,Bool.not_false,kT]
 have s1:F.qfi n [x,y] 1=if y=0 then some (.inl 2) else some (.inr (.inr y)):=by
  unfold F.qfi
  dsimp only
  rw [dT (show (1:Int)<(([x,y]:List Int).length:Int) by show (1:Int)<2; decide),kT]
  show ((some y).bind _)=_
  rw [bB]
  by_cases h:y=0
  · rw [if_pos h,dT h,Bool.not_true,kF]; rfl
  · rw [if_neg h,dF h,Bool.not_false,kT]
 have s2:F.qfi n [x,y] 2=some (.inr (.inl 2)):=rfl
 obtain ⟨k,rfl⟩: ∃k,n=k+3:=⟨n-3,by omega⟩
 unfold F.cmp_Or_int
 by_cases hx:x=0
 ·
  rw [if_pos hx]
  by_cases hy:y=0
  ·
   simp only [loopN,s0,s1,s2,if_pos hx,if_pos hy,bB]
   rw [hy]
  · simp only [loopN,s0,s1,if_pos hx,if_neg hy,bB]
 ·
  rw [if_neg hx]
  simp only [loopN,s0,if_neg hx,bB]
instance (s t:Tm):Decidable (klt s t):=by unfold klt; infer_instance
def kc (s t:Tm):Int:=if klt s t then -1 else if klt t s then 1 else 0
theorem gcmp (n:Nat) (hn:10<n) (s t:Tm):F.qcn n s.1 s.2.1 s.2.2 t.1 t.2.1 t.2.2=some (kc s t):=by
 unfold F.qcn
 rw [cmp_int,bB,cmp_int,bB,cmp_or n hn,bB]
 congr 1
 unfold kc
 by_cases k1:klt s t
 ·
  rw [if_pos k1]
  unfold klt at k1
  repeat' split
  all_goals omega
 ·
  rw [if_neg k1]
  by_cases k2:klt t s
  ·
   rw [if_pos k2]
   unfold klt at k1 k2
   repeat' split
   all_goals omega
  ·
   rw [if_neg k2]
   unfold klt at k1 k2
   repeat' split
   all_goals omega
theorem kc_neg {s t:Tm}:kc s t<0↔klt s t:=by
 unfold kc
 by_cases h:klt s t
 · rw [if_pos h]; simp [h]
 · rw [if_neg h]; simp only [h,iff_false]; split<;>decide
theorem gsort (n:Nat) (hn:10<n) {L:List Tm} (hL:L.length≤1099511627776): ∃S,F.qbj n L=some S∧S.Perm L∧S.Pairwise (fun x y=> ¬klt y x):=by
 have ef:(fun x y:Tm=>(F.qcn n x.1 x.2.1 x.2.2 y.1 y.2.1 y.2.2).getD 0)=kc:=by
  funext x y
  rw [gcmp n hn]; rfl
 have hsw:swoL kc L=true:=by
  unfold swoL
  refine List.all_eq_true.2 fun x _=>?_
  rw [Bool.and_eq_true]
  refine ⟨?_,List.all_eq_true.2 fun y _=>List.all_eq_true.2 fun z _=>?_⟩
  ·
   rw [dF]; rfl
   rw [kc_neg]; unfold klt; omega
  ·
   have d1: ∀p q:Tm,decide (kc p q<0)=decide (klt p q):=fun p q=>decide_eq_decide.mpr kc_neg
   rw [d1,d1,d1]
   have t1:klt x y→klt y z→klt x z:=by unfold klt; omega
   have t2:klt x z→klt x y∨klt y z:=by unfold klt; omega
   by_cases h3:klt x z
   · rcases t2 h3 with h | h<;>simp [h,h3]
   ·
    by_cases h1:klt x y
    ·
     by_cases h2:klt y z
     · exact absurd (t1 h1 h2) h3
     · simp [h1,h2,h3]
    · simp [h1,h3]
 refine ⟨sortL kc L,?_,(sortL_perm hsw).1,(sortL_perm hsw).2.imp fun h=>fun q=>h (kc_neg.2 q)⟩
 unfold F.qbj
 rw [ef,if_pos ⟨List.all_eq_true.2 fun x _=>List.all_eq_true.2 fun y _=>by rw [gcmp n hn]; rfl,hsw,hL⟩]
theorem sorted_uniq {α:Type} {R:α→α→Prop} (anti: ∀a b,R a b→R b a→a=b): ∀{l1 l2:List α},l1.Perm l2→l1.Pairwise R→l2.Pairwise R→l1=l2
 | [],l2,h,_,_=>(List.nil_perm.1 h).symm
 | a::t,l2,h,h1,h2=>by
  cases l2 with
  | nil=>exact absurd h (by simp)
  | cons b t2=>
   obtain ⟨p1,p2⟩:=List.pairwise_cons.1 h1
   obtain ⟨q1,q2⟩:=List.pairwise_cons.1 h2
   have hab:a=b:=by
    rcases List.mem_cons.1 (h.mem_iff.1 (List.mem_cons_self:a∈a::t)) with e | e
    · exact e
    rcases List.mem_cons.1 (h.mem_iff.2 (List.mem_cons_self:b∈b::t2)) with e2 | e2
    · exact e2.symm
    exact anti _ _ (p1 b e2) (q1 a e)
   subst hab
   rw [sorted_uniq anti (List.Perm.cons_inv h) p2 q2]
theorem klt_anti (a b:Tm) (h1:klt a b) (h2:klt b a):a=b:=by unfold klt at h1 h2; omega
def nzl (m:List En):List Tm:=(m.map tm).filter fun t=>!decide (t.2.2=0)
theorem nzl_ev (a z:Rat): ∀m:List Tm,ev a z (m.filter fun t=>!decide (t.2.2=0))=ev a z m
 | []=>rfl
 | t::L=>by
  rw [List.filter_cons]
  by_cases h:t.2.2=0
  ·
   rw [dT h,Bool.not_true,if_neg (by decide),nzl_ev a z L]
   show _=tv a z t+_
   unfold tv
   rw [h,show ((0:Int):Rat)=0 by rfl]
   grind
  ·
   rw [dF h,Bool.not_false,if_pos rfl]
   exact congrArg (tv a z t+ ·) (nzl_ev a z L)
theorem nzl_nrm: ∀m:List Tm,nrm (m.filter fun t=>!decide (t.2.2=0))=nrm m
 | []=>rfl
 | t::L=>by
  rw [List.filter_cons]
  by_cases h:t.2.2=0
  ·
   rw [dT h,Bool.not_true,if_neg (by decide),nzl_nrm L]
   show _=t.2.2.natAbs+_
   rw [h]; simp
  ·
   rw [dF h,Bool.not_false,if_pos rfl]
   exact congrArg (t.2.2.natAbs+ ·) (nzl_nrm L)
structure EnOk (e:En):Prop where
 lo:0≤e.2.2∧e.2.2≤4611686018427387904∧-4611686018427387904≤e.2.1∧e.2.1≤4611686018427387904
 v:(vl e).natAbs≤1125899906842624
 bx:Box 1048576 e.1.1 e.1.2
theorem small_eq (n:Nat) {e:En} (h:EnOk e):F.qfk n e.2.1 e.2.2=some (vl e,true):=by
 have h1:=h.lo
 have h2:=h.v
 unfold vl at h2⊢
 generalize e.2.1=hi at*
 generalize e.2.2=lo at*
 unfold F.qfk
 have r: -33554432≤hi+lo/ 33554432∧hi+lo/ 33554432≤33554432:=by omega
 rw [qal (by omega) (by omega),bB,qgc n _ _ (by omega) (by omega),bB,dT (show -67108864≤hi+lo/ 33554432∧hi+lo/ 33554432≤67108864 by omega),Bool.not_true,kF,qal (by omega) (by omega),bB,qal (by omega) (by omega),bB,qgc n _ _ (by omega) (by omega),bB]
 have e:(hi+lo/ 33554432)*33554432+lo%33554432=hi*33554432+lo:=by omega
 rw [e,dT (show -1125899906842624≤hi*33554432+lo∧hi*33554432+lo≤1125899906842624 by omega)]
theorem gb0 (n:Nat) {e:En} (h:EnOk e) (acc:List Tm) (ha:acc.length≤1099511627775):F.qdm n e acc=some (.inl (acc++(if vl e=0 then [] else [tm e]))):=by
 have hb:=h.bx
 unfold Box at hb
 unfold F.qdm
 dsimp only
 rw [small_eq n h,bB]
 dsimp only
 rw [kT]
 by_cases q:vl e=0
 · rw [dT q,kT,if_pos q,List.append_nil]
 ·
  rw [dF q,kF,if_neg q]
  unfold F.qfj
  dsimp only
  rw [Bool.not_true,kF,qgc n _ _ (by omega) (by omega),bB,dT (by omega),Bool.not_true,kF,qgc n _ _ (by omega) (by omega),bB,dT (by omega),Bool.not_true,kF,lim_ok (by show acc.length+1≤_; omega),bB]
  rfl
theorem gfold (n:Nat): ∀(m:List En) (acc:List Tm),(∀e∈m,EnOk e)→acc.length+m.length≤1099511627775→foldG (F.qdm n) acc m=some (.inl (acc++nzl m))
 | [],acc,_,_=>by
  show some (Sum.inl acc)=_
  rw [show nzl []=[] from rfl,List.append_nil]
 | e::m,acc,h,hl=>by
  have hl:acc.length+(m.length+1)≤1099511627775:=hl
  unfold foldG
  rw [gb0 n (h e List.mem_cons_self) acc (by omega),bB]
  dsimp only
  rw [gfold n m _ (fun x hx=>h x (List.mem_cons_of_mem _ hx)) (by rw [List.length_append]; split<;>simp<;>omega),List.append_assoc]
  congr 3
  unfold nzl
  rw [List.map_cons,List.filter_cons]
  show _=if (!decide (vl e=0))=true then _ else _
  by_cases q:vl e=0
  · rw [if_pos q,dT q,Bool.not_true,if_neg (by decide)]; rfl
  · rw [if_neg q,dF q,Bool.not_false,if_pos rfl]; rfl
theorem gather_eq {m:List En} {T B E:Nat} {V:Rat→Rat→Rat} (h:SM m T B E V) (hT:T≤68719476736) (hB:B≤1125899906842624) (hE:E≤1048576) (hm:m.length≤68719476736) (n:Nat) (hn:10<n):
  ∃L,F.qft n m=some (false,L)∧Pol B E V L:=by
 have ok: ∀e∈m,EnOk e:=fun e he=>by
  have h1:=h.lo e he
  have h2:=h.bx e he
  have h3:=nrm_mem (List.mem_map_of_mem (f:=tm) he)
  have h4:=h.nb
  unfold Box at h2
  refine ⟨by omega,?_,by unfold Box; omega⟩
  have:(tm e).2.2=vl e:=rfl
  omega
 have pl: ∀m':List En,m'.Perm m→(nzl m').Perm (nzl m):=fun m' hp=>(hp.map tm).filter _
 have kd: ∀x∈nzl m,∀y∈nzl m,x.1=y.1→x.2.1=y.2.1→x=y:=fun x hx y hy h1 h2=>by
  obtain ⟨e,he,rfl⟩:=List.mem_map.1 (List.mem_filter.1 hx).1
  obtain ⟨f,hf,rfl⟩:=List.mem_map.1 (List.mem_filter.1 hy).1
  have:e.1=f.1:=Prod.ext h1 h2
  have g1:=gget_of h.nd (k:=e.1) (v:=e.2) he
  have g2:=gget_of h.nd (k:=f.1) (v:=f.2) hf
  rw [this,g2] at g1
  have e2:e=f:=Prod.ext this (Option.some.inj g1).symm
  rw [e2]
 have kn:(nzl m).Pairwise fun x y=> ¬(x.1=y.1∧x.2.1=y.2.1):=by
  have hnd:(m.map tm).Pairwise fun x y=> ¬(x.1=y.1∧x.2.1=y.2.1):=by
   rw [List.pairwise_map]
   have:=h.nd
   rw [List.Nodup,List.pairwise_map] at this
   exact this.imp fun h q=>h (Prod.ext q.1 q.2)
  exact hnd.filter _
 have hlen: ∀m':List En,m'.Perm m→(nzl m').length≤68719476736:=fun m' hp=>by
  have h1:=List.length_filter_le (fun t:Tm=>!decide (t.2.2=0)) (m'.map tm)
  rw [List.length_map,hp.length_eq] at h1
  exact Nat.le_trans h1 hm
 obtain ⟨S,s1,s2,s3⟩:=gsort n hn (L:=nzl m) (by have:=hlen m (List.Perm.refl m); omega)
 have symm: ∀x y:Tm,¬(x.1=y.1∧x.2.1=y.2.1)→¬(y.1=x.1∧y.2.1=x.2.1):=fun x y h q=>h ⟨q.1.symm,q.2.symm⟩
 have asc: ∀S':List Tm,S'.Perm (nzl m)→S'.Pairwise (fun x y=> ¬klt y x)→S'.Pairwise klt:=fun S' hp hs=>by
  have k2:S'.Pairwise fun x y=> ¬(x.1=y.1∧x.2.1=y.2.1):=(hp.pairwise_iff (fun {x y} h=>symm x y h)).2 kn
  exact (hs.and k2).imp fun ⟨h1,h2⟩=>by unfold klt at h1⊢; omega
 have hk: ∀m':List En,m'.Perm m→(foldG (F.qdm n) [] m').bind (fun oM=>match oM with
  | .inl kf19_1_0=>(F.qbj n kf19_1_0).bind fun y104=>some (false,y104)
  | .inr q=>some q)=some (false,S):=fun m' hp=>by
  rw [gfold n m' [] (fun e he=>ok e (hp.mem_iff.1 he)) (by rw [hp.length_eq]; show 0+_≤_; omega),bB,List.nil_append]
  dsimp only
  obtain ⟨S',t1,t2,t3⟩:=gsort n hn (L:=nzl m') (by have:=hlen m' hp; omega)
  have t2:=t2.trans (pl m' hp)
  have e:S'=S:=sorted_uniq klt_anti (t2.trans s2.symm) (asc S' t2 t3) (asc S s2 s3)
  rw [t1,bB,e]
 refine ⟨S,?_,asc S s2 s3,fun t ht=>?_,?_,fun t ht=>?_,fun a z ha hz=>?_⟩
 ·
  unfold F.qft
  rw [qal (by omega) (by omega),bB,pos_ok (by omega) (by omega),bB]
  exact (if_pos (fun m' hp=>(hk m' hp).trans (hk m (List.Perm.refl m)).symm)).trans (hk m (List.Perm.refl m))
 ·
  have:=(List.mem_filter.1 (s2.mem_iff.1 ht)).2
  simpa using this
 ·
  rw [nrm_perm s2]
  show nrm ((m.map tm).filter _)≤B
  rw [nzl_nrm]; exact h.nb
 ·
  obtain ⟨e,he,rfl⟩:=List.mem_map.1 (List.mem_filter.1 (s2.mem_iff.1 ht)).1
  exact h.bx e he
 ·
  rw [ev_perm a z s2]
  show ev a z ((m.map tm).filter _)=_
  rw [nzl_ev]; exact h.ev a z ha hz
end Pv
end Go.Proofs.Ytkjpldmelafooaa

set_option linter.all false
namespace Go.Proofs.Ytkjpldmelafooaa
open Ev
namespace Pv
theorem Pol.conv {B B' E E':Nat} {V V':Rat→Rat→Rat} {L:List Tm} (h:Pol B E V L) (hB:B≤B') (hE:E≤E') (hV: ∀a z:Rat,a≠0→z≠0→V a z=V' a z):Pol B' E' V' L:=
 ⟨h.asc,h.nz,Nat.le_trans h.nb hB,fun t ht=>by have:=h.bx t ht; unfold Box at *; omega,fun a z ha hz=>(h.ev a z ha hz).trans (hV a z ha hz)⟩
theorem SM.conv {m:List En} {T T' B B' E E':Nat} {V V':Rat→Rat→Rat} (h:SM m T B E V) (hT:T≤T') (hB:B≤B') (hE:E≤E') (hV: ∀a z:Rat,a≠0→z≠0→V a z=V' a z):SM m T' B' E' V':=
 ⟨h.nd,fun e he=>by have:=h.lo e he; omega,fun e he=>by have:=h.bx e he; unfold Box at *; omega,Nat.le_trans h.nb hB,fun a z ha hz=>(h.ev a z ha hz).trans (hV a z ha hz)⟩
theorem put_len (m:List En) (k v:Int×Int):(gput m k v).length≤m.length+1:=by
 induction m with
 | nil=>exact Nat.le_refl _
 | cons p r ih=>
  unfold gput
  by_cases h:k=p.1
  · rw [if_pos h]; exact Nat.le_succ _
  · rw [if_neg h]; exact Nat.succ_le_succ ih
theorem Pol.len {B E:Nat} {V:Rat→Rat→Rat} {L:List Tm} (h:Pol B E V L):L.length≤B:=Nat.le_trans (len_nrm h.nz) h.nb
theorem Pol.co {B E:Nat} {V:Rat→Rat→Rat} {L:List Tm} (h:Pol B E V L) {t:Tm} (ht:t∈L):t.2.2.natAbs≤B:=Nat.le_trans (nrm_mem ht) h.nb
def sh (x y:Int) (t:Tm):Tm:=(t.1+x,(t.2.1+y,t.2.2))
theorem sh_ev {a z:Rat} (ha:a≠0) (hz:z≠0) (x y:Int): ∀L:List Tm,ev a z (L.map (sh x y))=mo a z x y*ev a z L
 | []=>by show (0:Rat)=_*0; grind
 | t::L=>by
  show tv a z (sh x y t)+ev a z (L.map (sh x y))=_*(tv a z t+ev a z L)
  rw [sh_ev ha hz x y L]
  have:tv a z (sh x y t)=mo a z x y*tv a z t:=by
   show (t.2.2:Rat)*mo a z (t.1+x) (t.2.1+y)=_*((t.2.2:Rat)*mo a z t.1 t.2.1)
   rw [mo_add ha hz]; grind
  rw [this]; grind
theorem sh_nrm (x y:Int): ∀L:List Tm,nrm (L.map (sh x y))=nrm L
 | []=>rfl
 | t::L=>congrArg (t.2.2.natAbs+ ·) (sh_nrm x y L)
theorem Pol.sh {B E:Nat} {V:Rat→Rat→Rat} {L:List Tm} (h:Pol B E V L) {x y:Int} (hx: -2≤x∧x≤2) (hy: -2≤y∧y≤2):Pol B (E+2) (fun a z=>mo a z x y*V a z) (L.map (Pv.sh x y)):=by
 refine ⟨?_,fun t ht=>?_,by rw [sh_nrm]; exact h.nb,fun t ht=>?_,fun a z ha hz=>by rw [sh_ev ha hz,h.ev a z ha hz]⟩
 ·
  rw [List.pairwise_map]
  refine h.asc.imp fun {s t} q=>?_
  unfold klt at*
  show s.1+x<t.1+x∨(s.1+x=t.1+x∧s.2.1+y<t.2.1+y)
  omega
 ·
  obtain ⟨u,hu,rfl⟩:=List.mem_map.1 ht
  exact h.nz u hu
 ·
  obtain ⟨u,hu,rfl⟩:=List.mem_map.1 ht
  have:=h.bx u hu
  unfold Box at*
  show -((E+2:Nat):Int)≤u.1+x∧u.1+x≤((E+2:Nat):Int)∧-((E+2:Nat):Int)≤u.2.1+y∧u.2.1+y≤((E+2:Nat):Int)
  omega
theorem shift_eq {B E:Nat} {V:Rat→Rat→Rat} {L:List Tm} (h:Pol B E V L) {x y:Int} (hx: -2≤x∧x≤2) (hy: -2≤y∧y≤2) (n:Nat) (hn:B<n) (hB:B≤68719476736) (hE:E≤1000000):
  F.qdg n false L x y=some (false,L.map (sh x y)):=by
 have hl:=h.len
 unfold F.qdg
 rw [kF]
 by_cases h0:L.length=0
 ·
  rw [dT (by omega),kT]
  rw [List.length_eq_zero_iff.1 h0]; rfl
 ·
  rw [dF (by omega),kF,qgc n _ _ (by omega) (by omega),bB,dT (by omega),Bool.not_true,kF,qgc n _ _ (by omega) (by omega),bB,dT (by omega),Bool.not_true,kF,pos_ok (by omega) (by omega),bB]
  have hlp:loopN n (F.qde n L x y) (0,[])=some (.inl ((L.length:Int),L.map (sh x y))):=by
   have e:(.inl ((L.length:Int),L.map (sh x y)):(Int×List Tm)⊕(Bool×List Tm))=.inl ((L.length:Int),(L.take L.length).map (sh x y)):=by rw [List.take_length]
   rw [e]
   refine qce (fun k:Nat=>((k:Int),(L.take k).map (sh x y))) L.length (fun k hk=>?_) ?_ n (by omega)
   ·
    have hb:=h.bx _ (List.getElem_mem hk)
    unfold Box at hb
    unfold F.qde
    dsimp only
    rw [dT (by omega),kT,qbl,gE hk,bB,qal (by omega) (by omega),bB,qgc n _ _ (by omega) (by omega),bB,dT (by omega),Bool.not_true,kF,qal (by omega) (by omega),bB,qgc n _ _ (by omega) (by omega),bB,dT (by omega),Bool.not_true,kF,bB,bB,
     lim_ok (by rw [List.length_map,List.length_take]; show _+1≤_; omega),bB,qal (by omega) (by omega),bB,List.take_add_one,gE hk,List.map_append]
    rfl
   ·
    unfold F.qde
    dsimp only
    rw [dF (by omega),kF]
  rw [hlp,bB]
theorem splus_eq (n:Nat) (u:Int×Int) (c:Int) (hc:c.natAbs≤1125899906842624) (hu: -4611686018427387904≤u.1∧u.1≤4611686018427387904∧0≤u.2∧u.2≤4611686018427387904):
  F.qey n u.1 u.2 c=some (u.1+c/ 33554432,u.2+c%33554432):=by
 unfold F.qey
 rw [qal (by omega) (by omega),bB,qal (by omega) (by omega),bB]
theorem SM.cell {m:List En} {T B E:Nat} {V:Rat→Rat→Rat} (h:SM m T B E V) (hT:T≤68719476736) (k:Int×Int):
  -4611686018427387904≤((gget m k).getD (0,0)).1∧((gget m k).getD (0,0)).1≤4611686018427387904∧0≤((gget m k).getD (0,0)).2∧((gget m k).getD (0,0)).2≤4611686018427387904:=by
 cases hg:gget m k with
 | none=>exact ⟨by decide,by decide,by decide,by decide⟩
 | some u=>
  have:=h.lo _ (gget_mem hg)
  show _≤u.1∧u.1≤_∧0≤u.2∧u.2≤_
  dsimp only at this
  omega
theorem ev_take (a z:Rat) {L:List Tm} {k:Nat} (hk:k<L.length):ev a z (L.take (k+1))=ev a z (L.take k)+tv a z L[k]:=by
 rw [List.take_add_one,gE hk,ev_app]
 show _+(tv a z L[k]+0)=_
 grind
theorem nrm_app (L M:List Tm):nrm (L++M)=nrm L+nrm M:=by
 induction L with
 | nil=>show nrm M=0+_; omega
 | cons t L ih=>show _+nrm (L++M)=(_+_)+_; rw [ih]; omega
theorem nrm_take {L:List Tm} {k:Nat} (hk:k<L.length):nrm (L.take (k+1))=nrm (L.take k)+L[k].2.2.natAbs:=by
 rw [List.take_add_one,gE hk,nrm_app]
 rfl
theorem plus1_eq {m:List En} {T B E:Nat} {V:Rat→Rat→Rat} (h:SM m T B E V) (hm:m.length≤T) {B1:Nat} {V1:Rat→Rat→Rat} {L:List Tm} (h1:Pol B1 E V1 L) {b:Int} (hb:b=1∨b=-1) (n:Nat) (hn:B1<n) (hT:T+B1≤68719476736) (hE:E≤1000000):
  ∃m',F.qdj n L b m=some m'∧SM m' (T+B1) (B+B1) E (fun a z=>V a z+(b:Rat)*V1 a z)∧m'.length≤T+B1:=by
 have hl:=h1.len
 obtain ⟨r,r1,r2⟩:=qez (body:=F.qcv n L b)
  (fun st=> ∃(k:Nat) (m':List En),st=((k:Int),m')∧k≤L.length∧m'.length≤T+k∧SM m' (T+k) (B+nrm (L.take k)) E (fun a z=>V a z+(b:Rat)*Pv.ev a z (L.take k)))
  (fun st=>L.length-st.1.toNat)
  (fun r=> ∃(q:Int) (m':List En),r=(q,m')∧SM m' (T+B1) (B+B1) E (fun a z=>V a z+(b:Rat)*V1 a z)∧m'.length≤T+B1)
  (fun st hst=>by
   obtain ⟨k,m',rfl,hk,hml,hS⟩:=hst
   by_cases e:k<L.length
   ·
    left
    have hbx:=h1.bx _ (List.getElem_mem e)
    have hco:=h1.co (List.getElem_mem e)
    have hcell:=hS.cell (by omega) (L[k].1,L[k].2.1)
    have hbc:(b*L[k].2.2).natAbs=L[k].2.2.natAbs:=by rcases hb with rfl | rfl<;>omega
    unfold F.qcv
    dsimp only
    rw [dT (by omega),kT,qbl,gE e,bB,bB,qal (by omega) (by omega),bB,splus_eq n _ _ (by omega) hcell,bB,qal (by omega) (by omega),bB]
    refine ⟨_,rfl,⟨k+1,_,rfl,by omega,Nat.le_trans (put_len _ _ _) (by omega),?_⟩,by show _-(k+1:Int).toNat<_-(k:Int).toNat; omega⟩
    refine (hS.put (L[k].1,L[k].2.1) (b*L[k].2.2) (by omega) hbx).conv (by omega) (by rw [hbc,nrm_take e]; omega) (Nat.le_refl _) fun a z ha hz=>?_
    show (V a z+(b:Rat)*ev a z (L.take k))+((b*L[k].2.2:Int):Rat)*mo a z L[k].1 L[k].2.1=V a z+(b:Rat)*ev a z (L.take (k+1))
    rw [ev_take a z e,Rat.intCast_mul]
    unfold tv
    grind
   ·
    right
    obtain rfl:k=L.length:=by omega
    refine ⟨((L.length:Int),m'),?_,_,_,rfl,?_,by omega⟩
    ·
     unfold F.qcv
     dsimp only
     rw [dF (by omega),kF]
    ·
     refine hS.conv (by omega) (by rw [List.take_length]; have:=h1.nb; omega) (Nat.le_refl _) fun a z ha hz=>?_
     rw [List.take_length,h1.ev a z ha hz])
  n (0,m) ⟨0,m,rfl,by omega,by omega,h.conv (by omega) (by rw [List.take_zero]; exact Nat.le_refl _) (Nat.le_refl _) fun a z _ _=>by
   rw [List.take_zero]
   show V a z=V a z+_*0
   grind⟩ (by show L.length-Int.toNat 0<n; omega)
 obtain ⟨q,m',rfl,s1,s2⟩:=r2
 refine ⟨m',?_,s1,s2⟩
 unfold F.qdj
 rw [r1,bB]
theorem plus_eq {B1 B2 E:Nat} {V1 V2:Rat→Rat→Rat} {L1 L2:List Tm} (h1:Pol B1 E V1 L1) (h2:Pol B2 E V2 L2) {b:Int} (hb:b=1∨b=-1) (n:Nat) (hn:B1+B2+10<n) (hB:B1+B2≤68719476736) (hE:E≤1000000):
  ∃L,F.qeh n false L1 false L2 b=some (false,L)∧Pol (B1+B2) E (fun a z=>V1 a z+(b:Rat)*V2 a z) L:=by
 have l1:=h1.len
 have l2:=h2.len
 obtain ⟨m1,a1,a2,a3⟩:=plus1_eq (SM.nil (E:=E)) (Nat.le_refl _) h1 (.inl rfl) n (by omega) (by omega) hE
 obtain ⟨m2,b1,b2,b3⟩:=plus1_eq a2 a3 h2 hb n (by omega) (by omega) hE
 obtain ⟨L,c1,c2⟩:=gather_eq b2 (by omega) (by omega) (by omega) (by omega) n (by omega)
 refine ⟨L,?_,c2.conv (by omega) (Nat.le_refl _) fun a z _ _=>?_⟩
 ·
  unfold F.qeh
  rw [kF,kF,qal (by omega) (by omega),bB,a1,bB,b1,bB,c1,bB]
 ·
  show ((0:Rat)+((1:Int):Rat)*V1 a z)+_=_
  rw [show ((1:Int):Rat)=1 by rfl]
  grind
theorem add_eq {B1 B2 E:Nat} {V1 V2:Rat→Rat→Rat} {L1 L2:List Tm} (h1:Pol B1 E V1 L1) (h2:Pol B2 E V2 L2) (n:Nat) (hn:B1+B2+10<n) (hB:B1+B2≤68719476736) (hE:E≤1000000):
  ∃L,F.qfc n false L1 false L2=some (false,L)∧Pol (B1+B2) E (fun a z=>V1 a z+V2 a z) L:=by
 obtain ⟨L,a,b⟩:=plus_eq h1 h2 (.inl rfl) n hn hB hE
 refine ⟨L,by unfold F.qfc; rw [a,bB],b.conv (Nat.le_refl _) (Nat.le_refl _) fun a z _ _=>?_⟩
 rw [show ((1:Int):Rat)=1 by rfl]; grind
theorem sub_eq {B1 B2 E:Nat} {V1 V2:Rat→Rat→Rat} {L1 L2:List Tm} (h1:Pol B1 E V1 L1) (h2:Pol B2 E V2 L2) (n:Nat) (hn:B1+B2+10<n) (hB:B1+B2≤68719476736) (hE:E≤1000000):
  ∃L,F.qdu n false L1 false L2=some (false,L)∧Pol (B1+B2) E (fun a z=>V1 a z-V2 a z) L:=by
 obtain ⟨L,a,b⟩:=plus_eq h1 h2 (.inr rfl) n hn hB hE
 refine ⟨L,by unfold F.qdu; rw [a,bB],b.conv (Nat.le_refl _) (Nat.le_refl _) fun a z _ _=>?_⟩
 rw [show ((-1:Int):Rat)=-1 by rfl]; grind
theorem term_eq (n:Nat) (i j:Int) (hi: -1≤i∧i≤1) (hj: -1≤j∧j≤1):F.qfq n 1 i j=some (false,[(i,(j,1))])∧Pol 1 1 (fun a z=>mo a z i j) [(i,(j,1))]:=by
 constructor
 ·
  unfold F.qfq
  rw [dF (by decide),kF,qgc n _ _ (by omega) (by omega),bB,dT (by omega),Bool.not_true,kF,qgc n _ _ (by omega) (by omega),bB,dT (by omega),Bool.not_true,kF,qgc n _ _ (by omega) (by omega),bB,dT (by omega),Bool.not_true,kF]
 ·
  refine ⟨List.pairwise_singleton _ _,fun t ht=>?_,Nat.le_refl _,fun t ht=>?_,fun a z _ _=>?_⟩
  · rw [List.mem_singleton.1 ht]; show (1:Int)≠0; decide
  ·
   rw [List.mem_singleton.1 ht]
   show -((1:Nat):Int)≤i∧i≤((1:Nat):Int)∧-((1:Nat):Int)≤j∧j≤((1:Nat):Int)
   omega
  ·
   show ((1:Int):Rat)*mo a z i j+0=mo a z i j
   rw [show ((1:Int):Rat)=1 by rfl]; grind
end Pv
end Go.Proofs.Ytkjpldmelafooaa

set_option linter.all false
namespace Go.Proofs.Ytkjpldmelafooaa
open Ev
namespace Pv
theorem height_eq {B E:Nat} {V:Rat→Rat→Rat} {L:List Tm} (h:Pol B E V L) (h0:L≠[]) (n:Nat) (hn:B<n) (hB:B≤68719476736) (b:Bool): ∃H:Nat,F.qdo n b L=some (H:Int)∧0<H∧H≤B:=by
 have hl:=h.len
 have hp:0<L.length:=List.length_pos_iff.2 h0
 obtain ⟨r,r1,r2⟩:=qez (body:=F.qcz n L)
  (fun st=> ∃(k H:Nat),st=((H:Int),(k:Int))∧k≤L.length∧H≤B∧(0<k→0<H))
  (fun st=>L.length-st.2.toNat)
  (fun r=> ∃(q:Int) (H:Nat),r=((H:Int),q)∧0<H∧H≤B)
  (fun st hst=>by
   obtain ⟨k,H,rfl,hk,hH,hpos⟩:=hst
   by_cases e:k<L.length
   ·
    left
    have hco:=h.co (List.getElem_mem e)
    have hnz:=h.nz _ (List.getElem_mem e)
    unfold F.qcz
    dsimp only
    rw [dT (by omega),kT,qbl,gE e,bB,qal (by omega) (by omega),bB,qal (by omega) (by omega),bB]
    refine ⟨_,rfl,⟨k+1,max H L[k].2.2.natAbs,Prod.ext ?_ rfl,by omega,by omega,fun _=>by omega⟩,by show _-(k+1:Int).toNat<_-(k:Int).toNat; omega⟩
    show max (max (H:Int) L[k].2.2) (-L[k].2.2)=((max H L[k].2.2.natAbs:Nat):Int)
    omega
   ·
    right
    obtain rfl:k=L.length:=by omega
    refine ⟨((H:Int),(L.length:Int)),?_,_,H,rfl,hpos hp,hH⟩
    unfold F.qcz
    dsimp only
    rw [dF (by omega),kF])
  n (0,0) ⟨0,0,rfl,by omega,by omega,fun h=>by omega⟩ (by show L.length-Int.toNat 0<n; omega)
 obtain ⟨q,H,rfl,s1,s2⟩:=r2
 refine ⟨H,?_,s1,s2⟩
 unfold F.qdo
 rw [r1,bB]
theorem mul1_eq {m:List En} {T B E:Nat} {V:Rat→Rat→Rat} (h:SM m T B E V) (hm:m.length≤T) {B1 E1 E2 C:Nat} {V1:Rat→Rat→Rat} {L:List Tm} (h1:Pol B1 E1 V1 L) {x:Tm} (hx:x.2.2.natAbs≤C) (hxb:Box E2 x.1 x.2.1) (hE:E1+E2≤E) (hE2:E≤1000000) (n:Nat) (hn:B1<n) (hC:C*B1≤68719476736) (hT:T+B1≤68719476736):
  ∃(q:Int) (m':List En),loopN n (F.qdc n L x) (0,m)=some (q,m')∧SM m' (T+B1) (B+x.2.2.natAbs*nrm L) E (fun a z=>V a z+tv a z x*V1 a z)∧m'.length≤T+B1:=by
 have hl:=h1.len
 obtain ⟨r,r1,r2⟩:=qez (body:=F.qdc n L x)
  (fun st=> ∃(k:Nat) (m':List En),st=((k:Int),m')∧k≤L.length∧m'.length≤T+k∧SM m' (T+k) (B+x.2.2.natAbs*nrm (L.take k)) E (fun a z=>V a z+tv a z x*Pv.ev a z (L.take k)))
  (fun st=>L.length-st.1.toNat)
  (fun r=> ∃(q:Int) (m':List En),r=(q,m')∧SM m' (T+B1) (B+x.2.2.natAbs*nrm L) E (fun a z=>V a z+tv a z x*V1 a z)∧m'.length≤T+B1)
  (fun st hst=>by
   obtain ⟨k,m',rfl,hk,hml,hS⟩:=hst
   by_cases e:k<L.length
   ·
    left
    have hbx:=h1.bx _ (List.getElem_mem e)
    have hco:=h1.co (List.getElem_mem e)
    have hcell:=hS.cell (by omega) (x.1+L[k].1,x.2.1+L[k].2.1)
    have hbc:(x.2.2*L[k].2.2).natAbs=x.2.2.natAbs*L[k].2.2.natAbs:=Int.natAbs_mul _ _
    have hle:x.2.2.natAbs*L[k].2.2.natAbs≤C*B1:=Nat.mul_le_mul hx hco
    have hbk:Box E (x.1+L[k].1) (x.2.1+L[k].2.1):=by unfold Box at *; omega
    unfold Box at hbx hxb
    unfold F.qdc
    dsimp only
    rw [dT (by omega),kT,qbl,gE e,bB,qal (by omega) (by omega),bB,qal (by omega) (by omega),bB,bB,qal (by omega) (by omega),bB,splus_eq n _ _ (by omega) hcell,bB,qal (by omega) (by omega),bB]
    refine ⟨_,rfl,⟨k+1,_,rfl,by omega,Nat.le_trans (put_len _ _ _) (by omega),?_⟩,by show _-(k+1:Int).toNat<_-(k:Int).toNat; omega⟩
    refine (hS.put (x.1+L[k].1,x.2.1+L[k].2.1) (x.2.2*L[k].2.2) (by omega) hbk).conv (by omega) (by rw [hbc,nrm_take e,Nat.mul_add]; omega) (Nat.le_refl _) fun a z ha hz=>?_
    show (V a z+tv a z x*ev a z (L.take k))+((x.2.2*L[k].2.2:Int):Rat)*mo a z (x.1+L[k].1) (x.2.1+L[k].2.1)=V a z+tv a z x*ev a z (L.take (k+1))
    rw [ev_take a z e,Rat.intCast_mul,mo_add ha hz]
    unfold tv
    grind
   ·
    right
    obtain rfl:k=L.length:=by omega
    refine ⟨((L.length:Int),m'),?_,_,_,rfl,?_,by omega⟩
    ·
     unfold F.qdc
     dsimp only
     rw [dF (by omega),kF]
    ·
     refine hS.conv (by omega) (by rw [List.take_length]; exact Nat.le_refl _) (Nat.le_refl _) fun a z ha hz=>?_
     rw [List.take_length,h1.ev a z ha hz])
  n (0,m) ⟨0,m,rfl,by omega,by omega,h.conv (by omega) (by rw [List.take_zero]; show _≤B+_*0; omega) (Nat.le_refl _) fun a z _ _=>by
   rw [List.take_zero]
   show V a z=V a z+_*0
   grind⟩ (by show L.length-Int.toNat 0<n; omega)
 obtain ⟨q,m',rfl,s1,s2⟩:=r2
 exact ⟨q,m',r1,s1,s2⟩
theorem mul_eq {B1 B2 E1 E2:Nat} {V1 V2:Rat→Rat→Rat} {L1 L2:List Tm} (h1:Pol B1 E1 V1 L1) (h2:Pol B2 E2 V2 L2) (n:Nat) (hn:B1+B2+10<n) (hB:B1*B2≤68719476736) (hB1:B1≤68719476736) (hB2:B2≤68719476736) (hE:E1+E2≤1000000):
  ∃L,F.qgb n false L1 false L2=some (false,L)∧Pol (B1*B2) (E1+E2) (fun a z=>V1 a z*V2 a z) L:=by
 have l1:=h1.len
 have l2:=h2.len
 have nil: ∀(V:Rat→Rat→Rat),(∀a z:Rat,a≠0→z≠0→V a z=0)→Pol (B1*B2) (E1+E2) V []:=fun V h=>⟨List.Pairwise.nil,by simp,Nat.zero_le _,by simp,fun a z ha hz=>(h a z ha hz).symm⟩
 unfold F.qgb
 rw [kF,kF]
 by_cases e1:L1.length=0
 ·
  rw [dT (by omega),kT]
  refine ⟨_,rfl,nil _ fun a z ha hz=>?_⟩
  have:=h1.ev a z ha hz
  rw [List.length_eq_zero_iff.1 e1] at this
  rw [←this]
  show (0:Rat)*_=0
  grind
 rw [dF (by omega),kF]
 by_cases e2:L2.length=0
 ·
  rw [dT (by omega),kT]
  refine ⟨_,rfl,nil _ fun a z ha hz=>?_⟩
  have:=h2.ev a z ha hz
  rw [List.length_eq_zero_iff.1 e2] at this
  rw [←this]
  show _*(0:Rat)=0
  grind
 rw [dF (by omega),kF]
 obtain ⟨H1,g1,g2,g3⟩:=height_eq h1 (fun e=>e1 (by rw [e]; rfl)) n (by omega) hB1 false
 obtain ⟨H2,k1,k2,k3⟩:=height_eq h2 (fun e=>e2 (by rw [e]; rfl)) n (by omega) hB2 false
 have hd:Int.tdiv 1125899906842624 (H2:Int)=((1125899906842624/ H2:Nat):Int):=Int.ofNat_tdiv 1125899906842624 H2
 have hq:H1≤1125899906842624/ H2:=(Nat.le_div_iff_mul_le k2).2 (Nat.le_trans (Nat.mul_le_mul g3 k3) (by omega))
 have hq2:1125899906842624/ H2≤1125899906842624:=Nat.div_le_self _ _
 rw [g1,bB,k1,bB,nz_ok (by omega),bB,hd,qal (by omega) (by omega),bB,dF (by omega),kF]
 have hB1p:0<B1:=by omega
 obtain ⟨r,r1,r2⟩:=qez (body:=F.qdp n L1 L2)
  (fun st=> ∃(k:Nat) (m':List En),st=((k:Int),m')∧k≤L1.length∧m'.length≤k*B2∧SM m' (k*B2) (nrm (L1.take k)*B2) (E1+E2) (fun a z=>Pv.ev a z (L1.take k)*V2 a z))
  (fun st=>L1.length-st.1.toNat)
  (fun r=> ∃(q:Int) (m':List En),r=(q,m')∧SM m' (B1*B2) (B1*B2) (E1+E2) (fun a z=>V1 a z*V2 a z)∧m'.length≤B1*B2)
  (fun st hst=>by
   obtain ⟨k,m',rfl,hk,hml,hS⟩:=hst
   by_cases e:k<L1.length
   ·
    left
    have hbx:=h1.bx _ (List.getElem_mem e)
    have hco:=h1.co (List.getElem_mem e)
    have hkb:k*B2+B2≤B1*B2:=by
     have:=Nat.mul_le_mul_right B2 (show k+1≤B1 by omega)
     rw [Nat.succ_mul] at this
     exact this
    obtain ⟨q,m2,a1,a2,a3⟩:=mul1_eq hS hml h2 (C:=B1) hco hbx (by omega) (by omega) n (by omega) (by omega) (by omega)
    unfold F.qdp
    dsimp only
    rw [dT (by omega),kT,qbl,gE e,bB,a1,bB]
    dsimp only
    rw [qal (by omega) (by omega),bB]
    refine ⟨_,rfl,⟨k+1,m2,rfl,by omega,by rw [Nat.succ_mul]; exact a3,?_⟩,by show _-(k+1:Int).toNat<_-(k:Int).toNat; omega⟩
    refine a2.conv (by rw [Nat.succ_mul]; exact Nat.le_refl _) ?_ (Nat.le_refl _) fun a z ha hz=>?_
    ·
     rw [nrm_take e,Nat.add_mul]
     exact Nat.add_le_add_left (Nat.mul_le_mul_left _ h2.nb) _
    · rw [ev_take a z e]; grind
   ·
    right
    obtain rfl:k=L1.length:=by omega
    have hkb:L1.length*B2≤B1*B2:=Nat.mul_le_mul_right _ l1
    refine ⟨((L1.length:Int),m'),?_,_,_,rfl,?_,by omega⟩
    ·
     unfold F.qdp
     dsimp only
     rw [dF (by omega),kF]
    ·
     refine hS.conv hkb (by rw [List.take_length]; exact Nat.mul_le_mul_right _ h1.nb) (Nat.le_refl _) fun a z ha hz=>?_
     rw [List.take_length,h1.ev a z ha hz])
  n (0,[]) ⟨0,[],rfl,by omega,by rw [Nat.zero_mul]; exact Nat.le_refl _,SM.nil.conv (by omega) (Nat.zero_le _) (Nat.le_refl _) fun a z _ _=>by
   rw [List.take_zero]
   show (0:Rat)=0*_
   grind⟩ (by show L1.length-Int.toNat 0<n; omega)
 obtain ⟨q,m',rfl,s1,s2⟩:=r2
 obtain ⟨L,c1,c2⟩:=gather_eq s1 hB (by omega) (by omega) (by omega) n (by omega)
 refine ⟨L,?_,c2⟩
 rw [r1,bB]
 dsimp only
 rw [c1,bB]
def dz (a z:Rat):Rat:=mo a z (-1) (-1)-mo a z 1 (-1)
theorem circles_eq (n:Nat) (hn:5000<n) (c:Nat) (hc:c≤10): ∃L,F.qhm n ((c+1:Nat):Int)=some (false,L)∧Pol (2 ^ c) (1+2*c) (fun a z=>dz a z ^ c) L:=by
 obtain ⟨t1,p1⟩:=term_eq n (-1) (-1) (by decide) (by decide)
 obtain ⟨t2,p2⟩:=term_eq n 1 (-1) (by decide) (by decide)
 obtain ⟨t3,p3⟩:=term_eq n 0 0 (by decide) (by decide)
 obtain ⟨D,d1,d2⟩:=sub_eq p1 p2 n (by omega) (by omega) (by omega)
 obtain ⟨r,r1,r2⟩:=qez (body:=F.qfg n (false,D) (c:Int))
  (fun st=> ∃(k:Nat) (L:List Tm),st=((k:Int),false,L)∧k≤c∧Pol (2 ^ k) (1+2*k) (fun a z=>dz a z ^ k) L)
  (fun st=>c-st.1.toNat)
  (fun r=> ∃(q:Int) (L:List Tm),r=(q,false,L)∧Pol (2 ^ c) (1+2*c) (fun a z=>dz a z ^ c) L)
  (fun st hst=>by
   obtain ⟨k,L,rfl,hk,hP⟩:=hst
   by_cases e:k<c
   ·
    left
    have hpw:2 ^ k≤2 ^ 10:=Nat.pow_le_pow_right (by decide) (by omega)
    have:(2:Nat) ^ 10=1024:=by decide
    obtain ⟨L',a1,a2⟩:=mul_eq hP d2 n (by omega) (by omega) (by omega) (by omega) (by omega)
    unfold F.qfg
    dsimp only
    rw [dT (by omega),kT,a1,bB,qal (by omega) (by omega),bB]
    refine ⟨_,rfl,⟨k+1,L',rfl,by omega,a2.conv (by rw [Nat.pow_succ]; exact Nat.le_refl _) (by omega) fun a z _ _=>by rw [Rat.pow_succ]; rfl⟩,by show _-(k+1:Int).toNat<_-(k:Int).toNat; omega⟩
   ·
    right
    obtain rfl:k=c:=by omega
    refine ⟨((k:Int),false,L),?_,_,_,rfl,hP⟩
    unfold F.qfg
    dsimp only
    rw [dF (by omega),kF])
  n (0,false,[(0,(0,1))]) ⟨0,_,rfl,by omega,p3.conv (Nat.le_refl _) (by omega) fun a z _ _=>by
   rw [Rat.pow_zero]
   show a ^ (0:Int)*z ^ (0:Int)=1
   rw [Rat.zpow_zero,Rat.zpow_zero]; exact Rat.mul_one 1⟩ (by show c-Int.toNat 0<n; omega)
 obtain ⟨q,L,rfl,s1⟩:=r2
 refine ⟨L,?_,s1⟩
 unfold F.qhm
 rw [t1,bB,t2,bB,d1,bB,t3,bB,qal (by omega) (by omega),bB,show ((c+1:Nat):Int)-1=(c:Int) by omega]
 dsimp only
 rw [r1,bB]
end Pv
end Go.Proofs.Ytkjpldmelafooaa

set_option linter.all false
namespace Go.Proofs.Ytkjpldmelafooaa
open Ev
namespace Pv
open Ht
def hor:List Rat→Rat→Rat
 | [],_=>0
 | c::l,x=>c+x*hor l x
def sq (r:Rat):List Rat→List Rat
 | []=>[]
 | c::l=>hor (c::l) r::sq r l
theorem sq_len (r:Rat): ∀l,(sq r l).length=l.length
 | []=>rfl
 | _::l=>congrArg (· +1) (sq_len r l)
theorem hor_sq (x r:Rat): ∀(l:List Rat) (c:Rat),hor (c::l) x-hor (c::l) r=(x-r)*hor (sq r l) x
 | [],c=>by show (c+x*0)-(c+r*0)=(x-r)*0; grind
 | d::l,c=>by
  have h:=hor_sq x r l d
  show (c+x*hor (d::l) x)-(c+r*hor (d::l) r)=(x-r)*(hor (d::l) r+x*hor (sq r l) x)
  generalize hor (d::l) x=u at*
  generalize hor (d::l) r=v at*
  generalize hor (sq r l) x=t at*
  grind
theorem sq_zero (r:Rat): ∀l:List Rat,(∀c∈sq r l,c=0)→hor l r=0∧∀c∈l,c=0
 | [],_=>⟨rfl,by simp⟩
 | d::l,h=>by
  obtain ⟨h1,h2⟩:=sq_zero r l fun c hc=>h c (List.mem_cons_of_mem _ hc)
  have h3:hor (d::l) r=0:=h _ List.mem_cons_self
  refine ⟨h3,fun c hc=>?_⟩
  rcases List.mem_cons.1 hc with rfl | hc
  ·
   have h3:c+r*hor l r=0:=h3
   rw [h1] at h3
   grind
  · exact h2 c hc
theorem roots {f:Nat→Rat} (hf: ∀i j,f i=f j→i=j): ∀(n:Nat) (l:List Rat) (N:Nat),l.length=n→(∀k,N≤k→hor l (f k)=0)→∀c∈l,c=0
 | 0,l,N,hl,_=>by rw [List.length_eq_zero_iff.1 hl]; simp
 | n+1,[],N,hl,_=>by simp
 | n+1,c::l,N,hl,h=>by
  have hl:l.length=n:=Nat.succ.inj hl
  have h0:=h N (Nat.le_refl _)
  have hs: ∀x∈sq (f N) l,x=0:=roots hf n _ (N+1) ((sq_len _ l).trans hl) fun k hk=>by
   have h1:=hor_sq (f k) (f N) l c
   rw [h0,h k (by omega)] at h1
   have h2:f k-f N≠0:=fun e=>by
    have:=hf k N (by grind)
    omega
   have h3:(f k-f N)*hor (sq (f N) l) (f k)=0:=by rw [←h1]; grind
   rcases Rat.mul_eq_zero.1 h3 with e | e
   · exact absurd e h2
   · exact e
  obtain ⟨z1,z2⟩:=sq_zero _ _ hs
  intro x hx
  rcases List.mem_cons.1 hx with rfl | hx
  ·
   have h0:x+f N*hor l (f N)=0:=h0
   rw [z1] at h0
   grind
  · exact z2 x hx
def su (f:Tm→Rat):List Tm→Rat
 | []=>0
 | t::L=>f t+su f L
theorem su_congr {f g:Tm→Rat}: ∀{L:List Tm},(∀t∈L,f t=g t)→su f L=su g L
 | [],_=>rfl
 | t::L,h=>by
  show f t+_=g t+_
  rw [h t List.mem_cons_self,su_congr fun t ht=>h t (List.mem_cons_of_mem _ ht)]
theorem su_mul (a:Rat) (f:Tm→Rat): ∀L:List Tm,su (fun t=>a*f t) L=a*su f L
 | []=>by show (0:Rat)=a*0; grind
 | t::L=>by show a*f t+su _ L=a*(f t+su f L); rw [su_mul a f L]; grind
theorem su_app (f:Tm→Rat) (L M:List Tm):su f (L++M)=su f L+su f M:=by
 induction L with
 | nil=>show su f M=0+_; grind
 | cons t L ih=>show f t+su f (L++M)=(f t+su f L)+_; rw [ih]; grind
theorem hor_add (x:Rat) (f g:Nat→Rat): ∀l:List Nat,hor (l.map fun k=>f k+g k) x=hor (l.map f) x+hor (l.map g) x
 | []=>by show (0:Rat)=0+0; grind
 | k::l=>by
  show (f k+g k)+x*hor (l.map _) x=(f k+x*hor (l.map f) x)+(g k+x*hor (l.map g) x)
  rw [hor_add x f g l]; grind
theorem hor_zero (x:Rat): ∀l:List Nat,hor (l.map fun _=>0) x=0
 | []=>rfl
 | k::l=>by show (0:Rat)+x*hor (l.map _) x=0; rw [hor_zero x l]; grind
theorem hor_one (x v:Rat) (e:Nat): ∀n s:Nat,hor ((List.range' s n).map fun k=>if e=k then v else 0) x=if s≤e∧e<s+n then v*x ^ (e-s) else 0
 | 0,s=>by rw [if_neg (by omega)]; rfl
 | n+1,s=>by
  show (if e=s then v else 0)+x*hor ((List.range' (s+1) n).map _) x=_
  rw [hor_one x v e n (s+1)]
  by_cases h:e=s
  ·
   subst h
   rw [if_pos rfl,if_neg (show¬(e+1≤e∧e<e+1+n) by omega),if_pos (show e≤e∧e<e+(n+1) by omega),Nat.sub_self,Rat.pow_zero]; grind
  ·
   rw [if_neg h]
   by_cases h2:s+1≤e∧e<s+1+n
   · rw [if_pos h2,if_pos (show s≤e∧e<s+(n+1) by omega),show e-s=(e-(s+1))+1 by omega,Rat.pow_succ]; grind
   · rw [if_neg h2,if_neg (show¬(s≤e∧e<s+(n+1)) by omega)]; grind
theorem dense (x:Rat) (D:Nat) (e:Tm→Nat) (v:Tm→Rat): ∀L:List Tm,(∀t∈L,e t<D)→su (fun t=>v t*x ^ e t) L=hor ((List.range' 0 D).map fun k=>su (fun t=>if e t=k then v t else 0) L) x
 | [],_=>(hor_zero x _).symm
 | t::L,h=>by
  show v t*x ^ e t+su _ L=hor ((List.range' 0 D).map fun k=>(if e t=k then v t else 0)+su (fun t=>if e t=k then v t else 0) L) x
  rw [hor_add,hor_one,if_pos ⟨by omega,by have:=h t List.mem_cons_self; omega⟩,dense x D e v L fun t ht=>h t (List.mem_cons_of_mem _ ht),Nat.sub_zero]
theorem deg_zero {f:Nat→Rat} (hf: ∀i j,f i=f j→i=j) (e:Tm→Nat) (v:Tm→Rat) (D:Nat) (L:List Tm) (he: ∀t∈L,e t<D) (h: ∀k,su (fun t=>v t*f k ^ e t) L=0) (d:Nat):su (fun t=>if e t=d then v t else 0) L=0:=by
 by_cases hd:d<D
 ·
  refine roots hf _ ((List.range' 0 D).map fun k=>su (fun t=>if e t=k then v t else 0) L) 0 rfl (fun k _=>?_) _ (List.mem_map.2 ⟨d,by rw [List.mem_range'_1]; omega,rfl⟩)
  rw [←dense (f k) D e v L he]; exact h k
 ·
  have: ∀M:List Tm,(∀t∈M,e t<D)→su (fun t=>if e t=d then v t else 0) M=0:=fun M hM=>by
   induction M with
   | nil=>rfl
   | cons t M ih=>
    have:=hM t List.mem_cons_self
    show (if e t=d then v t else 0)+su _ M=0
    rw [if_neg (by omega),ih fun t ht=>hM t (List.mem_cons_of_mem _ ht)]; grind
  exact this L he
theorem nat_inj {a b:Nat} (h:(a:Rat)=(b:Rat)):a=b:=by exact_mod_cast h
def kq (n m:Nat):Qn:=⟨m,((n+2:Nat):Rat),((n+2:Nat):Rat)⁻¹,Rat.mul_inv_cancel _ fun h=>by have:=nat_inj (a:=n+2) (b:=0) h; omega⟩
theorem kr_inj (n:Nat) (i j:Nat) (h:(kq n 0).r ^ (i+1)=(kq n 0).r ^ (j+1)):i=j:=by
 have h1:=rq_pow (K:=kq n 0) (i+1)
 have h2:=rq_pow (K:=kq n 0) (j+1)
 have h3:(kq n 0).q ^ (i+1)=(kq n 0).q ^ (j+1):=by
  generalize (kq n 0).r ^ (i+1)=a at*
  generalize (kq n 0).r ^ (j+1)=b at*
  generalize (kq n 0).q ^ (i+1)=c at*
  generalize (kq n 0).q ^ (j+1)=d at*
  subst h
  have:a≠0:=fun e=>by rw [e] at h1; grind
  grind
 have h4:((n+2:Nat):Rat) ^ (i+1)=((n+2:Nat):Rat) ^ (j+1):=h3
 rw [←Rat.natCast_pow,←Rat.natCast_pow] at h4
 have:=(Nat.pow_right_inj (show 1<n+2 by omega)).1 (nat_inj h4)
 omega
theorem kz_inj (i j:Nat) (h:(kq i 0).q-(kq i 0).r=(kq j 0).q-(kq j 0).r):i=j:=by
 have h1:=(kq i 0).qr
 have h2:=(kq j 0).qr
 have e1:(kq i 0).q=((i+2:Nat):Rat):=rfl
 have e2:(kq j 0).q=((j+2:Nat):Rat):=rfl
 have h3:((kq i 0).q-(kq j 0).q)*((kq i 0).q*(kq j 0).q+1)=0:=by
  generalize (kq i 0).q=p at*
  generalize (kq i 0).r=r at*
  generalize (kq j 0).q=q at*
  generalize (kq j 0).r=s at*
  grind
 rcases Rat.mul_eq_zero.1 h3 with e | e
 ·
  have:((i+2:Nat):Rat)=((j+2:Nat):Rat):=by rw [←e1,←e2]; grind
  have:=nat_inj this
  omega
 ·
  rw [e1,e2] at e
  have:(((i+2)*(j+2)+1:Nat):Rat)=((0:Nat):Rat):=by
   rw [Rat.natCast_add,Rat.natCast_mul]; exact e
  have:=nat_inj this
  omega
theorem kz_ne (n:Nat):(kq n 0).q-(kq n 0).r≠0:=fun h=>by
 have h1:=(kq n 0).qr
 have e1:(kq n 0).q=((n+2:Nat):Rat):=rfl
 have h2:(kq n 0).q*(kq n 0).q=1:=by
  generalize (kq n 0).q=q at*
  generalize (kq n 0).r=r at*
  grind
 rw [e1] at h2
 have:(((n+2)*(n+2):Nat):Rat)=((1:Nat):Rat):=by rw [Rat.natCast_mul]; exact h2
 have:=nat_inj this
 have:4≤(n+2)*(n+2):=Nat.mul_le_mul (show 2≤n+2 by omega) (show 2≤n+2 by omega)
 omega
theorem rp_ne (K:Qn) (k:Nat):K.r ^ k≠0:=fun h=>by
 have:=rq_pow (K:=K) k
 rw [h] at this; grind
def ng (t:Tm):Tm:=(t.1,(t.2.1,-t.2.2))
theorem su_ng (f:Int→Int→Rat): ∀L:List Tm,su (fun t=>(t.2.2:Rat)*f t.1 t.2.1) (L.map ng)=- su (fun t=>(t.2.2:Rat)*f t.1 t.2.1) L
 | []=>by show (0:Rat)=-0; grind
 | t::L=>by
  show ((-t.2.2:Int):Rat)*f t.1 t.2.1+su _ (L.map ng)=-((t.2.2:Rat)*f t.1 t.2.1+su _ L)
  rw [su_ng f L,Rat.intCast_neg]; grind
theorem ev_su (a z:Rat): ∀L:List Tm,ev a z L=su (fun t=>(t.2.2:Rat)*(a ^ t.1*z ^ t.2.1)) L
 | []=>rfl
 | t::L=>by show tv a z t+ev a z L=_; rw [ev_su a z L]; rfl
theorem zp_shift {x:Rat} (hx:x≠0) {E:Nat} {i:Int} (h: -(E:Int)≤i):x ^ E*x ^ i=x ^ (i+E).toNat:=by
 rw [←Rat.zpow_natCast,←Rat.zpow_natCast,←Rat.zpow_add hx]
 congr 1
 omega
theorem coefs {L:List Tm} {E:Nat} (hb: ∀t∈L,Box E t.1 t.2.1) (h: ∀n m,ev ((kq n 0).r ^ (m+1)) ((kq n 0).q-(kq n 0).r) L=0) (i j:Int) (hi:Box E i j):su (fun t=>if t.2.1=j then (if t.1=i then (t.2.2:Rat) else 0) else 0) L=0:=by
 have s1: ∀n,su (fun t=>if (t.1+E).toNat=(i+E).toNat then (t.2.2:Rat)*((kq n 0).q-(kq n 0).r) ^ t.2.1 else 0) L=0:=fun n=>
  deg_zero (f:=fun m=>(kq n 0).r ^ (m+1)) (kr_inj n) (fun t=>(t.1+E).toNat) (fun t=>(t.2.2:Rat)*((kq n 0).q-(kq n 0).r) ^ t.2.1) (2*E+1) L (fun t ht=>by have:=hb t ht; unfold Box at this; omega) (fun m=>by
   have h1:=h n m
   rw [ev_su] at h1
   have h2:su (fun t=>(t.2.2:Rat)*((kq n 0).q-(kq n 0).r) ^ t.2.1*((kq n 0).r ^ (m+1)) ^ (t.1+E).toNat) L=((kq n 0).r ^ (m+1)) ^ E*su (fun t=>(t.2.2:Rat)*(((kq n 0).r ^ (m+1)) ^ t.1*((kq n 0).q-(kq n 0).r) ^ t.2.1)) L:=by
    rw [←su_mul]
    refine su_congr fun t ht=>?_
    have:=hb t ht
    unfold Box at this
    rw [←zp_shift (rp_ne _ _) this.1]
    grind
   rw [h2,h1]; grind) (i+E).toNat
 have s2:=deg_zero (f:=fun n=>(kq n 0).q-(kq n 0).r) kz_inj (fun t=>(t.2.1+E).toNat) (fun t=>if t.1=i then (t.2.2:Rat) else 0) (2*E+1) L (fun t ht=>by have:=hb t ht; unfold Box at this; omega) (fun n=>by
   have h1:=s1 n
   have h2:su (fun t=>(if t.1=i then (t.2.2:Rat) else 0)*((kq n 0).q-(kq n 0).r) ^ (t.2.1+E).toNat) L=((kq n 0).q-(kq n 0).r) ^ E*su (fun t=>if (t.1+E).toNat=(i+E).toNat then (t.2.2:Rat)*((kq n 0).q-(kq n 0).r) ^ t.2.1 else 0) L:=by
    rw [←su_mul]
    refine su_congr fun t ht=>?_
    have:=hb t ht
    unfold Box at this hi
    rw [←zp_shift (kz_ne n) this.2.2.1]
    by_cases e:t.1=i
    · rw [if_pos e,if_pos (by rw [e])]; grind
    · rw [if_neg e,if_neg (by omega)]; grind
   rw [h2,h1]; grind) (j+E).toNat
 refine (su_congr fun t ht=>?_).trans s2
 have:=hb t ht
 unfold Box at this hi
 by_cases e:t.2.1=j
 · rw [if_pos e,if_pos (show (t.2.1+E).toNat=(j+E).toNat by rw [e])]
 · rw [if_neg e,if_neg (show¬(t.2.1+E).toNat=(j+E).toNat by omega)]
def cfs (L:List Tm) (i j:Int):Rat:=su (fun t=>if t.2.1=j then (if t.1=i then (t.2.2:Rat) else 0) else 0) L
theorem cfs_out {L:List Tm} {i j:Int} (h: ∀t∈L,¬(t.1=i∧t.2.1=j)):cfs L i j=0:=by
 induction L with
 | nil=>rfl
 | cons t L ih=>
  have h1:=h t List.mem_cons_self
  show (if t.2.1=j then (if t.1=i then (t.2.2:Rat) else 0) else 0)+cfs L i j=0
  rw [ih fun t ht=>h t (List.mem_cons_of_mem _ ht)]
  by_cases e:t.2.1=j
  · rw [if_pos e,if_neg fun q=>h1 ⟨q,e⟩]; grind
  · rw [if_neg e]; grind
theorem cfs_in {L:List Tm} (hp:L.Pairwise klt) {t:Tm} (ht:t∈L):cfs L t.1 t.2.1=t.2.2:=by
 induction L with
 | nil=>cases ht
 | cons u L ih=>
  obtain ⟨p1,p2⟩:=List.pairwise_cons.1 hp
  show (if u.2.1=t.2.1 then (if u.1=t.1 then (u.2.2:Rat) else 0) else 0)+cfs L t.1 t.2.1=_
  rcases List.mem_cons.1 ht with rfl | ht
  · rw [if_pos rfl,if_pos rfl,cfs_out fun s hs q=>by have:=p1 s hs; unfold klt at this; omega]; grind
  ·
   rw [ih p2 ht]
   have:=p1 t ht
   unfold klt at this
   by_cases e:u.2.1=t.2.1
   · rw [if_pos e,if_neg (by omega)]; grind
   · rw [if_neg e]; grind
theorem sorted_same: ∀{l1 l2:List Tm},l1.Pairwise klt→l2.Pairwise klt→(∀t,t∈l1↔t∈l2)→l1=l2
 | [],[],_,_,_=>rfl
 | [],b::l2,_,_,h=>absurd ((h b).2 List.mem_cons_self) (by simp)
 | a::l1,[],_,_,h=>absurd ((h a).1 List.mem_cons_self) (by simp)
 | a::l1,b::l2,h1,h2,h=>by
  obtain ⟨p1,p2⟩:=List.pairwise_cons.1 h1
  obtain ⟨q1,q2⟩:=List.pairwise_cons.1 h2
  have hab:a=b:=by
   rcases List.mem_cons.1 ((h a).1 List.mem_cons_self) with e | e
   · exact e
   rcases List.mem_cons.1 ((h b).2 List.mem_cons_self) with e2 | e2
   · exact e2.symm
   exact klt_anti _ _ (p1 b e2) (q1 a e)
  subst hab
  have irr: ∀t,¬klt t t:=fun t=>by unfold klt; omega
  rw [sorted_same p2 q2 fun t=>⟨fun ht=>?_,fun ht=>?_⟩]
  ·
   rcases List.mem_cons.1 ((h t).1 (List.mem_cons_of_mem _ ht)) with e | e
   · exact absurd (p1 t ht) (by rw [e]; exact irr a)
   · exact e
  ·
   rcases List.mem_cons.1 ((h t).2 (List.mem_cons_of_mem _ ht)) with e | e
   · exact absurd (q1 t ht) (by rw [e]; exact irr a)
   · exact e
theorem int_inj {a b:Int} (h:(a:Rat)=(b:Rat)):a=b:=by exact_mod_cast h
theorem uniq {B1 B2 E1 E2:Nat} {V1 V2:Rat→Rat→Rat} {L1 L2:List Tm} (h1:Pol B1 E1 V1 L1) (h2:Pol B2 E2 V2 L2) (h: ∀n m,ev ((kq n 0).r ^ (m+1)) ((kq n 0).q-(kq n 0).r) L1=ev ((kq n 0).r ^ (m+1)) ((kq n 0).q-(kq n 0).r) L2):L1=L2:=by
 have b1: ∀t∈L1,Box (E1+E2) t.1 t.2.1:=fun t ht=>by have:=h1.bx t ht; unfold Box at *; omega
 have b2: ∀t∈L2,Box (E1+E2) t.1 t.2.1:=fun t ht=>by have:=h2.bx t ht; unfold Box at *; omega
 have eq: ∀i j,Box (E1+E2) i j→cfs L1 i j=cfs L2 i j:=fun i j hb=>by
  have:=coefs (L:=L1++L2.map ng) (E:=E1+E2) (fun t ht=>by
   rcases List.mem_append.1 ht with h | h
   · exact b1 t h
   ·
    obtain ⟨u,hu,rfl⟩:=List.mem_map.1 h
    exact b2 u hu) (fun n m=>by
   rw [ev_su,su_app,su_ng (fun x y=>((kq n 0).r ^ (m+1)) ^ x*((kq n 0).q-(kq n 0).r) ^ y),←ev_su,←ev_su,h n m]; grind) i j hb
  rw [su_app] at this
  have e:su (fun t=>if t.2.1=j then (if t.1=i then (t.2.2:Rat) else 0) else 0) (L2.map ng)=- cfs L2 i j:=by
   have:=su_ng (fun x y=>if y=j then (if x=i then (1:Rat) else 0) else 0) L2
   have c1: ∀M:List Tm,su (fun t=>(t.2.2:Rat)*(if t.2.1=j then (if t.1=i then (1:Rat) else 0) else 0)) M=su (fun t=>if t.2.1=j then (if t.1=i then (t.2.2:Rat) else 0) else 0) M:=fun M=>su_congr fun t _=>by
    split
    · split<;>grind
    · grind
   rw [c1,c1] at this
   exact this
  rw [e] at this
  have this:cfs L1 i j+ -cfs L2 i j=0:=this
  grind
 have half: ∀{A B:List Tm},A.Pairwise klt→B.Pairwise klt→(∀t∈A,t.2.2≠0)→(∀t∈A,Box (E1+E2) t.1 t.2.1)→(∀i j,Box (E1+E2) i j→cfs A i j=cfs B i j)→∀t,t∈A→t∈B:=fun {A B} pA pB nA bA hc t ht=>by
  have e1:=cfs_in pA ht
  rw [hc _ _ (bA t ht)] at e1
  have hex: ∃u∈B,u.1=t.1∧u.2.1=t.2.1:=by
   refine Classical.byContradiction fun q=>?_
   rw [cfs_out fun u hu z=>q ⟨u,hu,z⟩] at e1
   exact nA t ht (int_inj (a:=t.2.2) (b:=0) e1.symm)
  obtain ⟨u,hu,k1,k2⟩:=hex
  have e2:=cfs_in pB hu
  rw [k1,k2,e1] at e2
  have:t=u:=Prod.ext k1.symm (Prod.ext k2.symm (int_inj e2))
  rw [this]; exact hu
 exact sorted_same h1.asc h2.asc fun t=>⟨half h1.asc h2.asc h1.nz b1 eq t,half h2.asc h1.asc h2.nz b2 (fun i j hb=>(eq i j hb).symm) t⟩
