import Derived.Test.YtlkmcbgkohpmiaaPHuf2
import Derived.Test.YtlkmcbgkohpmiaaPHart
import Derived.Test.YtlkmcbgkohpmiaaPHag
import Derived.Test.YtlkmcbgkohpmiaaPHdv
set_option linter.all false
namespace Go.Proofs.Ytlkmcbgkohpmiaa
open Ev
namespace Ho
open Gar
structure Gp (n:Nat) where
 f:Nat→Nat
 g:Nat→Nat
 pm:Pm n f g
variable {n : Nat}
theorem Gp.ext {a b:Gp n} (h: ∀k,a.f k=b.f k):a=b:=by
 obtain ⟨f,g,p⟩:=a
 obtain ⟨f',g',p'⟩:=b
 have e:f=f':=funext h
 subst e
 have e2:g=g':=funext fun k=>by have h1:=p'.gf (g k); rw [p.fg] at h1; exact h1.symm
 subst e2
 rfl
instance:Mul (Gp n):=⟨fun a b=>⟨fun k=>b.f (a.f k),fun k=>a.g (b.g k),pm_comp a.pm b.pm⟩⟩
instance:One (Gp n):=⟨⟨fun k=>k,fun k=>k,pm_id n⟩⟩
instance:Inv (Gp n):=⟨fun a=>⟨a.g,a.f,a.pm.symm⟩⟩
@[simp] theorem Gp.mul_f (a b:Gp n) (k:Nat):(a*b).f k=b.f (a.f k):=rfl
@[simp] theorem Gp.one_f (k:Nat):(1:Gp n).f k=k:=rfl
@[simp] theorem Gp.inv_f (a:Gp n) (k:Nat):(a⁻¹).f k=a.g k:=rfl
@[simp] theorem Gp.mul_g (a b:Gp n) (k:Nat):(a*b).g k=a.g (b.g k):=rfl
@[simp] theorem Gp.one_g (k:Nat):(1:Gp n).g k=k:=rfl
@[simp] theorem Gp.inv_g (a:Gp n) (k:Nat):(a⁻¹).g k=a.f k:=rfl
@[simp] theorem Gp.gf (a:Gp n) (k:Nat):a.g (a.f k)=k:=a.pm.gf k
@[simp] theorem Gp.fg (a:Gp n) (k:Nat):a.f (a.g k)=k:=a.pm.fg k
theorem Gp.mul_one' (a:Gp n):a*1=a:=rfl
theorem Gp.one_mul' (a:Gp n):1*a=a:=rfl
theorem Gp.mul_inv (a:Gp n):a*a⁻¹ =1:=Gp.ext fun k=>by simp
theorem Gp.inv_mul (a:Gp n):a⁻¹ *a=1:=Gp.ext fun k=>by simp
def lg (a:Gp n):List Int:=li n a.f
theorem lg_pe (a:Gp n):Pe n (lg a):=⟨a.f,a.g,a.pm,rfl⟩
theorem lg_inj {a b:Gp n} (h:lg a=lg b):a=b:=Gp.ext fun k=>congrFun (li_eq a.pm.fix b.pm.fix h) k
theorem lg_mul (a b:Gp n):mu (lg a) (lg b)=lg (a*b):=mu_li a.pm b.f
theorem lg_inv (a:Gp n):iv n (lg a)=lg a⁻¹ :=iv_li a.pm
theorem lg_one:lg (1:Gp n)=un n:=rfl
open Classical in
noncomputable def gof (n:Nat) (p:List Int):Gp n:=if h: ∃a:Gp n,p=lg a then h.choose else 1
theorem lg_gof {p:List Int} (h:Pe n p):lg (gof n p)=p:=by
 obtain ⟨f,g,h1,h2⟩:=h
 have hex: ∃a:Gp n,p=lg a:=⟨⟨f,g,h1⟩,h2⟩
 unfold gof
 rw [dif_pos hex]
 exact hex.choose_spec.symm
theorem gof_lg (a:Gp n):gof n (lg a)=a:=lg_inj (lg_gof (lg_pe a))
/-! Words. -/
def ltg (y:Nat→Gp n) (z:Int):Gp n:=if 0<z then y (z.toNat-1) else (y ((-z).toNat-1))⁻¹
def evg (y:Nat→Gp n):List Int→Gp n
 | []=>1
 | z::w=>ltg y z*evg y w
theorem evg_app (y:Nat→Gp n): ∀u w:List Int,evg y (u++w)=evg y u*evg y w
 | [],w=>rfl
 | z::u,w=>by
  show ltg y z*evg y (u++w)=_
  rw [evg_app y u w]; rfl
def tls (s:Nat) (y:Nat→Gp n):List (List Int):=(List.range s).map fun p=>lg (y p)
theorem tls_len {s:Nat} {y:Nat→Gp n}:(tls s y).length=s:=by simp [tls]
theorem tls_at {s p:Nat} {y:Nat→Gp n} (hp:p<s):(tls s y).getD p []=lg (y p):=by
 unfold tls; rw [List.getD_eq_getElem?_getD,List.getElem?_map,List.getElem?_range hp]; rfl
theorem tls_tu (s:Nat) (y:Nat→Gp n):Tu n s (tls s y):=⟨tls_len,fun p hp=>by
 unfold tls at hp
 obtain ⟨k,_,rfl⟩:=List.mem_map.1 hp
 exact lg_pe _⟩
theorem tls_lt {s:Nat} {y:Nat→Gp n} {z:Int} (hz:Lr s z):lt n (tls s y) z=lg (ltg y z):=by
 unfold Lr at hz
 unfold lt ltg
 split
 · rw [tls_at (by omega)]
 · rw [tls_at (by omega),lg_inv]
theorem tls_ev {s:Nat} {y:Nat→Gp n}: ∀{w:List Int},(∀z∈w,Lr s z)→ev n (tls s y) w=lg (evg y w)
 | [],_=>rfl
 | z::w,hw=>by
  rw [ev_cons (tls_tu s y) hw,tls_lt (hw z List.mem_cons_self),tls_ev fun z hz=>hw z (List.mem_cons_of_mem _ hz),lg_mul]
  rfl
noncomputable def fn (n:Nat) (x:List (List Int)) (p:Nat):Gp n:=gof n (x.getD p [])
theorem tls_fn {s:Nat} {x:List (List Int)} (h:Tu n s x):tls s (fn n x)=x:=by
 apply List.ext_getElem?
 intro i
 by_cases hi:i<s
 ·
  have hx:i<x.length:=by rw [h.len]; exact hi
  have:=lg_gof (h.at_ hi)
  unfold tls
  rw [List.getElem?_map,List.getElem?_range hi,gE hx]
  show some (lg (gof n (x.getD i [])))=_
  rw [this,List.getD_eq_getElem?_getD,gE hx,Option.getD_some]
 · rw [List.getElem?_eq_none (by rw [tls_len]; omega),List.getElem?_eq_none (by rw [h.len]; omega)]
theorem fn_lst {s p:Nat} {y:Nat→Gp n} (hp:p<s):fn n (tls s y) p=y p:=by
 unfold fn; rw [tls_at hp,gof_lg]
theorem evg_ird {s:Nat} {y:Nat→Gp n} {w:List Int} (hw: ∀z∈w,Lr s z):evg y (ird w)=evg y w:=by
 apply lg_inj
 rw [←tls_ev fun z hz=>hw z (ird_mem z hz),←tls_ev hw,ev_ird (tls_tu s y) hw]
theorem evg_neg {s:Nat} {y:Nat→Gp n} {w:List Int} (hw: ∀z∈w,Lr s z):evg y (neg w)=(evg y w)⁻¹ :=by
 apply lg_inj
 rw [←lg_inv,←tls_ev hw,←ev_negw (tls_tu s y) hw,tls_ev]
 intro z hz
 unfold neg at hz
 rw [List.mem_reverse,List.mem_map] at hz
 obtain ⟨y,hy,rfl⟩:=hz
 have:=hw y hy; unfold Lr at this⊢; omega
/-! What a letter does. -/
def av (v:Int) (y:Nat→Gp n) (p:Nat):Gp n:=
 if p+1=v.natAbs then (if 0<v then y (v.natAbs-1)*y v.natAbs*(y (v.natAbs-1))⁻¹ else y v.natAbs)
 else if p=v.natAbs then (if 0<v then y (v.natAbs-1) else (y v.natAbs)⁻¹ *y (v.natAbs-1)*y v.natAbs) else y p
def AL:List Int→(Nat→Gp n)→Nat→Gp n
 | [],x=>x
 | v::w,x=>av v (AL w x)
theorem ltg_at (y:Nat→Gp n) (k:Nat):ltg y ((k+1:Nat):Int)=y k:=by
 unfold ltg; rw [if_pos (by omega)]; congr 1
theorem ltg_neg (y:Nat→Gp n) (k:Nat):ltg y (-((k+1:Nat):Int))=(y k)⁻¹ :=by
 unfold ltg; rw [if_neg (by omega)]; congr 2
theorem evg_one (y:Nat→Gp n) (z:Int):evg y [z]=ltg y z:=rfl
theorem evg_three (y:Nat→Gp n) (a b c:Int):evg y [a,b,c]=ltg y a*ltg y b*ltg y c:=rfl
theorem evg_gimg {v:Int} (hv:v≠0) (y:Nat→Gp n) (k:Nat):evg y (gimg v (k+1))=av v y k:=by
 unfold gimg av
 by_cases h1:k+1=v.natAbs
 ·
  rw [if_pos h1,if_pos h1]
  have e1:v.natAbs-1=k:=by omega
  have e2:v.natAbs=k+1:=h1.symm
  by_cases h0:0<v
  · rw [if_pos h0,if_pos h0,show ((k+1:Nat):Int)+1=((k+1+1:Nat):Int) by omega,evg_three,ltg_at,ltg_at,ltg_neg,e1,e2]
  · rw [if_neg h0,if_neg h0,show ((k+1:Nat):Int)+1=((k+1+1:Nat):Int) by omega,evg_one,ltg_at,e2]
 ·
  rw [if_neg h1,if_neg h1]
  by_cases h2:k+1=v.natAbs+1
  ·
   obtain ⟨j,rfl⟩: ∃j,k=j+1:=⟨k-1,by omega⟩
   have h3:v.natAbs=j+1:=by omega
   rw [if_pos h2,if_pos (show j+1=v.natAbs by omega),show v.natAbs-1=j by omega,h3,show ((j+1+1:Nat):Int)-1=((j+1:Nat):Int) by omega]
   by_cases h0:0<v
   · rw [if_pos h0,if_pos h0,evg_one,ltg_at]
   · rw [if_neg h0,if_neg h0,evg_three,ltg_at,ltg_at,ltg_neg]
  · rw [if_neg h2,if_neg (by omega),evg_one,ltg_at]
theorem evg_isub {s:Nat} {v:Int} (hv:v≠0∧-(s:Int)<v∧v<s) (y:Nat→Gp n): ∀{u:List Int},(∀z∈u,Lr s z)→evg y (isub v u)=evg (av v y) u
 | [],_=>rfl
 | z::u,hu=>by
  have hz:=hu z List.mem_cons_self
  have e:isub v (z::u)=iimg v z++isub v u:=rfl
  rw [e,evg_app,evg_isub hv y fun z hz=>hu z (List.mem_cons_of_mem _ hz)]
  show _=ltg (av v y) z*evg (av v y) u
  congr 1
  unfold Lr at hz
  unfold iimg ltg
  by_cases h0:0<z
  · rw [if_pos h0,if_pos h0,←evg_gimg hv.1,show z.toNat-1+1=z.toNat by omega]
  · rw [if_neg h0,if_neg h0,evg_neg (s:=s) (gimg_lr hv (by omega) (by omega)),←evg_gimg hv.1,show (-z).toNat-1+1=(-z).toNat by omega]
theorem evg_fact {s:Nat}: ∀{w:List Int},Rg s w→∀(x:Nat→Gp n) {u:List Int},(∀z∈u,Lr s z)→evg x (fact w u)=evg (AL w x) u
 | [],_,x,u,_=>rfl
 | v::w,hw,x,u,hu=>by
  have hv:=hw v List.mem_cons_self
  have hl: ∀z∈isub v u,Lr s z:=fun z hz=>isub_lr hv hu z hz
  show evg x (fact w (ird (isub v u)))=_
  rw [evg_fact (fun z hz=>hw z (List.mem_cons_of_mem _ hz)) x (fun z hz=>hl z (ird_mem z hz)),evg_ird hl,evg_isub hv _ hu]
  rfl
end Ho
end Go.Proofs.Ytlkmcbgkohpmiaa

set_option linter.all false
namespace Go.Proofs.Ytlkmcbgkohpmiaa
open Ev
namespace Ho
open Gar
variable {n : Nat}
def pz (x:Nat→Gp n):Nat→Gp n
 | 0=>1
 | j+1=>pz x j*(x j)⁻¹
def Th (x:Nat→Gp n) (j:Nat):Gp n:=pz x j*x j*(pz x j)⁻¹
def pt (x:Nat→Gp n):Nat→Gp n
 | 0=>1
 | j+1=>pt x j*x j
def Ti (x:Nat→Gp n) (j:Nat):Gp n:=pt x j*x j*(pt x j)⁻¹
theorem qff (x:Nat→Gp n) (j:Nat):pz x (j+1)=pz x j*(x j)⁻¹ :=rfl
theorem qer (x:Nat→Gp n) (j:Nat):pt x (j+1)=pt x j*x j:=rfl
theorem pt_Th (x:Nat→Gp n): ∀j,pt (Th x) j=(pz x j)⁻¹
 | 0=>rfl
 | j+1=>by
  rw [qer,pt_Th x j,qff]
  unfold Th
  exact Gp.ext fun k=>by simp
theorem Ti_Th (x:Nat→Gp n) (j:Nat):Ti (Th x) j=x j:=by
 unfold Ti
 rw [pt_Th]
 unfold Th
 exact Gp.ext fun k=>by simp
theorem pz_Ti (x:Nat→Gp n): ∀j,pz (Ti x) j=(pt x j)⁻¹
 | 0=>rfl
 | j+1=>by
  rw [qff,pz_Ti x j,qer]
  unfold Ti
  exact Gp.ext fun k=>by simp
theorem Th_Ti (x:Nat→Gp n) (j:Nat):Th (Ti x) j=x j:=by
 unfold Th
 rw [pz_Ti]
 unfold Ti
 exact Gp.ext fun k=>by simp
theorem pz_congr {x x':Nat→Gp n} {s:Nat} (h: ∀p,p<s→x p=x' p): ∀j,j≤s→pz x j=pz x' j
 | 0,_=>rfl
 | j+1,hj=>by rw [qff,qff,pz_congr h j (by omega),h j (by omega)]
theorem Th_congr {x x':Nat→Gp n} {s:Nat} (h: ∀p,p<s→x p=x' p) {j:Nat} (hj:j<s):Th x j=Th x' j:=by
 unfold Th; rw [pz_congr h j (by omega),h j hj]
theorem pt_congr {x x':Nat→Gp n} {s:Nat} (h: ∀p,p<s→x p=x' p): ∀j,j≤s→pt x j=pt x' j
 | 0,_=>rfl
 | j+1,hj=>by rw [qer,qer,pt_congr h j (by omega),h j (by omega)]
theorem Ti_congr {x x':Nat→Gp n} {s:Nat} (h: ∀p,p<s→x p=x' p) {j:Nat} (hj:j<s):Ti x j=Ti x' j:=by
 unfold Ti; rw [pt_congr h j (by omega),h j hj]
structure WR (v:Int) (u l:Nat→Gp n):Prop where
 far: ∀p,p+1≠v.natAbs→p≠v.natAbs→l p=u p
 pos:0<v→l (v.natAbs-1)=(u (v.natAbs-1))⁻¹ *u v.natAbs*u (v.natAbs-1)∧l v.natAbs=u (v.natAbs-1)
 neg: ¬0<v→l (v.natAbs-1)=u v.natAbs∧l v.natAbs=u v.natAbs*u (v.natAbs-1)*(u v.natAbs)⁻¹
theorem Th_av {v:Int} (hv:v≠0) {u l:Nat→Gp n} (h:WR v u l) (p:Nat):Th u p=av v (Th l) p:=by
 obtain ⟨a,ha⟩: ∃a,v.natAbs=a+1:=⟨v.natAbs-1,by omega⟩
 obtain ⟨h1,h2,h3⟩:=h
 rw [ha] at h1 h2 h3
 simp only [Nat.add_sub_cancel] at h2 h3
 have e0:pz l a=pz u a:=pz_congr (fun p hp=>h1 p (by omega) (by omega)) a (Nat.le_refl _)
 have e2:pz l (a+2)=pz u (a+2):=by
  rw [qff,qff,qff,qff,e0]
  by_cases q:0<v
  · rw [(h2 q).1,(h2 q).2]; exact Gp.ext fun k=>by simp
  · rw [(h3 q).1,(h3 q).2]; exact Gp.ext fun k=>by simp
 have ed: ∀d,pz l (a+2+d)=pz u (a+2+d):=by
  intro d
  induction d with
  | zero=>exact e2
  | succ d ih=>rw [show a+2+(d+1)=(a+2+d)+1 by omega,qff,qff,ih,h1 _ (by omega) (by omega)]
 unfold av
 rw [ha,Nat.add_sub_cancel]
 by_cases p1:p=a
 ·
  subst p1
  rw [if_pos rfl]
  unfold Th
  rw [qff l,e0]
  by_cases q:0<v
  · rw [if_pos q,(h2 q).1,(h2 q).2]; exact Gp.ext fun k=>by simp
  · rw [if_neg q,(h3 q).1,(h3 q).2]; exact Gp.ext fun k=>by simp
 ·
  rw [if_neg (by omega)]
  by_cases p2:p=a+1
  ·
   subst p2
   rw [if_pos rfl]
   unfold Th
   rw [qff l,qff u,e0]
   by_cases q:0<v
   · rw [if_pos q,(h2 q).1]; exact Gp.ext fun k=>by simp
   · rw [if_neg q,(h3 q).1,(h3 q).2]; exact Gp.ext fun k=>by simp
  ·
   rw [if_neg p2]
   unfold Th
   rw [h1 p (by omega) p2]
   have:pz l p=pz u p:=by
    by_cases hp:p<a
    · exact pz_congr (fun p hp=>h1 p (by omega) (by omega)) p (by omega:p≤a)
    ·
     have:=ed (p-(a+2))
     rwa [show a+2+(p-(a+2))=p by omega] at this
   rw [this]
theorem Ti_av {v:Int} (hv:v≠0) {Y Y':Nat→Gp n} (h: ∀p,Y p=av v Y' p):WR v (Ti Y) (Ti Y'):=by
 obtain ⟨a,ha⟩: ∃a,v.natAbs=a+1:=⟨v.natAbs-1,by omega⟩
 have hf: ∀p,p≠a→p≠a+1→Y' p=Y p:=fun p h1 h2=>by
  rw [h p]; unfold av; rw [ha,if_neg (by omega),if_neg h2]
 have hp:0<v→Y a=Y' a*Y' (a+1)*(Y' a)⁻¹ ∧Y (a+1)=Y' a:=fun q=>by
  refine ⟨?_,?_⟩
  · rw [h a]; unfold av; rw [ha,if_pos rfl,if_pos q,Nat.add_sub_cancel]
  · rw [h (a+1)]; unfold av; rw [ha,if_neg (by omega),if_pos rfl,if_pos q,Nat.add_sub_cancel]
 have hn: ¬0<v→Y a=Y' (a+1)∧Y (a+1)=(Y' (a+1))⁻¹ *Y' a*Y' (a+1):=fun q=>by
  refine ⟨?_,?_⟩
  · rw [h a]; unfold av; rw [ha,if_pos rfl,if_neg q]
  · rw [h (a+1)]; unfold av; rw [ha,if_neg (by omega),if_pos rfl,if_neg q,Nat.add_sub_cancel]
 have e0:pt Y' a=pt Y a:=pt_congr (fun p hp=>hf p (by omega) (by omega)) a (Nat.le_refl _)
 have e2:pt Y' (a+2)=pt Y (a+2):=by
  rw [qer,qer,qer,qer,e0]
  by_cases q:0<v
  · rw [(hp q).1,(hp q).2]; exact Gp.ext fun k=>by simp
  · rw [(hn q).1,(hn q).2]; exact Gp.ext fun k=>by simp
 have ed: ∀d,pt Y' (a+2+d)=pt Y (a+2+d):=by
  intro d
  induction d with
  | zero=>exact e2
  | succ d ih=>rw [show a+2+(d+1)=(a+2+d)+1 by omega,qer,qer,ih,hf _ (by omega) (by omega)]
 refine ⟨fun p p1 p2=>?_,fun q=>?_,fun q=>?_⟩
 ·
  rw [ha] at p1 p2
  unfold Ti
  rw [hf p (by omega) (by omega)]
  have:pt Y' p=pt Y p:=by
   by_cases hp:p<a
   · exact pt_congr (fun p hp=>hf p (by omega) (by omega)) p (by omega:p≤a)
   ·
    have:=ed (p-(a+2))
    rwa [show a+2+(p-(a+2))=p by omega] at this
  rw [this]
 ·
  rw [ha,Nat.add_sub_cancel]
  unfold Ti
  rw [qer,qer,e0,(hp q).1,(hp q).2]
  exact ⟨Gp.ext fun k=>by simp,Gp.ext fun k=>by simp⟩
 ·
  rw [ha,Nat.add_sub_cancel]
  unfold Ti
  rw [qer,qer,e0,(hn q).1,(hn q).2]
  exact ⟨Gp.ext fun k=>by simp,Gp.ext fun k=>by simp⟩
structure Cls (n:Nat) (C:List (List Int)):Prop where
 pe: ∀p∈C,Pe n p
 nd:C.Nodup
 cl:C.length≤1000
 c1: ∀p∈C,∀q∈C,∃r∈C,mu p q=mu r p
 c2: ∀p∈C,∀q∈C,∃r∈C,mu q p=mu p r
section
variable {C : List (List Int)} (K : Cls n C)
include K
theorem Cls.d1 {a b:Gp n} (ha:lg a∈C) (hb:lg b∈C):lg (a*b*a⁻¹)∈C:=by
 obtain ⟨r,hr,e⟩:=K.c1 _ ha _ hb
 have:=(conj_iff (lg_pe a) (lg_pe b) (K.pe r hr)).2 e
 rw [lg_inv,lg_mul,lg_mul] at this
 rw [this]; exact hr
theorem Cls.d2 {a b:Gp n} (ha:lg a∈C) (hb:lg b∈C):lg (a⁻¹ *b*a)∈C:=by
 obtain ⟨r,hr,e⟩:=K.c2 _ ha _ hb
 have:=(conj_iff' (lg_pe a) (lg_pe b) (K.pe r hr)).2 e
 rw [lg_inv,lg_mul,lg_mul] at this
 rw [this]; exact hr
theorem Cls.av {v:Int} {s:Nat} (hv:v≠0∧-(s:Int)<v∧v<s) {y:Nat→Gp n} (hy: ∀p,p<s→lg (y p)∈C): ∀p,p<s→lg (Ho.av v y p)∈C:=fun p hp=>by
 unfold Ho.av
 have h1:=hy (v.natAbs-1) (by omega)
 have h2:=hy v.natAbs (by omega)
 split
 ·
  split
  · exact K.d1 h1 h2
  · exact h2
 ·
  split
  ·
   split
   · exact h1
   · exact K.d2 h2 h1
  · exact hy p hp
theorem Cls.AL {s:Nat} {x:Nat→Gp n} (hx: ∀p,p<s→lg (x p)∈C): ∀{w:List Int},Rg s w→∀p,p<s→lg (Ho.AL w x p)∈C
 | [],_=>hx
 | v::w,hw=>K.av (hw v List.mem_cons_self) (Cls.AL hx fun z hz=>hw z (List.mem_cons_of_mem _ hz))
theorem Cls.pz {s:Nat} {x:Nat→Gp n} (hx: ∀p,p<s→lg (x p)∈C): ∀j,j≤s→∀b:Gp n,lg b∈C→lg (Ho.pz x j*b*(Ho.pz x j)⁻¹)∈C
 | 0,_,b,hb=>by rw [show Ho.pz x 0*b*(Ho.pz x 0)⁻¹ =b from Gp.ext fun k=>by simp [Ho.pz]]; exact hb
 | j+1,hj,b,hb=>by
  have:=Cls.pz hx j (by omega) _ (K.d2 (hx j (by omega)) hb)
  rw [show Ho.pz x (j+1)*b*(Ho.pz x (j+1))⁻¹ =Ho.pz x j*((x j)⁻¹ *b*x j)*(Ho.pz x j)⁻¹ from Gp.ext fun k=>by simp [Ho.pz]]
  exact this
theorem Cls.pt {s:Nat} {x:Nat→Gp n} (hx: ∀p,p<s→lg (x p)∈C): ∀j,j≤s→∀b:Gp n,lg b∈C→lg (Ho.pt x j*b*(Ho.pt x j)⁻¹)∈C
 | 0,_,b,hb=>by rw [show Ho.pt x 0*b*(Ho.pt x 0)⁻¹ =b from Gp.ext fun k=>by simp [Ho.pt]]; exact hb
 | j+1,hj,b,hb=>by
  have:=Cls.pt hx j (by omega) _ (K.d1 (hx j (by omega)) hb)
  rw [show Ho.pt x (j+1)*b*(Ho.pt x (j+1))⁻¹ =Ho.pt x j*(x j*b*(x j)⁻¹)*(Ho.pt x j)⁻¹ from Gp.ext fun k=>by simp [Ho.pt]]
  exact this
theorem Cls.Th {s:Nat} {x:Nat→Gp n} (hx: ∀p,p<s→lg (x p)∈C) {p:Nat} (hp:p<s):lg (Ho.Th x p)∈C:=K.pz hx p (by omega) _ (hx p hp)
theorem Cls.Ti {s:Nat} {x:Nat→Gp n} (hx: ∀p,p<s→lg (x p)∈C) {p:Nat} (hp:p<s):lg (Ho.Ti x p)∈C:=K.pt hx p (by omega) _ (hx p hp)
end
end Ho
end Go.Proofs.Ytlkmcbgkohpmiaa

set_option linter.all false
namespace Go.Proofs.Ytlkmcbgkohpmiaa
open Ev
namespace Ho
open Gar Gl Pg
variable {n : Nat}
theorem Gp.eq_of {a b:Gp n} (h:a⁻¹ *b=1):a=b:=by
 have h2:a*(a⁻¹ *b)=a*1:=by rw [h]
 have e:a*(a⁻¹ *b)=b:=Gp.ext fun k=>by simp
 rw [e,Gp.mul_one'] at h2
 exact h2.symm
theorem Gp.of_eq {a b:Gp n} (h:a=b):a⁻¹ *b=1:=by rw [h,Gp.inv_mul]
theorem Gp.eq_of' {a b:Gp n} (h:a*b⁻¹ =1):a=b:=by
 have h2:(a*b⁻¹)*b=1*b:=by rw [h]
 have e:(a*b⁻¹)*b=a:=Gp.ext fun k=>by simp
 rw [e,Gp.one_mul'] at h2
 exact h2
def Rlo (A:Nat→Nat) (y:Nat→Gp n) (v:Int) (c:Nat):Prop:=
 if 0<v then y (A (4*c+2))=(y (A (4*c+1)))⁻¹ *y (A (4*c))*y (A (4*c+1))
 else y (A (4*c+2))=y (A (4*c+1))*y (A (4*c))*(y (A (4*c+1)))⁻¹
theorem rlc_iff (A:Nat→Nat) (y:Nat→Gp n) (v:Int) (c:Nat):evg y (rlc A (sgv v) c)=1↔Rlo A y v c:=by
 have e1: ∀k,ltg y ((A k:Int)+1)=y (A k):=fun k=>by
  have:=ltg_at y (A k); rwa [show ((A k+1:Nat):Int)=(A k:Int)+1 by omega] at this
 have e2: ∀k,ltg y (-((A k:Int)+1))=(y (A k))⁻¹ :=fun k=>by
  have:=ltg_neg y (A k); rwa [show -((A k+1:Nat):Int)=-((A k:Int)+1) by omega] at this
 unfold rlc sgv Rlo
 by_cases h:0<v
 ·
  rw [if_pos h,if_pos h,if_pos (by decide)]
  show ltg y _*(ltg y _*(ltg y _*(ltg y _*1)))=1↔_
  rw [e1,e1,e2,e2]
  exact ⟨fun q=>Gp.eq_of q,fun q=>Gp.of_eq q⟩
 ·
  rw [if_neg h,if_neg h,if_neg (by decide)]
  show ltg y _*(ltg y _*(ltg y _*(ltg y _*1)))=1↔_
  rw [e1,e1,e2,e2]
  exact ⟨fun q=>Gp.eq_of q,fun q=>Gp.of_eq q⟩
section
variable {s : Nat} {w : List Int} (hw : Rg s w) {A : Nat → Nat} {cnt : Nat} (hA : ArcS (4 * w.length) (mtP (4 * w.length) (clm s w) ++ ovP w.length) A cnt)
def lps (s:Nat) (w:List Int):List Nat:=lpz (stC w w.length) s
def Xc (s:Nat) (w:List Int) (A:Nat→Nat) (cnt:Nat) (y:Nat→Gp n) (k p:Nat):Gp n:=
 if s≤p then 1 else if (stC w w.length).lst p<0 then y (cnt+(lps s w).idxOf p) else y (A (Vv s w k p))
theorem lps_mem {p:Nat}:p∈lps s w↔p<s∧(stC w w.length).lst p<0:=by
 unfold lps lpz; rw [List.mem_filter,List.mem_range]
 exact ⟨fun h=>⟨h.1,of_decide_eq_true h.2⟩,fun h=>⟨h.1,dT h.2⟩⟩
theorem lps_nodup:(lps s w).Nodup:=by unfold lps lpz; exact List.Pairwise.filter _ List.nodup_range
include hw
theorem Vv_lt {k p:Nat} (hp:p<s) (hl:0≤(stC w w.length).lst p) (hk:k≤w.length):Vv s w k p<4*w.length:=by
 have h3: ∀v:Int,inL v<4∧inR v<4:=fun v=>by unfold inL inR; constructor<;>split<;>decide
 have:=lev_gen hw (fun h=>decide (h<4*w.length)) (fun _ _=>true) (fun _ _=>rfl) (fun k hk=>⟨dT (by have:=(h3 (w.getD k 0)).1; omega),dT (by have:=(h3 (w.getD k 0)).2; omega)⟩) (fun _ _ _ _ _=>rfl) hp hl hk
 exact of_decide_eq_true this
omit hw in
theorem Xc_at {y:Nat→Gp n} {k j p:Nat} (hp:p<s) (ht:Tch w j p) (hj:j<w.length):Xc s w A cnt y k p=y (A (Vv s w k p)):=by
 have:=lst_pos ht hj
 unfold Xc
 rw [if_neg (by omega),if_neg (by omega)]
theorem Xc_end (y:Nat→Gp n):Xc s w A cnt y w.length=Xc s w A cnt y 0:=by
 funext p
 unfold Xc
 by_cases h:s≤p
 · rw [if_pos h,if_pos h]
 · rw [if_neg h,if_neg h,Vv_end hw (by omega)]
theorem tch2 {k:Nat} (hk:k<w.length):(w.getD k 0).natAbs-1<s∧(w.getD k 0).natAbs<s∧w.getD k 0≠0:=by
 obtain ⟨h1,h2,h3⟩:=qfe hw hk
 exact ⟨by omega,h3,h1⟩
include hA
theorem Xc_four {y:Nat→Gp n} {k:Nat} (hk:k<w.length):
  Xc s w A cnt y k ((w.getD k 0).natAbs-1)=y (A (4*k+inL (w.getD k 0)))∧Xc s w A cnt y k (w.getD k 0).natAbs=y (A (4*k+inR (w.getD k 0)))∧
  Xc s w A cnt y (k+1) ((w.getD k 0).natAbs-1)=y (A (4*k+ouL (w.getD k 0)))∧Xc s w A cnt y (k+1) (w.getD k 0).natAbs=y (A (4*k+ouR (w.getD k 0))):=by
 obtain ⟨p1,p2,p3⟩:=tch2 hw hk
 obtain ⟨v1,v2⟩:=Vv_in hw hk
 obtain ⟨v3,v4⟩:=Vv_out hw hk
 have hg: ∀h,h<4*w.length→A (clm s w h)=A h:=fun h hh=>(hA.glue h (clm s w h) (List.mem_append_left _ (List.mem_map.2 ⟨h,List.mem_range.2 hh,rfl⟩))).symm
 have h4: ∀v:Int,ouL v<4∧ouR v<4:=fun v=>by unfold ouL ouR; constructor<;>split<;>decide
 refine ⟨?_,?_,?_,?_⟩
 · rw [Xc_at p1 (.inl rfl) hk,v1]
 · rw [Xc_at p2 (.inr rfl) hk,v2]
 · rw [Xc_at p1 (.inl rfl) hk,v3,hg _ (by have:=(h4 (w.getD k 0)).1; omega)]
 · rw [Xc_at p2 (.inr rfl) hk,v4,hg _ (by have:=(h4 (w.getD k 0)).2; omega)]
omit hw in
theorem over_eq {y:Nat→Gp n} {c:Nat} (hc:c<w.length):y (A (4*c+3))=y (A (4*c+1)):=by
 rw [hA.glue (4*c+1) (4*c+3) (List.mem_append_right _ (List.mem_map.2 ⟨c,List.mem_range.2 hc,rfl⟩))]
theorem Xc_wr {y:Nat→Gp n} (hr: ∀c,c<w.length→Rlo A y (w.getD c 0) c) {k:Nat} (hk:k<w.length):WR (w.getD k 0) (Xc s w A cnt y k) (Xc s w A cnt y (k+1)):=by
 obtain ⟨e1,e2,e3,e4⟩:=Xc_four (y:=y) hw hA hk
 obtain ⟨p1,p2,p3⟩:=tch2 hw hk
 have hq:=hr k hk
 have ho:=over_eq (y:=y) hA hk
 refine ⟨fun p h1 h2=>?_,fun h0=>?_,fun h0=>?_⟩
 ·
  unfold Xc
  rw [Vv_keep (by omega) h2]
 ·
  rw [e1,e2,e3,e4]
  unfold Rlo at hq
  rw [if_pos h0] at hq
  unfold inL inR ouL ouR
  rw [if_pos h0,if_pos h0,if_pos h0,if_pos h0,Nat.add_zero,ho]
  exact ⟨hq,rfl⟩
 ·
  rw [e1,e2,e3,e4]
  unfold Rlo at hq
  rw [if_neg h0] at hq
  unfold inL inR ouL ouR
  rw [if_neg h0,if_neg h0,if_neg h0,if_neg h0,Nat.add_zero,ho]
  exact ⟨rfl,hq⟩
theorem Xc_al {y:Nat→Gp n} (hr: ∀c,c<w.length→Rlo A y (w.getD c 0) c):AL w (Th (Xc s w A cnt y 0))=Th (Xc s w A cnt y 0):=by
 have key: ∀d k,k+d=w.length→Th (Xc s w A cnt y k)=AL (w.drop k) (Th (Xc s w A cnt y w.length)):=by
  intro d
  induction d with
  | zero=>intro k hk; rw [show k=w.length by omega,List.drop_length]; rfl
  | succ d ih=>
   intro k hk
   have hlt:k<w.length:=by omega
   rw [List.drop_eq_getElem_cons hlt]
   show _=av w[k] (AL (w.drop (k+1)) _)
   rw [←ih (k+1) (by omega),←qdr hlt (d:=0)]
   funext p
   exact Th_av (tch2 hw hlt).2.2 (Xc_wr hw hA hr hlt) p
 have:=key w.length 0 (by omega)
 rw [List.drop_zero,Xc_end hw] at this
 exact this.symm
/-! Back from above. -/
omit hA hw in
def Gh (w:List Int) (u:Nat→Nat→Gp n) (x:Nat):Gp n:=
 let v:=w.getD (x/ 4) 0
 if x%4=inL v then u (x/ 4) (v.natAbs-1) else if x%4=inR v then u (x/ 4) v.natAbs else if x%4=ouR v then u (x/ 4+1) v.natAbs else u (x/ 4+1) (v.natAbs-1)
omit hA hw in
theorem Gh_at (w:List Int) (u:Nat→Nat→Gp n) (k:Nat):Gh w u (4*k+inL (w.getD k 0))=u k ((w.getD k 0).natAbs-1)∧Gh w u (4*k+inR (w.getD k 0))=u k (w.getD k 0).natAbs∧Gh w u (4*k+ouR (w.getD k 0))=u (k+1) (w.getD k 0).natAbs∧Gh w u (4*k+ouL (w.getD k 0))=u (k+1) ((w.getD k 0).natAbs-1):=by
 have key: ∀r,r<4→(4*k+r)/ 4=k∧(4*k+r)%4=r:=fun r hr=>by omega
 have h4:inL (w.getD k 0)<4∧inR (w.getD k 0)<4∧ouR (w.getD k 0)<4∧ouL (w.getD k 0)<4:=by
  unfold inL inR ouL ouR; repeat' split
  all_goals decide
 have hd:inR (w.getD k 0)≠inL (w.getD k 0)∧ouR (w.getD k 0)≠inL (w.getD k 0)∧ouR (w.getD k 0)≠inR (w.getD k 0)∧ouL (w.getD k 0)≠inL (w.getD k 0)∧ouL (w.getD k 0)≠inR (w.getD k 0)∧ouL (w.getD k 0)≠ouR (w.getD k 0):=by
  unfold inL inR ouL ouR
  by_cases q:0<w.getD k 0
  · simp only [if_pos q]; decide
  · simp only [if_neg q]; decide
 obtain ⟨d1,d2,d3,d4,d5,d6⟩:=hd
 refine ⟨?_,?_,?_,?_⟩
 · unfold Gh; dsimp only; rw [(key _ h4.1).1,(key _ h4.1).2,if_pos rfl]
 · unfold Gh; dsimp only; rw [(key _ h4.2.1).1,(key _ h4.2.1).2,if_neg d1,if_pos rfl]
 · unfold Gh; dsimp only; rw [(key _ h4.2.2.1).1,(key _ h4.2.2.1).2,if_neg d2,if_neg d3,if_pos rfl]
 · unfold Gh; dsimp only; rw [(key _ h4.2.2.2).1,(key _ h4.2.2.2).2,if_neg d4,if_neg d5,if_neg d6]
def ul (w:List Int) (x:Nat→Gp n) (k:Nat):Nat→Gp n:=Ti (AL (w.drop k) x)
omit hA in
theorem ul_wr (x:Nat→Gp n) {k:Nat} (hk:k<w.length):WR (w.getD k 0) (ul w x k) (ul w x (k+1)):=by
 refine Ti_av (tch2 hw hk).2.2 fun p=>?_
 rw [List.drop_eq_getElem_cons hk,qdr hk]
 rfl
omit hA hw in
theorem ul_end {x:Nat→Gp n} (hx: ∀p,p<s→AL w x p=x p): ∀p,p<s→ul w x w.length p=ul w x 0 p:=fun p hp=>by
 unfold ul
 rw [List.drop_length,List.drop_zero]
 exact Ti_congr (fun p hp=>(hx p hp).symm) hp
omit hA in
theorem Gh_lev {x:Nat→Gp n} (hx: ∀p,p<s→AL w x p=x p) {p:Nat} (hp:p<s) (hl:0≤(stC w w.length).lst p) {k:Nat} (hk:k≤w.length):Gh w (ul w x) (Vv s w k p)=ul w x k p:=
 lev_gen hw (Gh w (ul w x)) (ul w x) (ul_end hx) (fun k _=>⟨(Gh_at w (ul w x) k).1,(Gh_at w (ul w x) k).2.1⟩) (fun k p hk _ ht=>by
  have:=(ul_wr hw x hk).far p (fun e=>ht (.inl (by have:=(tch2 hw hk).2.2; omega))) (fun e=>ht (.inr e))
  exact this) hp hl hk
omit hA in
theorem Gh_out {x:Nat→Gp n} (hx: ∀p,p<s→AL w x p=x p) {h:Nat} (hh:h<4*w.length) (ho:Outg (w.map sgv) h):Gh w (ul w x) (clm s w h)=Gh w (ul w x) h:=by
 obtain ⟨k,hk,hc⟩:=four h hh
 obtain ⟨p1,p2,p3⟩:=tch2 hw hk
 obtain ⟨g1,g2,g3,g4⟩:=Gh_at w (ul w x) k
 obtain ⟨v3,v4⟩:=Vv_out hw hk
 have ho':=(outg_ou hh).1 ho
 have h4:inL (w.getD k 0)<4∧inR (w.getD k 0)<4:=by
  unfold inL inR; constructor<;>split<;>decide
 rcases hc with e | e | e | e
 ·
  exfalso
  have hk4:h/ 4=k:=by omega
  unfold OuW at ho'
  rw [hk4] at ho'
  unfold inL at e
  by_cases q:0<w.getD k 0
  · rw [if_pos q] at e ho'; omega
  · rw [if_neg q] at e ho'; omega
 ·
  exfalso
  have hk4:h/ 4=k:=by omega
  unfold OuW at ho'
  rw [hk4] at ho'
  unfold inR at e
  by_cases q:0<w.getD k 0
  · rw [if_pos q] at e ho'; omega
  · rw [if_neg q] at e ho'; omega
 ·
  rw [e,g4,←v3]
  exact Gh_lev hw hx p1 (lst_pos (.inl rfl) hk) (by omega)
 ·
  rw [e,g3,←v4]
  exact Gh_lev hw hx p2 (lst_pos (.inr rfl) hk) (by omega)
omit hA in
theorem Gh_glue {x:Nat→Gp n} (hx: ∀p,p<s→AL w x p=x p): ∀a b,(a,b)∈mtP (4*w.length) (clm s w)++ovP w.length→Gh w (ul w x) a=Gh w (ul w x) b:=by
 intro a b hab
 rcases List.mem_append.1 hab with h | h
 ·
  obtain ⟨k,hk,e⟩:=List.mem_map.1 h
  obtain ⟨e1,e2⟩:=Prod.mk.inj e
  subst e1 e2
  have hk':=List.mem_range.1 hk
  have M':=clm_mt hw
  by_cases ho:Outg (w.map sgv) k
  · exact (Gh_out hw hx hk' ho).symm
  ·
   have h2:=(clm_out hw k hk').2 ho
   have:=Gh_out hw hx (M'.2 k hk').2.1 h2
   rw [M'.iv.inv k hk'] at this
   exact this
 ·
  obtain ⟨c,hc,e⟩:=List.mem_map.1 h
  obtain ⟨e1,e2⟩:=Prod.mk.inj e
  subst e1 e2
  have hc':=List.mem_range.1 hc
  obtain ⟨g1,g2,g3,g4⟩:=Gh_at w (ul w x) c
  have W:=ul_wr hw x hc'
  by_cases q:0<w.getD c 0
  ·
   have e1:inL (w.getD c 0)=3:=if_pos q
   have e2:ouR (w.getD c 0)=1:=if_pos q
   rw [e1] at g1; rw [e2] at g3
   rw [g1,g3]; exact (W.pos q).2
  ·
   have e1:inR (w.getD c 0)=1:=if_neg q
   have e2:ouL (w.getD c 0)=3:=if_neg q
   rw [e1] at g2; rw [e2] at g4
   rw [g2,g4]; exact ((W.neg q).1).symm
open Classical in
noncomputable def yg (s:Nat) (w:List Int) (A:Nat→Nat) (cnt:Nat) (x:Nat→Gp n) (i:Nat):Gp n:=
 if i<cnt then (if h: ∃j,j<4*w.length∧A j=i then Gh w (ul w x) h.choose else 1) else ul w x 0 ((lps s w).getD (i-cnt) 0)
theorem yg_at {x:Nat→Gp n} (hx: ∀p,p<s→AL w x p=x p) {h:Nat} (hh:h<4*w.length):yg s w A cnt x (A h)=Gh w (ul w x) h:=by
 have hex: ∃j,j<4*w.length∧A j=A h:=⟨h,hh,rfl⟩
 unfold yg
 rw [if_pos (hA.lt h hh),dif_pos hex]
 exact hA.fac _ (Gh_glue hw hx) _ _ hex.choose_spec.1 hh hex.choose_spec.2
theorem yg_rl {x:Nat→Gp n} (hx: ∀p,p<s→AL w x p=x p) {c:Nat} (hc:c<w.length):Rlo A (yg s w A cnt x) (w.getD c 0) c:=by
 obtain ⟨g1,g2,g3,g4⟩:=Gh_at w (ul w x) c
 have W:=ul_wr hw x hc
 unfold Rlo
 rw [yg_at hw hA hx (h:=4*c+2) (by omega),yg_at hw hA hx (h:=4*c+1) (by omega),yg_at hw hA hx (h:=4*c) (by omega)]
 by_cases q:0<w.getD c 0
 ·
  have e2:inR (w.getD c 0)=0:=if_pos q
  have e3:ouR (w.getD c 0)=1:=if_pos q
  have e4:ouL (w.getD c 0)=2:=if_pos q
  rw [e2] at g2; rw [e3] at g3; rw [e4] at g4
  rw [if_pos q,g3,g4]
  rw [Nat.add_zero] at g2
  rw [g2,(W.pos q).1,(W.pos q).2]
 ·
  have e1:inL (w.getD c 0)=0:=if_neg q
  have e2:inR (w.getD c 0)=1:=if_neg q
  have e3:ouR (w.getD c 0)=2:=if_neg q
  rw [e1] at g1; rw [e2] at g2; rw [e3] at g3
  rw [if_neg q,g2,g3]
  rw [Nat.add_zero] at g1
  rw [g1,(W.neg q).2]
theorem yg_back {x:Nat→Gp n} (hx: ∀p,p<s→AL w x p=x p) {p:Nat} (hp:p<s):Xc s w A cnt (yg s w A cnt x) 0 p=ul w x 0 p:=by
 unfold Xc
 rw [if_neg (by omega)]
 by_cases hl:(stC w w.length).lst p<0
 ·
  rw [if_pos hl]
  have hm:p∈lps s w:=lps_mem.2 ⟨hp,hl⟩
  unfold yg
  rw [if_neg (by omega),Nat.add_sub_cancel_left]
  have hi:=List.idxOf_lt_length_iff.2 hm
  rw [List.getD_eq_getElem?_getD,gE hi,Option.getD_some,List.getElem_idxOf]
 ·
  rw [if_neg hl,yg_at hw hA hx (Vv_lt hw hp (by omega) (Nat.zero_le _))]
  exact Gh_lev hw hx hp (by omega) (Nat.zero_le _)
theorem yg_th {x:Nat→Gp n} (hx: ∀p,p<s→AL w x p=x p) {p:Nat} (hp:p<s):Th (Xc s w A cnt (yg s w A cnt x) 0) p=x p:=by
 rw [Th_congr (fun p hp=>yg_back hw hA hx hp) hp]
 unfold ul
 rw [Th_Ti,List.drop_zero]
 exact hx p hp
theorem Xc_inj {y y':Nat→Gp n} (hr: ∀c,c<w.length→Rlo A y (w.getD c 0) c) (hr': ∀c,c<w.length→Rlo A y' (w.getD c 0) c) (he: ∀p,p<s→Th (Xc s w A cnt y 0) p=Th (Xc s w A cnt y' 0) p):
  ∀i,i<cnt+(lps s w).length→y i=y' i:=by
 have h0:Xc s w A cnt y 0=Xc s w A cnt y' 0:=by
  funext p
  by_cases hp:p<s
  ·
   rw [←Ti_Th (Xc s w A cnt y 0),←Ti_Th (Xc s w A cnt y' 0)]
   exact Ti_congr he hp
  · unfold Xc; rw [if_pos (by omega),if_pos (by omega)]
 have hk: ∀k,k≤w.length→Xc s w A cnt y k=Xc s w A cnt y' k:=by
  intro k
  induction k with
  | zero=>intro _; exact h0
  | succ k ih=>
   intro hk
   have W:=Xc_wr hw hA hr (show k<w.length by omega)
   have W':=Xc_wr hw hA hr' (show k<w.length by omega)
   rw [ih (by omega)] at W
   funext p
   by_cases p1:p+1=(w.getD k 0).natAbs
   ·
    have e:p=(w.getD k 0).natAbs-1:=by omega
    by_cases q:0<w.getD k 0
    · rw [e,(W.pos q).1,(W'.pos q).1]
    · rw [e,(W.neg q).1,(W'.neg q).1]
   ·
    by_cases p2:p=(w.getD k 0).natAbs
    ·
     by_cases q:0<w.getD k 0
     · rw [p2,(W.pos q).2,(W'.pos q).2]
     · rw [p2,(W.neg q).2,(W'.neg q).2]
    · rw [W.far p p1 p2,W'.far p p1 p2]
 intro i hi
 by_cases hc:i<cnt
 ·
  obtain ⟨h,hh,e⟩:=hA.sur i hc
  obtain ⟨k,hkl,hf⟩:=four h hh
  obtain ⟨a1,a2,a3,a4⟩:=Xc_four (y:=y) hw hA hkl
  obtain ⟨b1,b2,b3,b4⟩:=Xc_four (y:=y') hw hA hkl
  have e1:=hk k (by omega)
  have e2:=hk (k+1) (by omega)
  rcases hf with q | q | q | q
  · rw [←e,q,←a1,←b1,e1]
  · rw [←e,q,←a2,←b2,e1]
  · rw [←e,q,←a3,←b3,e2]
  · rw [←e,q,←a4,←b4,e2]
 ·
  have hj:i-cnt<(lps s w).length:=by omega
  obtain ⟨m1,m2⟩:=lps_mem.1 (List.getElem_mem hj)
  have e:=congrFun h0 (lps s w)[i-cnt]
  unfold Xc at e
  rw [if_neg (by omega),if_pos m2,if_neg (by omega),if_pos m2,lps_nodup.idxOf_getElem _ hj,show cnt+(i-cnt)=i by omega] at e
  exact e
end
end Ho
end Go.Proofs.Ytlkmcbgkohpmiaa

set_option linter.all false
namespace Go.Proofs.Ytlkmcbgkohpmiaa
open Ev
namespace Ho
open Gar Gl Pg
theorem len_inj {α β:Type} [BEq α] [LawfulBEq α] [BEq β] [LawfulBEq β] {l1:List α} {l2:List β} (hn:l1.Nodup) (f:α→β) (hm: ∀x∈l1,f x∈l2) (hi: ∀x∈l1,∀y∈l1,f x=f y→x=y):l1.length≤l2.length:=by
 have hnd:(l1.map f).Nodup:=by
  rw [List.Nodup,List.pairwise_map]
  exact List.Pairwise.imp_of_mem (fun {a b} ha hb hab e=>hab (hi a ha b hb e)) hn
 have:=List.Nodup.length_le_of_subset hnd (l₂:=l2) (fun x hx=>by
  obtain ⟨a,ha,rfl⟩:=List.mem_map.1 hx
  exact hm a ha)
 rwa [List.length_map] at this
section
variable {n s : Nat} {C : List (List Int)} {w : List Int} (K : Cls n C) (hs : s ≤ 5) (hw : Rg s w) (hl : w.length ≤ 16)
theorem tls_mem {g:Nat} {y:Nat→Gp n}:tls g y∈tpl C g↔∀p,p<g→lg (y p)∈C:=by
 rw [tpl_mem]
 constructor
 ·
  intro h p hp
  exact h.2 _ (List.mem_map.2 ⟨p,List.mem_range.2 hp,rfl⟩)
 ·
  intro h
  refine ⟨tls_len,fun c hc=>?_⟩
  obtain ⟨p,hp,rfl⟩:=List.mem_map.1 hc
  exact h p (List.mem_range.1 hp)
include K in
theorem tpl_tls {g:Nat} {t:List (List Int)} (ht:t∈tpl C g):tls g (fn n t)=t:=by
 obtain ⟨h1,h2⟩:=tpl_mem.1 ht
 exact tls_fn ⟨h1,fun p hp=>K.pe p (h2 p hp)⟩
include hs hw hl in
theorem grow_iff (x:Nat→Gp n) {k:Nat} (hk:k<s):ev n (tls s x) (grow w k)=un n↔AL w x k=x k:=by
 obtain ⟨h1,h2,h3⟩:=img_ok hs hw hl hk
 have hl2: ∀z∈fact w [((k+1:Nat):Int)]++[-((k+1:Nat):Int)],Lr s z:=fun z hz=>by
  rcases List.mem_append.1 hz with e | e
  · exact h1 z e
  · rw [List.mem_singleton] at e; rw [e]; unfold Lr; omega
 have hone: ∀z∈[((k+1:Nat):Int)],Lr s z:=fun z hz=>by
  rw [List.mem_singleton] at hz; rw [hz]; unfold Lr; omega
 unfold grow
 rw [tls_ev fun z hz=>hl2 z (ird_mem z hz),evg_ird hl2,evg_app,evg_fact hw x hone,evg_one,evg_one,ltg_at,ltg_neg,←lg_one]
 exact ⟨fun h=>Gp.eq_of' (lg_inj h),fun h=>by rw [h,Gp.mul_inv]⟩
open Classical in
theorem hct1 {t:List (List Int)}:t∈(tpl C s).filter (fun t=>decide (∀w'∈grows s w,ev n t w'=un n))↔t∈tpl C s∧∀k,k<s→ev n t (grow w k)=un n:=by
 rw [List.mem_filter]
 refine and_congr Iff.rfl ⟨fun h k hk=>of_decide_eq_true h _ (List.mem_map.2 ⟨k,List.mem_range.2 hk,rfl⟩),fun h=>dT fun w' hw'=>?_⟩
 obtain ⟨k,hk,rfl⟩:=List.mem_map.1 hw'
 exact h k (List.mem_range.1 hk)
variable {A : Nat → Nat} {cnt : Nat} (hA : ArcS (4 * w.length) (mtP (4 * w.length) (clm s w) ++ ovP w.length) A cnt)
include hA in
theorem rls_iff {g:Nat} (hg:cnt≤g) (y:Nat→Gp n):(∀w'∈rls A (w.map sgv),ev n (tls g y) w'=un n)↔∀c,c<w.length→Rlo A y (w.getD c 0) c:=by
 have key: ∀c,c<w.length→((w.map sgv).getD c 0=sgv (w.getD c 0))∧∀z∈rlc A ((w.map sgv).getD c 0) c,Lr g z:=fun c hc=>by
  refine ⟨?_,fun z hz=>rlc_lr (sg:=w.map sgv) (by rw [List.length_map]; exact hA.lt) hg (by rw [List.length_map]; exact hc) _ z hz⟩
  rw [List.getD_eq_getElem?_getD,List.getElem?_map,gE hc,List.getD_eq_getElem?_getD,gE hc]
  rfl
 have one: ∀c,c<w.length→(ev n (tls g y) (ird (rlc A ((w.map sgv).getD c 0) c))=un n↔Rlo A y (w.getD c 0) c):=fun c hc=>by
  obtain ⟨k1,k2⟩:=key c hc
  rw [tls_ev fun z hz=>k2 z (ird_mem z hz),evg_ird k2,k1,←lg_one,←rlc_iff]
  exact ⟨fun h=>lg_inj h,fun h=>by rw [h]⟩
 unfold rls
 constructor
 ·
  intro h c hc
  exact (one c hc).1 (h _ (List.mem_map.2 ⟨c,List.mem_range.2 (by rw [List.length_map]; exact hc),rfl⟩))
 ·
  intro h w' hw'
  obtain ⟨c,hc,rfl⟩:=List.mem_map.1 hw'
  have hc':=List.mem_range.1 hc
  rw [List.length_map] at hc'
  exact (one c hc').2 (h c hc')
include hw hA in
theorem Xc_cls {y:Nat→Gp n} (hy: ∀p,p<cnt+(lps s w).length→lg (y p)∈C): ∀p,p<s→lg (Xc s w A cnt y 0 p)∈C:=fun p hp=>by
 unfold Xc
 rw [if_neg (by omega)]
 by_cases hl:(stC w w.length).lst p<0
 ·
  rw [if_pos hl]
  have:=List.idxOf_lt_length_iff.2 ((lps_mem (s:=s) (w:=w)).2 ⟨hp,hl⟩)
  exact hy _ (by omega)
 ·
  rw [if_neg hl]
  have:=hA.lt _ (Vv_lt hw hp (by omega) (Nat.zero_le _))
  exact hy _ (by omega)
include K hw in
theorem ul_cls {x:Nat→Gp n} (hx: ∀p,p<s→lg (x p)∈C) (k:Nat): ∀p,p<s→lg (ul w x k p)∈C:=fun p hp=>
 K.Ti (K.AL hx fun z hz=>hw z (List.mem_of_mem_drop hz)) hp
include K hw hA in
theorem yg_cls {x:Nat→Gp n} (hx: ∀p,p<s→lg (x p)∈C) (he: ∀p,p<s→AL w x p=x p): ∀i,i<cnt+(lps s w).length→lg (yg s w A cnt x i)∈C:=fun i hi=>by
 by_cases hc:i<cnt
 ·
  obtain ⟨h,hh,e⟩:=hA.sur i hc
  rw [←e,yg_at hw hA he hh]
  obtain ⟨k,hkl,hf⟩:=four h hh
  obtain ⟨g1,g2,g3,g4⟩:=Gh_at w (ul w x) k
  obtain ⟨p1,p2,_⟩:=tch2 hw hkl
  rcases hf with q | q | q | q
  · rw [q,g1]; exact ul_cls K hw hx _ _ p1
  · rw [q,g2]; exact ul_cls K hw hx _ _ p2
  · rw [q,g4]; exact ul_cls K hw hx _ _ p1
  · rw [q,g3]; exact ul_cls K hw hx _ _ p2
 ·
  unfold yg
  rw [if_neg hc]
  have hj:i-cnt<(lps s w).length:=by omega
  rw [List.getD_eq_getElem?_getD,gE hj,Option.getD_some]
  exact ul_cls K hw hx _ _ (lps_mem.1 (List.getElem_mem hj)).1
include K hs hw hl hA in
theorem hct_eq:hct n C s (grows s w)=hct n C (cnt+(lps s w).length) (rls A (w.map sgv)):=by
 have fwd:hct n C s (grows s w)≤hct n C (cnt+(lps s w).length) (rls A (w.map sgv)):=by
  unfold hct
  refine len_inj ((tpl_nodup K.nd s).filter _) (fun t=>tls (cnt+(lps s w).length) (yg s w A cnt (fn n t))) (fun t ht=>?_) (fun t ht t' ht' e=>?_)
  ·
   obtain ⟨h1,h2⟩:=hct1.1 ht
   have e1:=tpl_tls K h1
   have hx: ∀p,p<s→lg (fn n t p)∈C:=tls_mem.1 (by rw [e1]; exact h1)
   have he: ∀p,p<s→AL w (fn n t) p=fn n t p:=fun p hp=>(grow_iff hs hw hl _ hp).1 (by rw [e1]; exact h2 p hp)
   rw [List.mem_filter]
   exact ⟨tls_mem.2 (yg_cls K hw hA hx he),dT ((rls_iff hA (Nat.le_add_right _ _) _).2 fun c hc=>yg_rl hw hA he hc)⟩
  ·
   obtain ⟨h1,h2⟩:=hct1.1 ht
   obtain ⟨h1',h2'⟩:=hct1.1 ht'
   have e1:=tpl_tls K h1
   have e1':=tpl_tls K h1'
   have he: ∀p,p<s→AL w (fn n t) p=fn n t p:=fun p hp=>(grow_iff hs hw hl _ hp).1 (by rw [e1]; exact h2 p hp)
   have he': ∀p,p<s→AL w (fn n t') p=fn n t' p:=fun p hp=>(grow_iff hs hw hl _ hp).1 (by rw [e1']; exact h2' p hp)
   have hy: ∀i,i<cnt+(lps s w).length→yg s w A cnt (fn n t) i=yg s w A cnt (fn n t') i:=fun i hi=>by
    rw [←fn_lst (y:=yg s w A cnt (fn n t)) hi,←fn_lst (y:=yg s w A cnt (fn n t')) hi]
    exact congrArg (fun l=>fn n l i) e
   have hX: ∀p,p<s→Xc s w A cnt (yg s w A cnt (fn n t)) 0 p=Xc s w A cnt (yg s w A cnt (fn n t')) 0 p:=fun p hp=>by
    unfold Xc
    have hsp: ¬s≤p:=by omega
    rw [if_neg hsp,if_neg hsp]
    by_cases hlt:(stC w w.length).lst p<0
    ·
     rw [if_pos hlt,if_pos hlt]
     have:=List.idxOf_lt_length_iff.2 ((lps_mem (s:=s) (w:=w)).2 ⟨hp,hlt⟩)
     exact hy _ (by omega)
    ·
     rw [if_neg hlt,if_neg hlt]
     have:=hA.lt _ (Vv_lt hw hp (by omega) (Nat.zero_le _))
     exact hy _ (by omega)
   rw [←e1,←e1']
   unfold tls
   refine List.map_congr_left fun p hp=>?_
   have hp':=List.mem_range.1 hp
   rw [←yg_th hw hA he hp',←yg_th hw hA he' hp',Th_congr hX hp']
 have bwd:hct n C (cnt+(lps s w).length) (rls A (w.map sgv))≤hct n C s (grows s w):=by
  unfold hct
  refine len_inj ((tpl_nodup K.nd _).filter _) (fun t=>tls s (Th (Xc s w A cnt (fn n t) 0))) (fun t ht=>?_) (fun t ht t' ht' e=>?_)
  ·
   obtain ⟨h1,h2⟩:=List.mem_filter.1 ht
   have e1:=tpl_tls K h1
   have hy: ∀p,p<cnt+(lps s w).length→lg (fn n t p)∈C:=tls_mem.1 (by rw [e1]; exact h1)
   have hr:=(rls_iff hA (Nat.le_add_right _ _) (fn n t)).1 (by rw [e1]; exact of_decide_eq_true h2)
   have hX:=Xc_cls hw hA hy
   refine hct1.2 ⟨tls_mem.2 fun p hp=>K.Th hX hp,fun k hk=>?_⟩
   rw [grow_iff hs hw hl _ hk,Xc_al hw hA hr]
  ·
   obtain ⟨h1,h2⟩:=List.mem_filter.1 ht
   obtain ⟨h1',h2'⟩:=List.mem_filter.1 ht'
   have e1:=tpl_tls K h1
   have e1':=tpl_tls K h1'
   have hr:=(rls_iff hA (Nat.le_add_right _ _) (fn n t)).1 (by rw [e1]; exact of_decide_eq_true h2)
   have hr':=(rls_iff hA (Nat.le_add_right _ _) (fn n t')).1 (by rw [e1']; exact of_decide_eq_true h2')
   have hi:=Xc_inj hw hA hr hr' (fun p hp=>by
    rw [←fn_lst (y:=Th (Xc s w A cnt (fn n t) 0)) hp,←fn_lst (y:=Th (Xc s w A cnt (fn n t') 0)) hp]
    exact congrArg (fun l=>fn n l p) e)
   rw [←e1,←e1']
   unfold tls
   exact List.map_congr_left fun p hp=>by rw [hi p (List.mem_range.1 hp)]
 omega
end
end Ho
end Go.Proofs.Ytlkmcbgkohpmiaa

set_option linter.all false
namespace Go.Proofs.Ytlkmcbgkohpmiaa
open Ev
namespace Ho
open Gar Gl Pg
set_option maxRecDepth 100000 in
theorem awake35h:F.law35_awake 10000000000=some true:=by decide+kernel
/-! Classes of at most four points. -/
def clsB (n:Nat) (C:List (List Int)):Bool:=
 (C.all fun p=>decide (p.length=n)&&(p.all fun x=>decide (0≤x)&&decide (x<(n:Int)))&&decide p.Nodup)&&(decide C.Nodup&&(decide (C.length≤1000)&&((C.all fun p=>C.all fun q=>C.any fun r=>decide (mu p q=mu r p))&&(C.all fun p=>C.all fun q=>C.any fun r=>decide (mu q p=mu p r)))))
theorem clsB_cls {n:Nat} {C:List (List Int)} (h:clsB n C=true):Cls n C:=by
 unfold clsB at h
 simp only [Bool.and_eq_true,List.all_eq_true,List.any_eq_true,decide_eq_true_eq] at h
 obtain ⟨h1,h2,h3,h4,h5⟩:=h
 refine ⟨fun p hp=>?_,h2,h3,h4,h5⟩
 obtain ⟨⟨e1,e2⟩,e3⟩:=h1 p hp
 obtain ⟨f,g,q1,q2⟩:=isP_of (p:=p) (fun x hx=>by have:=e2 x hx; rw [e1]; exact this) e3
 rw [e1] at q1 q2
 exact ⟨f,g,q1,q2⟩
def clsR (n:Nat) (cs:List Int):Bool:=match F.qfa 10000000000 (n:Int) cs with
 | some y=>!(decide (y.2=0)) || clsB n y.1
 | none=>false
set_option maxRecDepth 100000 in
theorem cls_tab: ∀n∈[1,2,3,4],∀k∈[0,1,2,3,4],∀cs∈tup (n+1) k,clsR n cs=true:=by decide+kernel
theorem cls_loop {N:Nat} (hN:N≤8) {cs:List Int} (hl:cs.length≤1000) (m:Nat) (hm:2000≤m):
  ∃o,loopN m (F.qgt m cs) ((N:Int),0)=some o∧(o=.inr ([],1)∨∃r:Int,o=.inl (r,(cs.length:Int))∧0≤r∧r+cs.length≤N∧∀x∈cs,1≤x∧x≤(N:Int)):=by
 refine qby (fun s:Int×Int=> ∃i:Nat,i≤cs.length∧s.2=(i:Int)∧0≤s.1∧s.1+(i:Int)≤(N:Int)∧∀x∈cs.take i,1≤x∧x≤(N:Int)) (fun s=>cs.length-s.2.toNat) _ ?_ m _ ⟨0,Nat.zero_le _,rfl,by dsimp only; omega,by dsimp only; omega,fun x hx=>absurd hx (by simp)⟩ (by show cs.length-(0:Int).toNat<m; omega)
 rintro ⟨s1,s2⟩ ⟨i,hi,e1,h0,hs,ht⟩
 dsimp only at e1 h0 hs
 subst e1
 unfold F.qgt
 dsimp only
 by_cases hlt:i<cs.length
 ·
  have e2:cs[i]? =some cs[i]:=gE hlt
  rw [dT (by omega),kT,get_at rfl e2,bB]
  by_cases a1:cs[i]<1
  · right; rw [dT a1,kT]; exact ⟨_,rfl,.inl rfl⟩
  rw [dF a1,kF]
  by_cases a2:s1<cs[i]
  · right; rw [dT a2,kT]; exact ⟨_,rfl,.inl rfl⟩
  rw [dF a2,kF]
  have hn: ∀x∈cs.take (i+1),1≤x∧x≤(N:Int):=fun x hx=>by
   rw [List.take_add_one,e2] at hx
   rcases List.mem_append.1 hx with h | h
   · exact ht x h
   · rw [show (some cs[i]).toList=[cs[i]] from rfl,List.mem_singleton] at h; rw [h]; omega
  by_cases a3:0<(i:Int)
  ·
   have e3:cs[i-1]? =some cs[i-1]:=gE (by omega)
   rw [dT a3,kT,qaj (by omega) (by omega),bB,get_at (k:=i-1) (by omega) e3,bB]
   by_cases a4:cs[i-1]<cs[i]
   · right; rw [dT a4,kT]; exact ⟨_,rfl,.inl rfl⟩
   ·
    left
    rw [dF a4,kF,qaj (by omega) (by omega),bB,qaj (by omega) (by omega),bB]
    exact ⟨_,rfl,⟨i+1,hlt,rfl,by dsimp only; omega,by dsimp only; omega,hn⟩,by dsimp only; omega⟩
  ·
   left
   rw [dF a3,kF,qaj (by omega) (by omega),bB,qaj (by omega) (by omega),bB]
   exact ⟨_,rfl,⟨i+1,hlt,rfl,by dsimp only; omega,by dsimp only; omega,hn⟩,by dsimp only; omega⟩
 ·
  right
  have:i=cs.length:=by omega
  subst this
  rw [dF (by omega),kF]
  rw [List.take_length] at ht
  exact ⟨_,rfl,.inr ⟨s1,rfl,h0,hs,ht⟩⟩
theorem class_run {n:Nat} (h1:1≤n) (h4:n≤4) {cs:List Int} (hl:cs.length≤1000): ∃y,F.qfa 10000000000 (n:Int) cs=some y∧(y.2=0→Cls n y.1):=by
 obtain ⟨o,q1,q2⟩:=cls_loop (N:=n) (by omega) hl 10000000000 (by omega)
 rcases q2 with e | ⟨r,e,r0,r1,r2⟩
 ·
  subst e
  refine ⟨([],1),?_,fun h=>absurd h (by decide)⟩
  unfold F.qfa
  rw [dF (by omega),kF,dF (by omega),kF,q1,bB]
 ·
  have hk:cs.length≤4:=by omega
  have hm:cs∈tup (n+1) cs.length:=mem_tup (n+1) cs fun x hx=>by have:=r2 x hx; omega
  have hn4:n∈[1,2,3,4]:=by
   have:n=1∨n=2∨n=3∨n=4:=by omega
   rcases this with e | e | e | e<;>rw [e]<;>decide
  have hk4:cs.length∈[0,1,2,3,4]:=by
   have:cs.length=0∨cs.length=1∨cs.length=2∨cs.length=3∨cs.length=4:=by omega
   rcases this with e | e | e | e | e<;>rw [e]<;>decide
  have ht:=cls_tab n hn4 _ hk4 cs hm
  unfold clsR at ht
  cases hy:F.qfa 10000000000 (n:Int) cs with
  | none=>rw [hy] at ht; cases ht
  | some y=>
   rw [hy] at ht
   dsimp only at ht
   refine ⟨y,rfl,fun h=>?_⟩
   rw [dT h,Bool.not_true,Bool.false_or] at ht
   exact clsB_cls ht
/-! Groups as the program writes them down. -/
structure Wg (g:Nat) (c:List Int) (ws:List (List Int)):Prop where
 g1:1≤g
 g2:g≤999
 cm:Cmp g c
 wr: ∀w∈ws,(∀y∈w,Lr g y)∧w.length≤100000
 wl:ws.length≤1000
theorem Wg.valid {g:Nat} {c:List Int} {ws:List (List Int)} (h:Wg g c ws):F.qdv 10000000000 (g:Int) c ws=some true:=by
 have h1:=h.g1
 have h2:=h.g2
 refine wirtValid (by omega) h.cm (fun w hw=>?_) h.wl _ (by omega)
 obtain ⟨q1,q2⟩:=h.wr w hw
 refine ⟨wV_iff.2 fun y hy=>?_,q2⟩
 have:=q1 y hy
 unfold Lr at this
 omega
theorem homs_run {g:Nat} {c:List Int} {ws:List (List Int)} (h:Wg g c ws) {z:Int} (hz:z≤4) {cs:List Int} (hl:cs.length≤1000):
  (∃e,e≠0∧∀g c ws,Wg g c ws→F.qel 10000000000 (g:Int) c ws z cs=some (0,e))∨
  ∃(n:Nat) (C:List (List Int)),Cls n C∧F.qfa 10000000000 z cs=some (C,0)∧∀g c ws,Wg g c ws→∃y,F.qel 10000000000 (g:Int) c ws z cs=some y∧(y.2=13∨(y.2=0∧y.1=(hct n C g ws:Int))):=by
 by_cases h0:z<1
 ·
  refine .inl ⟨2,by decide,fun g c ws h=>?_⟩
  unfold F.qel F.qbp
  rw [h.valid,bB,Bool.not_true,kF,dT h0,kT,bB]
  rfl
 ·
  obtain ⟨n,rfl⟩: ∃n:Nat,z=(n:Int):=⟨z.toNat,by omega⟩
  obtain ⟨⟨C,e⟩,q1,q2⟩:=class_run (n:=n) (by omega) (by omega) hl
  by_cases he:e=0
  ·
   subst he
   have K:=q2 rfl
   refine .inr ⟨n,C,K,q1,fun g c ws h=>?_⟩
   obtain ⟨a,b,k1,k2⟩:=count_run (comp:=c) (n:=n) (by omega) (by omega) h.g1 K.pe K.cl h.g2 h.wr h.wl 10000000000 (by omega) h.valid q1
   exact ⟨(a,b),k1,k2⟩
  ·
   refine .inl ⟨1,by decide,fun g c ws h=>?_⟩
   unfold F.qel F.qbp
   rw [h.valid,bB,Bool.not_true,kF,dF h0,kF,dF (by omega),kF,q1,bB,dF he,Bool.not_false,kT,bB]
   rfl
theorem great35 (n:Nat) (s:Int) (w:List Int): ∃r,F.law35_great n s w=some r∧(r=false→w.length≤14):=by
 unfold F.law35_great
 by_cases h1:14<(w.length:Int)
 · rw [dT h1]; exact ⟨true,rfl,fun h=>by cases h⟩
 rw [dF h1,kF]
 by_cases h2:5<s
 · rw [dT h2,kT]; exact ⟨_,rfl,fun _=>by omega⟩
 · rw [dF h2,kF]; exact ⟨_,rfl,fun _=>by omega⟩
theorem wg_braid {s:Nat} {w comp:List Int} (h1:1≤s) (hs:s≤5) (hw:Rg s w) (hl:w.length≤16) (hc:Cmp s comp):Wg s comp (grows s w):=by
 refine ⟨h1,by omega,hc,fun v hv=>?_,by unfold grows; rw [List.length_map,List.length_range]; omega⟩
 obtain ⟨k,hk,rfl⟩:=List.mem_map.1 hv
 exact grow_ok hs hw hl (List.mem_range.1 hk)
theorem wg_of {sg comp:List Int} {A:Nat→Nat} {cnt g:Nat} (hg:1≤g) (hA: ∀j,j<4*sg.length→A j<cnt) (hcg:cnt≤g) (hg2:g≤999) (hn:sg.length≤64) (hc:Cmp g comp):Wg g comp (rls A sg):=by
 refine ⟨hg,hg2,hc,fun v hv=>?_,by unfold rls; rw [List.length_map,List.length_range]; omega⟩
 obtain ⟨c,hcc,rfl⟩:=List.mem_map.1 hv
 have hc':=List.mem_range.1 hcc
 refine ⟨fun y hy=>rlc_lr hA hcg hc' _ y (ird_mem y hy),?_⟩
 have:=ird_len_le (rlc A (sg.getD c 0) c)
 have h4:(rlc A (sg.getD c 0) c).length=4:=by unfold rlc; split<;>rfl
 omega
where
 ird_len_le: ∀l:List Int,(ird l).length≤l.length
  | []=>Nat.le_refl _
  | a::l=>by
   have ih:=ird_len_le l
   show (ipush a (ird l)).length≤_
   have hp: ∀m:List Int,(ipush a m).length≤m.length+1:=fun m=>by
    cases m with
    | nil=>exact Nat.le_refl _
    | cons b t=>
     by_cases e:a=-b
     · rw [qfk a b t e,List.length_cons]; omega
     · rw [qev e]; exact Nat.le_refl _
   have:=hp (ird l)
   rw [List.length_cons]; omega
theorem homs_j0 {s:Int} {w:List Int} {z:Int} {cs:List Int} (hs:s≤4) (hl:w.length≤6) (hz:z≤4) (hc:cs.length≤10):F.law35_ArtinHoms_j0 10000000000 s w z cs=some true:=by
 unfold F.law35_ArtinHoms_j0
 cases hv:okB s w with
 | false=>
  have e1:F.qfd 10000000000 s w=some (0,[],[],1):=by
   unfold F.qfd
   rw [artinImages_bad hv _ (by omega)]
   rfl
  have e2:F.qew 10000000000 s w=some ([],[],0,1):=by
   unfold F.qew
   rw [braidValid _ (by omega),hv]
   rfl
  rw [e1,e2]
  rfl
 | true=>
  obtain ⟨v1,v2,v3,v4⟩:=okB_iff.1 hv
  obtain ⟨S,rfl⟩: ∃S:Nat,s=(S:Int):=⟨s.toNat,by omega⟩
  have hw:Rg S w:=v4
  obtain ⟨comp,a1,a2⟩:=ag_run hv (by omega) (by omega)
  have hcl:=closure_run hv (by omega) (by omega) 10000000000 (by omega)
  have D:=clo_dv hw (show w.length≤64 by omega) (lo:=((lps S w).length:Int)) (by omega) (by have:=lpz_len (stC w w.length) S; unfold lps; omega)
  have hln:(w.map sgv).length=w.length:=List.length_map ..
  have hlp:(lps S w).length≤S:=lpz_len _ _
  have hpos:0<4*(w.map sgv).length+(lps S w).length:=by
   rw [hln]
   by_cases h:w.length=0
   ·
    have hw0:=List.eq_nil_of_length_eq_zero h
    subst hw0
    have:0∈lps S []:=lps_mem.2 ⟨by omega,by show (-1:Int)<0; decide⟩
    have:=List.length_pos_of_mem this
    omega
   · omega
  obtain ⟨A,cnt,comp2,b1,b2,b3,b4,b5⟩:=of_run D hpos 10000000000 (by omega)
  rw [hln] at b1 b3
  have W1:=wg_braid (by omega) (by omega) hw (by omega) a2
  have W2:=wg_of (sg:=w.map sgv) b2 (by rw [hln]; exact b3.lt) (Nat.le_add_right _ _) (by omega) (by rw [hln]; omega) b5
  have e1:F.qgk 10000000000 (w.map sgv) (((stC w w.length).ps++clz (stC w w.length) S).foldl setP (List.replicate (4*w.length) 0)) ((lpz (stC w w.length) S).length:Int)=some (((cnt+(lps S w).length:Nat):Int),comp2,rls A (w.map sgv),0):=b4
  rw [a1,hcl,bB,bB]
  dsimp only
  rw [dT rfl,Bool.not_true,kF,kF,e1,bB]
  dsimp only
  rcases homs_run W1 hz (cs:=cs) (by omega) with ⟨e,h0,h1⟩ | ⟨n,C,K,_,h1⟩
  ·
   rw [h1 _ _ _ W1,h1 _ _ _ W2,bB,bB]
   dsimp only
   rw [dT rfl,Bool.not_true,kF,dF h0,Bool.not_false,kT]
   unfold F.law35_ArtinHoms_j1
   rw [kT,dT rfl,kT]
  ·
   obtain ⟨⟨y1,f1⟩,k1,k2⟩:=h1 _ _ _ W1
   obtain ⟨⟨y2,f2⟩,l1,l2⟩:=h1 _ _ _ W2
   have he:=hct_eq K (by omega) hw (by omega) b3
   rw [k1,l1,bB,bB]
   dsimp only at k2 l2⊢
   rw [dT rfl,Bool.not_true,kF]
   unfold F.law35_ArtinHoms_j1
   rcases k2 with e | ⟨e,e'⟩
   ·
    subst e
    rw [dF (by decide),Bool.not_false,kT,kT]
    dsimp only
    by_cases q:(13:Int)=f2
    · rw [dT q]; rfl
    · rw [dF q]; rfl
   ·
    subst e
    rw [dT rfl,Bool.not_true,kF]
    rcases l2 with g | ⟨g,g'⟩
    · subst g; rfl
    ·
     subst g
     dsimp only
     rw [dT rfl,Bool.not_true,kF,dT (by rw [e',g',he])]
theorem law35_ArtinHoms_true' (s:Int) (w:List Int) (z:Int) (cs:List Int):F.law35_ArtinHoms 10000000000 s w z cs=some true:=by
 unfold F.law35_ArtinHoms
 obtain ⟨r,hr,hg⟩:=great35 10000000000 s w
 rw [awake35h,bB,Bool.not_true,kF,hr,bB]
 cases r with
 | true=>rfl
 | false=>
  rw [kF]
  by_cases h1:6<(w.length:Int)
  · rw [dT h1]; rfl
  rw [dF h1,kF]
  by_cases h2:4<s
  · rw [dT h2]; rfl
  rw [dF h2,kF]
  by_cases h3:4<z
  · rw [dT h3]; rfl
  rw [dF h3,kF]
  have key:cond (decide (10<(cs.length:Int))) (some true) (F.law35_ArtinHoms_j0 10000000000 s w z cs)=some true:=by
   by_cases h4:10<(cs.length:Int)
   · rw [dT h4]; rfl
   · rw [dF h4,kF,homs_j0 (by omega) (by omega) (by omega) (by omega)]
  rw [key]
  by_cases h5:z=4
  ·
   rw [dT h5,kT]
   by_cases h6:3<s
   · rw [dT h6]; rfl
   · rw [dF h6]; rfl
  · rw [dF h5,kF]
end Ho
theorem law35_ArtinHoms_true (x0:Int×List Int) (z1:Int) (x2:List Int) (o0:Ev.Sh.ok (.pr (.int .i64) (.sl (.int .i64))) x0) (o1:Ev.Sh.ok (.int .i64) z1) (o2:Ev.Sh.ok (.sl (.int .i64)) x2): ∃n,F.law35_ArtinHoms n x0.1 x0.2 z1 x2=some true:=
 ⟨10000000000,Ho.law35_ArtinHoms_true' _ _ _ _⟩
