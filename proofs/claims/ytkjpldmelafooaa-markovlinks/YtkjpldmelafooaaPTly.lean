import Derived.Test.YtkjpldmelafooaaPHbraid
set_option linter.all false
namespace Go.Proofs.Ytkjpldmelafooaa
namespace Ht
open Gar
abbrev St:=Nat→Nat
structure Qn where
 m:Nat
 q:Rat
 r:Rat
 qr:q*r=1
variable (K : Qn)
def dc (v:Int) (i j:Nat):Rat:=if 0<v then (if i=j then K.q else if i<j then K.q-K.r else 0) else (if i=j then K.r else if i<j then 0 else K.r-K.q)
def oc (i j:Nat):Rat:=if i=j then 0 else 1
def dg (v:Int) (x:St):Rat:=dc K v (x (v.natAbs-1)) (x v.natAbs)
def od (v:Int) (x:St):Rat:=oc (x (v.natAbs-1)) (x v.natAbs)
def sw (i:Nat) (x:St):St:=fun k=>x (tr i k)
def Op (v:Int) (f:St→Rat):St→Rat:=fun x=>dg K v x*f x+od v x*f (sw v.natAbs x)
def Ow:List Int→(St→Rat)→St→Rat
 | [],f=>f
 | v::w,f=>Op K v (Ow w f)
theorem Ow_app (u w:List Int) (f:St→Rat):Ow K (u++w) f=Ow K u (Ow K w f):=by
 induction u with
 | nil=>rfl
 | cons v u ih=>exact congrArg (Op K v) ih
variable {K}
theorem sw_sw {i:Nat} (hi:1≤i) (x:St):sw i (sw i x)=x:=funext fun k=>by unfold sw; rw [tr_tr hi]
theorem sw_l {i:Nat} (hi:1≤i) (x:St):sw i x (i-1)=x i:=by unfold sw; rw [tr_l hi]
theorem sw_r {i:Nat} (hi:1≤i) (x:St):sw i x i=x (i-1):=by unfold sw; rw [tr_r hi]
theorem sw_o {i k:Nat} (x:St) (h1:k+1≠i) (h2:k≠i):sw i x k=x k:=by unfold sw; rw [tr_o h1 h2]
theorem qfd (i:Nat):(i:Int).natAbs=i:=Int.natAbs_natCast i
theorem nat_abs_neg (i:Nat):(-(i:Int)).natAbs=i:=by rw [Int.natAbs_neg]; rfl
theorem Op_inv {i:Nat} (hi:1≤i) (f:St→Rat):Op K (i:Int) (Op K (-(i:Int)) f)=f∧Op K (-(i:Int)) (Op K (i:Int) f)=f:=by
 have hp:(0:Int)<i:=by omega
 have hn: ¬(0:Int)< -(i:Int):=by omega
 have qr:=K.qr
 constructor<;>funext x<;>unfold Op dg od<;>rw [qfd,nat_abs_neg,sw_l hi,sw_r hi,sw_sw hi]<;>unfold dc oc<;>simp only [if_pos hp,if_neg hn]
 all_goals
  rcases Nat.lt_trichotomy (x (i-1)) (x i) with h | h | h
  ·
   simp only [if_neg (show¬x (i-1)=x i by omega),if_neg (show¬x i=x (i-1) by omega),if_pos h,if_neg (show¬x i<x (i-1) by omega)]
   grind
  ·
   simp only [if_pos h,if_pos h.symm]
   grind
  ·
   simp only [if_neg (show¬x (i-1)=x i by omega),if_neg (show¬x i=x (i-1) by omega),if_pos h,if_neg (show¬x (i-1)<x i by omega)]
   grind
theorem Op_far {i j:Nat} (hi:1≤i) (hj:i+1<j) (f:St→Rat):Op K (i:Int) (Op K (j:Int) f)=Op K (j:Int) (Op K (i:Int) f):=by
 funext x
 have e1:dg K (j:Int) (sw i x)=dg K (j:Int) x:=by unfold dg; rw [qfd,sw_o x (by omega) (by omega),sw_o x (by omega) (by omega)]
 have e2:od (j:Int) (sw i x)=od (j:Int) x:=by unfold od; rw [qfd,sw_o x (by omega) (by omega),sw_o x (by omega) (by omega)]
 have e3:dg K (i:Int) (sw j x)=dg K (i:Int) x:=by unfold dg; rw [qfd,sw_o x (by omega) (by omega),sw_o x (by omega) (by omega)]
 have e4:od (i:Int) (sw j x)=od (i:Int) x:=by unfold od; rw [qfd,sw_o x (by omega) (by omega),sw_o x (by omega) (by omega)]
 have e5:sw i (sw j x)=sw j (sw i x):=funext fun k=>by
  unfold sw
  rw [tr_far (by omega) (by omega) (.inr (by omega))]
 show dg K i x*(dg K j x*f x+od j x*f (sw ((j:Int).natAbs) x))+od i x*(dg K j (sw ((i:Int).natAbs) x)*f (sw ((i:Int).natAbs) x)+od j (sw ((i:Int).natAbs) x)*f (sw ((j:Int).natAbs) (sw ((i:Int).natAbs) x)))=dg K j x*(dg K i x*f x+od i x*f (sw ((i:Int).natAbs) x))+od j x*(dg K i (sw ((j:Int).natAbs) x)*f (sw ((j:Int).natAbs) x)+od i (sw ((j:Int).natAbs) x)*f (sw ((i:Int).natAbs) (sw ((j:Int).natAbs) x)))
 rw [qfd,qfd,e1,e2,e3,e4,e5]
 generalize f (sw j (sw i x))=t1
 generalize f (sw j x)=t2
 generalize f (sw i x)=t3
 generalize f x=t4
 grind
/-! Three neighbours. -/
def cA (K:Qn) (g:Nat→Nat→Nat→Rat) (a b c:Nat):Rat:=dc K 1 a b*g a b c+oc a b*g b a c
def cB (K:Qn) (g:Nat→Nat→Nat→Rat) (a b c:Nat):Rat:=dc K 1 b c*g a b c+oc b c*g a c b
theorem c_braid (g:Nat→Nat→Nat→Rat) (a b c:Nat):cA K (cB K (cA K g)) a b c=cB K (cA K (cB K g)) a b c:=by
 have qr:=K.qr
 have d1: ∀i:Nat,dc K 1 i i=K.q:=fun i=>by unfold dc; rw [if_pos (by decide),if_pos rfl]
 have d2: ∀i j:Nat,i<j→dc K 1 i j=K.q-K.r:=fun i j h=>by unfold dc; rw [if_pos (by decide),if_neg (by omega),if_pos h]
 have d3: ∀i j:Nat,j<i→dc K 1 i j=0:=fun i j h=>by unfold dc; rw [if_pos (by decide),if_neg (by omega),if_neg (by omega)]
 have o1: ∀i:Nat,oc i i=0:=fun i=>if_pos rfl
 have o2: ∀i j:Nat,i≠j→oc i j=1:=fun i j h=>if_neg h
 simp only [cA,cB]
 rcases Nat.lt_trichotomy a b with h1 | h1 | h1<;>rcases Nat.lt_trichotomy b c with h2 | h2 | h2<;>rcases Nat.lt_trichotomy a c with h3 | h3 | h3
 all_goals first
  | (exfalso; omega)
  | skip
 · simp only [d2 _ _ h1,d3 _ _ h1,d2 _ _ h2,d3 _ _ h2,d2 _ _ h3,d3 _ _ h3,o2 _ _ (Nat.ne_of_lt h1),o2 _ _ (Nat.ne_of_gt h1),o2 _ _ (Nat.ne_of_lt h2),o2 _ _ (Nat.ne_of_gt h2),o2 _ _ (Nat.ne_of_lt h3),o2 _ _ (Nat.ne_of_gt h3)]; grind
 · subst h2; simp only [d1,o1,d2 _ _ h1,d3 _ _ h1,o2 _ _ (Nat.ne_of_lt h1),o2 _ _ (Nat.ne_of_gt h1)]; grind
 · simp only [d2 _ _ h1,d3 _ _ h1,d2 _ _ h2,d3 _ _ h2,d2 _ _ h3,d3 _ _ h3,o2 _ _ (Nat.ne_of_lt h1),o2 _ _ (Nat.ne_of_gt h1),o2 _ _ (Nat.ne_of_lt h2),o2 _ _ (Nat.ne_of_gt h2),o2 _ _ (Nat.ne_of_lt h3),o2 _ _ (Nat.ne_of_gt h3)]; grind
 · subst h3; simp only [d1,o1,d2 _ _ h1,d3 _ _ h1,o2 _ _ (Nat.ne_of_lt h1),o2 _ _ (Nat.ne_of_gt h1)]; grind
 · simp only [d2 _ _ h1,d3 _ _ h1,d2 _ _ h2,d3 _ _ h2,d2 _ _ h3,d3 _ _ h3,o2 _ _ (Nat.ne_of_lt h1),o2 _ _ (Nat.ne_of_gt h1),o2 _ _ (Nat.ne_of_lt h2),o2 _ _ (Nat.ne_of_gt h2),o2 _ _ (Nat.ne_of_lt h3),o2 _ _ (Nat.ne_of_gt h3)]; grind
 · subst h1; simp only [d1,o1,d2 _ _ h2,d3 _ _ h2,o2 _ _ (Nat.ne_of_lt h2),o2 _ _ (Nat.ne_of_gt h2)]; grind
 · subst h1; subst h2; simp only [d1,o1]
 · subst h1; simp only [d1,o1,d2 _ _ h2,d3 _ _ h2,o2 _ _ (Nat.ne_of_lt h2),o2 _ _ (Nat.ne_of_gt h2)]; grind
 · simp only [d2 _ _ h1,d3 _ _ h1,d2 _ _ h2,d3 _ _ h2,d2 _ _ h3,d3 _ _ h3,o2 _ _ (Nat.ne_of_lt h1),o2 _ _ (Nat.ne_of_gt h1),o2 _ _ (Nat.ne_of_lt h2),o2 _ _ (Nat.ne_of_gt h2),o2 _ _ (Nat.ne_of_lt h3),o2 _ _ (Nat.ne_of_gt h3)]; grind
 · subst h3; simp only [d1,o1,d2 _ _ h1,d3 _ _ h1,o2 _ _ (Nat.ne_of_lt h1),o2 _ _ (Nat.ne_of_gt h1)]; grind
 · simp only [d2 _ _ h1,d3 _ _ h1,d2 _ _ h2,d3 _ _ h2,d2 _ _ h3,d3 _ _ h3,o2 _ _ (Nat.ne_of_lt h1),o2 _ _ (Nat.ne_of_gt h1),o2 _ _ (Nat.ne_of_lt h2),o2 _ _ (Nat.ne_of_gt h2),o2 _ _ (Nat.ne_of_lt h3),o2 _ _ (Nat.ne_of_gt h3)]; grind
 · subst h2; simp only [d1,o1,d2 _ _ h1,d3 _ _ h1,o2 _ _ (Nat.ne_of_lt h1),o2 _ _ (Nat.ne_of_gt h1)]; grind
 · simp only [d2 _ _ h1,d3 _ _ h1,d2 _ _ h2,d3 _ _ h2,d2 _ _ h3,d3 _ _ h3,o2 _ _ (Nat.ne_of_lt h1),o2 _ _ (Nat.ne_of_gt h1),o2 _ _ (Nat.ne_of_lt h2),o2 _ _ (Nat.ne_of_gt h2),o2 _ _ (Nat.ne_of_lt h3),o2 _ _ (Nat.ne_of_gt h3)]; grind
def st3 (i:Nat) (x:St) (a b c:Nat):St:=fun k=>if k+1=i then a else if k=i then b else if k=i+1 then c else x k
theorem st3_self {i:Nat} (hi:1≤i) (x:St):st3 i x (x (i-1)) (x i) (x (i+1))=x:=funext fun k=>by
 unfold st3
 split
 · rename_i h; congr 1; omega
 ·
  split
  · rename_i h; rw [h]
  ·
   split
   · rename_i h; rw [h]
   · rfl
theorem st3_A {i:Nat} (hi:1≤i) (x:St) (f:St→Rat) (a b c:Nat):Op K (i:Int) f (st3 i x a b c)=cA K (fun a b c=>f (st3 i x a b c)) a b c:=by
 have e1:st3 i x a b c (i-1)=a:=if_pos (by omega)
 have e2:st3 i x a b c i=b:=by unfold st3; rw [if_neg (by omega),if_pos rfl]
 have e3:sw i (st3 i x a b c)=st3 i x b a c:=funext fun k=>by
  by_cases h1:k+1=i
  ·
   have:k=i-1:=by omega
   rw [this,sw_l hi,e2]; unfold st3; rw [if_pos (by omega)]
  ·
   by_cases h2:k=i
   · rw [h2,sw_r hi,e1]; unfold st3; rw [if_neg (by omega),if_pos rfl]
   · rw [sw_o _ h1 h2]; unfold st3; rw [if_neg h1,if_neg h2,if_neg h1,if_neg h2]
 have hd: ∀i j,dc K ((1:Nat):Int) i j=dc K 1 i j:=fun _ _=>rfl
 show dg K i _*_+od i _*_=_
 unfold dg od cA
 rw [qfd,e1,e2,e3]
 have:dc K (i:Int) a b=dc K 1 a b:=by unfold dc; rw [if_pos (show (0:Int)<i by omega),if_pos (show (0:Int)<1 by decide)]
 rw [this]
theorem st3_B {i:Nat} (hi:1≤i) (x:St) (f:St→Rat) (a b c:Nat):Op K ((i+1:Nat):Int) f (st3 i x a b c)=cB K (fun a b c=>f (st3 i x a b c)) a b c:=by
 have e1:st3 i x a b c i=b:=by unfold st3; rw [if_neg (by omega),if_pos rfl]
 have e2:st3 i x a b c (i+1)=c:=by unfold st3; rw [if_neg (by omega),if_neg (by omega),if_pos rfl]
 have e3:sw (i+1) (st3 i x a b c)=st3 i x a c b:=funext fun k=>by
  by_cases h1:k+1=i+1
  ·
   have:k=i:=by omega
   rw [this]
   have:=sw_l (i:=i+1) (by omega) (st3 i x a b c)
   rw [Nat.add_sub_cancel] at this
   rw [this,e2]; unfold st3; rw [if_neg (by omega),if_pos rfl]
  ·
   by_cases h2:k=i+1
   ·
    have:=sw_r (i:=i+1) (by omega) (st3 i x a b c)
    rw [Nat.add_sub_cancel] at this
    rw [h2,this,e1]; unfold st3; rw [if_neg (by omega),if_neg (by omega),if_pos rfl]
   · rw [sw_o _ h1 h2]; unfold st3; rw [if_neg (show¬k=i by omega),if_neg h2,if_neg (show¬k=i by omega),if_neg h2]
 show dg K ((i+1:Nat):Int) _*_+od ((i+1:Nat):Int) _*_=_
 unfold dg od cB
 rw [qfd,Nat.add_sub_cancel,e1,e2,e3]
 have:dc K ((i+1:Nat):Int) b c=dc K 1 b c:=by unfold dc; rw [if_pos (show (0:Int)<((i+1:Nat):Int) by omega),if_pos (show (0:Int)<1 by decide)]
 rw [this]
theorem Op_braid {i:Nat} (hi:1≤i) (f:St→Rat):Op K (i:Int) (Op K ((i+1:Nat):Int) (Op K (i:Int) f))=Op K ((i+1:Nat):Int) (Op K (i:Int) (Op K ((i+1:Nat):Int) f)):=by
 funext x
 have fA: ∀f:St→Rat,(fun a b c=>Op K (i:Int) f (st3 i x a b c))=cA K (fun a b c=>f (st3 i x a b c)):=fun f=>by
  funext a b c; exact st3_A hi x f a b c
 have fB: ∀f:St→Rat,(fun a b c=>Op K ((i+1:Nat):Int) f (st3 i x a b c))=cB K (fun a b c=>f (st3 i x a b c)):=fun f=>by
  funext a b c; exact st3_B hi x f a b c
 rw [←st3_self hi x,st3_A hi,fB,fA,st3_B hi,fA,fB]
 exact c_braid _ _ _ _
theorem BE.ow {N:Nat} {u v:List Int} (h:BE N u v) (f:St→Rat):Ow K u f=Ow K v f:=by
 induction h generalizing f with
 | refl w=>rfl
 | symm _ ih=>exact (ih f).symm
 | trans _ _ h1 h2=>exact (h1 f).trans (h2 f)
 | @far a b i j h1 h2 h3 h4 h5=>
  rw [Ow_app,Ow_app]
  congr 1
  exact Op_far h1 h5 _
 | @braid a b i h1 h2=>
  rw [Ow_app,Ow_app]
  congr 1
  exact Op_braid h1 _
 | @pn a b i h1 h2=>
  rw [Ow_app,Ow_app]
  congr 1
  exact (Op_inv h1 _).1
 | @np a b i h1 h2=>
  rw [Ow_app,Ow_app]
  congr 1
  exact (Op_inv h1 _).2
theorem Op_skein {i:Nat} (hi:1≤i) (f:St→Rat) (x:St):Op K (i:Int) f x=Op K (-(i:Int)) f x+(K.q-K.r)*f x:=by
 have hp:(0:Int)<i:=by omega
 have hn: ¬(0:Int)< -(i:Int):=by omega
 unfold Op dg od
 rw [qfd,nat_abs_neg]
 unfold dc
 rw [if_pos hp,if_neg hn]
 generalize f (sw i x)=t
 generalize f x=u
 generalize oc (x (i-1)) (x i)=o
 split
 · grind
 · split<;>grind
end Ht
end Go.Proofs.Ytkjpldmelafooaa

set_option linter.all false
namespace Go.Proofs.Ytkjpldmelafooaa
namespace Ht
open Gar
/-! Sums. -/
def sm:Nat→(Nat→Rat)→Rat
 | 0,_=>0
 | n+1,F=>sm n F+F n
theorem qhf {n:Nat} {F G:Nat→Rat} (h: ∀c,c<n→F c=G c):sm n F=sm n G:=by
 induction n with
 | zero=>rfl
 | succ n ih=>show sm n F+F n=sm n G+G n; rw [ih fun c hc=>h c (by omega),h n (by omega)]
theorem sm_zero (n:Nat):sm n (fun _=>0)=0:=by
 induction n with
 | zero=>rfl
 | succ n ih=>show sm n _+0=0; rw [ih]; grind
theorem sm_add (n:Nat) (F G:Nat→Rat):sm n (fun c=>F c+G c)=sm n F+sm n G:=by
 induction n with
 | zero=>show (0:Rat)=0+0; grind
 | succ n ih=>show sm n _+(F n+G n)=(sm n F+F n)+(sm n G+G n); rw [ih]; grind
theorem sm_mul (n:Nat) (a:Rat) (F:Nat→Rat):sm n (fun c=>a*F c)=a*sm n F:=by
 induction n with
 | zero=>show (0:Rat)=a*0; grind
 | succ n ih=>show sm n _+a*F n=a*(sm n F+F n); rw [ih]; grind
theorem sm_comm (n m:Nat) (F:Nat→Nat→Rat):sm n (fun a=>sm m (fun b=>F a b))=sm m (fun b=>sm n (fun a=>F a b)):=by
 induction n with
 | zero=>exact (sm_zero m).symm
 | succ n ih=>show sm n _+sm m _=sm m (fun b=>sm n (fun a=>F a b)+F n b); rw [ih,sm_add]
def upd (x:St) (s c:Nat):St:=fun k=>if k=s then c else x k
theorem qca (x:St) (s c:Nat):upd x s c s=c:=if_pos rfl
theorem upd_ne (x:St) {s k:Nat} (c:Nat) (h:k≠s):upd x s c k=x k:=if_neg h
theorem upd_comm (x:St) {s t:Nat} (h:s≠t) (c d:Nat):upd (upd x s c) t d=upd (upd x t d) s c:=funext fun k=>by
 unfold upd
 by_cases h1:k=t
 · rw [if_pos h1,if_neg (by omega),if_pos h1]
 ·
  rw [if_neg h1]
  by_cases h2:k=s
  · rw [if_pos h2,if_pos h2]
  · rw [if_neg h2,if_neg h2,if_neg h1]
def sS (N:Nat):Nat→(St→Rat)→St→Rat
 | 0,F,x=>F x
 | s+1,F,x=>sm N fun c=>sS N s F (upd x s c)
theorem sS_congr {N:Nat}: ∀{s:Nat} {F G:St→Rat} {x0:St},(∀x:St,(∀k,k<s→x k<N)→(∀k,s≤k→x k=x0 k)→F x=G x)→sS N s F x0=sS N s G x0
 | 0,F,G,x0,h=>h x0 (fun k hk=>by omega) fun k _=>rfl
 | s+1,F,G,x0,h=>qhf fun c hc=>sS_congr fun x hx hy=>h x (fun k hk=>by
   by_cases e:k=s
   · rw [e,hy s (Nat.le_refl s),qca]; exact hc
   · exact hx k (by omega)) fun k hk=>by rw [hy k (by omega),upd_ne _ _ (by omega)]
theorem sS_add (N:Nat): ∀(s:Nat) (F G:St→Rat) (x0:St),sS N s (fun x=>F x+G x) x0=sS N s F x0+sS N s G x0
 | 0,_,_,_=>rfl
 | s+1,F,G,x0=>by
  show sm N _=sm N _+sm N _
  rw [←sm_add]
  exact qhf fun c _=>sS_add N s F G _
theorem sS_mul (N:Nat) (a:Rat): ∀(s:Nat) (F:St→Rat) (x0:St),sS N s (fun x=>a*F x) x0=a*sS N s F x0
 | 0,_,_=>rfl
 | s+1,F,x0=>by
  show sm N _=a*sm N _
  rw [←sm_mul]
  exact qhf fun c _=>sS_mul N a s F _
theorem sS_sm (N n:Nat): ∀(s:Nat) (F:Nat→St→Rat) (x0:St),sS N s (fun x=>sm n fun c=>F c x) x0=sm n fun c=>sS N s (F c) x0
 | 0,_,_=>rfl
 | s+1,F,x0=>by
  show (sm N fun c=>sS N s _ _)=sm n fun d=>sm N fun c=>sS N s _ _
  rw [sm_comm n N]
  exact qhf fun c _=>sS_sm N n s F _
theorem sS_upd (N:Nat) {t:Nat} (d:Nat): ∀(s:Nat) (F:St→Rat) (x0:St),s≤t→sS N s F (upd x0 t d)=sS N s (fun x=>F (upd x t d)) x0
 | 0,_,_,_=>rfl
 | s+1,F,x0,h=>qhf fun c _=>by
  rw [upd_comm x0 (show t≠s by omega)]
  exact sS_upd N d s F _ (by omega)
theorem sw_upd {i j:Nat} (x:St) (c:Nat) (h1:j+1≠i) (h2:j≠i):sw i (upd x j c)=upd (sw i x) j c:=funext fun k=>by
 unfold sw upd
 by_cases e:k=j
 · rw [if_pos e,e,tr_o h1 h2,if_pos rfl]
 ·
  have:tr i k≠j:=fun q=>by
   unfold tr at q
   split at q
   · omega
   · split at q<;>omega
  rw [if_neg e,if_neg this]
theorem sS_low (N:Nat) {i:Nat}: ∀(j:Nat) (F:St→Rat) (x:St),j<i→sS N j (fun y=>F (sw i y)) x=sS N j F (sw i x)
 | 0,_,_,_=>rfl
 | j+1,F,x,h=>qhf fun c _=>by
  rw [←sw_upd x c (by omega) (by omega)]
  exact sS_low N j F _ (by omega)
theorem sw_two {i:Nat} (hi:1≤i) (x:St) (c d:Nat):sw i (upd (upd x i c) (i-1) d)=upd (upd x i d) (i-1) c:=funext fun k=>by
 by_cases h1:k+1=i
 ·
  have:k=i-1:=by omega
  rw [this,sw_l hi,qca,upd_ne _ _ (by omega),qca]
 ·
  by_cases h2:k=i
  · rw [h2,sw_r hi,qca,upd_ne _ _ (by omega),qca]
  · rw [sw_o _ h1 h2,upd_ne _ _ (by omega),upd_ne _ _ h2,upd_ne _ _ (by omega),upd_ne _ _ h2]
theorem sS_sw (N:Nat) {i:Nat} (hi:1≤i): ∀(s:Nat) (F:St→Rat) (x:St),i<s→sS N s (fun y=>F (sw i y)) x=sS N s F x
 | 0,_,_,h=>by omega
 | s+1,F,x,h=>by
  by_cases e:i<s
  · exact qhf fun c _=>sS_sw N hi s F _ e
  ·
   obtain ⟨j,rfl⟩: ∃j,i=j+1:=⟨i-1,by omega⟩
   obtain rfl:s=j+1:=by omega
   show (sm N fun c=>sm N fun d=>sS N j _ _)=sm N fun c=>sm N fun d=>sS N j _ _
   rw [sm_comm N N (fun c d=>sS N j F (upd (upd x (j+1) c) j d))]
   refine qhf fun c _=>qhf fun d _=>?_
   rw [sS_low N j F _ (by omega)]
   have:=sw_two (i:=j+1) (by omega) x c d
   rw [Nat.add_sub_cancel] at this
   rw [this]
/-! Operators are linear. -/
variable {K : Qn}
theorem Ow_lin (a b:Rat): ∀(w:List Int) (f g:St→Rat) (x:St),Ow K w (fun y=>a*f y+b*g y) x=a*Ow K w f x+b*Ow K w g x
 | [],_,_,_=>rfl
 | v::w,f,g,x=>by
  show dg K v x*Ow K w _ x+od v x*Ow K w _ _=a*(dg K v x*Ow K w f x+od v x*Ow K w f _)+b*(dg K v x*Ow K w g x+od v x*Ow K w g _)
  rw [Ow_lin a b w f g,Ow_lin a b w f g]
  grind
theorem Ow_mul (a:Rat) (w:List Int) (f:St→Rat) (x:St):Ow K w (fun y=>a*f y) x=a*Ow K w f x:=by
 have:=Ow_lin (K:=K) a 0 w f f x
 have e:(fun y=>a*f y+0*f y)=fun y=>a*f y:=funext fun y=>by grind
 rw [e] at this
 rw [this]; grind
theorem Ow_zero (w:List Int) (x:St):Ow K w (fun _=>0) x=0:=by
 have:=Ow_mul (K:=K) 0 w (fun _=>0) x
 have e:(fun y:St=>(0:Rat)*0)=fun _=>0:=funext fun y=>by grind
 rw [e] at this
 rw [this]; grind
/-! The weight of a state. -/
def hs (K:Qn):Nat→St→Rat
 | 0,_=>1
 | s+1,x=>hs K s x*(K.q*K.q) ^ (x s)
theorem hs_congr {x y:St}: ∀{s:Nat},(∀k,k<s→x k=y k)→hs K s x=hs K s y
 | 0,_=>rfl
 | s+1,h=>by show hs K s x*_=hs K s y*_; rw [hs_congr fun k hk=>h k (by omega),h s (by omega)]
theorem hs_sw {i:Nat} (hi:1≤i) (x:St): ∀{s:Nat},i<s→hs K s (sw i x)=hs K s x
 | 0,h=>by omega
 | s+1,h=>by
  by_cases e:i<s
  ·
   show hs K s (sw i x)*_=hs K s x*_
   rw [hs_sw hi x e,sw_o x (by omega) (by omega)]
  ·
   obtain ⟨j,rfl⟩: ∃j,i=j+1:=⟨i-1,by omega⟩
   obtain rfl:s=j+1:=by omega
   show hs K j (sw (j+1) x)*(K.q*K.q) ^ (sw (j+1) x j)*(K.q*K.q) ^ (sw (j+1) x (j+1))=hs K j x*(K.q*K.q) ^ (x j)*(K.q*K.q) ^ (x (j+1))
   have e1:sw (j+1) x j=x (j+1):=sw_l (i:=j+1) (by omega) x
   have e2:sw (j+1) x (j+1)=x j:=sw_r (i:=j+1) (by omega) x
   rw [e1,e2,hs_congr (x:=sw (j+1) x) (y:=x) fun k hk=>sw_o x (by omega) (by omega)]
   generalize (K.q*K.q) ^ (x j)=t1
   generalize (K.q*K.q) ^ (x (j+1))=t2
   generalize hs K j x=t3
   grind
open Classical in
noncomputable def dl (s:Nat) (x y:St):Rat:=if∀k,k<s→y k=x k then 1 else 0
noncomputable def tc (K:Qn) (s:Nat) (w:List Int):Rat:=sS (K.m+1) s (fun x=>hs K s x*Ow K w (dl s x) x) fun _=>0
theorem BE.tc {s:Nat} {u v:List Int} (h:BE s u v):Ht.tc K s u=Ht.tc K s v:=by
 unfold Ht.tc
 congr 1
 funext x
 rw [BE.ow h]
theorem dl_sw {s i:Nat} (hi:1≤i) (h:i<s) (x y:St):dl s x (sw i y)=dl s (sw i x) y:=by
 have key: ∀k,k<s→tr i k<s:=fun k hk=>by unfold tr; split; omega; split<;>omega
 unfold dl
 have:(∀k,k<s→sw i y k=x k)↔∀k,k<s→y k=sw i x k:=by
  constructor
  ·
   intro q k hk
   have:=q (tr i k) (key k hk)
   unfold sw at this⊢
   rwa [tr_tr hi] at this
  ·
   intro q k hk
   have:=q (tr i k) (key k hk)
   unfold sw at this⊢
   rwa [tr_tr hi] at this
 by_cases e: ∀k,k<s→sw i y k=x k
 · rw [if_pos e,if_pos (this.1 e)]
 · rw [if_neg e,if_neg fun q=>e (this.2 q)]
theorem Op_dl {s:Nat} {v:Int} (hv:v≠0) (h:v.natAbs<s) (x:St):Op K v (dl s x)=fun y=>dg K v x*dl s x y+od v x*dl s (sw v.natAbs x) y:=by
 funext y
 have hi:1≤v.natAbs:=by omega
 show dg K v y*dl s x y+od v y*dl s x (sw v.natAbs y)=_
 rw [dl_sw hi h]
 have e1:dg K v y*dl s x y=dg K v x*dl s x y:=by
  unfold dl
  by_cases e: ∀k,k<s→y k=x k
  · unfold dg; rw [e _ h,e (v.natAbs-1) (by omega)]
  · rw [if_neg e]; grind
 have e2:od v y*dl s (sw v.natAbs x) y=od v x*dl s (sw v.natAbs x) y:=by
  unfold dl
  by_cases e: ∀k,k<s→y k=sw v.natAbs x k
  ·
   have:od v y=od v x:=by
    unfold od oc
    rw [e _ h,e (v.natAbs-1) (by omega),sw_l hi,sw_r hi]
    by_cases q:x v.natAbs=x (v.natAbs-1)
    · rw [if_pos q,if_pos q.symm]
    · rw [if_neg q,if_neg fun q'=>q q'.symm]
   rw [this]
  · rw [if_neg e]; grind
 rw [e1,e2]
theorem tc_one {s:Nat} {v:Int} (hv:v≠0) (h:v.natAbs<s) (w:List Int):tc K s (v::w)=tc K s (w++[v]):=by
 have hi:1≤v.natAbs:=by omega
 have eo: ∀x:St,od v (sw v.natAbs x)=od v x:=fun x=>by
  unfold od oc
  rw [sw_l hi,sw_r hi]
  by_cases q:x v.natAbs=x (v.natAbs-1)
  · rw [if_pos q,if_pos q.symm]
  · rw [if_neg q,if_neg fun q'=>q q'.symm]
 unfold tc
 have e1:(fun x=>hs K s x*Ow K (v::w) (dl s x) x)=fun x=>hs K s x*(dg K v x*Ow K w (dl s x) x)+(fun x=>hs K s x*(od v x*Ow K w (dl s (sw v.natAbs x)) x)) (sw v.natAbs x):=by
  funext x
  show hs K s x*(dg K v x*Ow K w (dl s x) x+od v x*Ow K w (dl s x) (sw v.natAbs x))=_+hs K s (sw v.natAbs x)*(od v (sw v.natAbs x)*Ow K w (dl s (sw v.natAbs (sw v.natAbs x))) (sw v.natAbs x))
  rw [hs_sw hi x h,eo,sw_sw hi]
  grind
 have e2:(fun x=>hs K s x*Ow K (w++[v]) (dl s x) x)=fun x=>hs K s x*(dg K v x*Ow K w (dl s x) x)+(fun x=>hs K s x*(od v x*Ow K w (dl s (sw v.natAbs x)) x)) x:=by
  funext x
  rw [Ow_app]
  show hs K s x*Ow K w (Op K v (dl s x)) x=_
  rw [Op_dl hv h,Ow_lin]
  grind
 rw [e1,e2,sS_add,sS_add,sS_sw _ hi s (fun x=>hs K s x*(od v x*Ow K w (dl s (sw v.natAbs x)) x)) _ h]
theorem tc_rot {s:Nat} {w:List Int}: ∀{u:List Int},(∀v∈u,v≠0∧v.natAbs<s)→tc K s (u++w)=tc K s (w++u)
 | [],_=>by rw [List.append_nil]; rfl
 | v::u,h=>by
  have h1:=h v List.mem_cons_self
  show tc K s (v::(u++w))=_
  rw [tc_one h1.1 h1.2,List.append_assoc,tc_rot fun x hx=>h x (List.mem_cons_of_mem _ hx)]
  rw [List.append_assoc]; rfl
end Ht
end Go.Proofs.Ytkjpldmelafooaa

set_option linter.all false
namespace Go.Proofs.Ytkjpldmelafooaa
namespace Ht
open Gar
variable {K : Qn}
theorem Ow_top {s c:Nat}: ∀{w:List Int},(∀v∈w,v≠0∧v.natAbs<s)→∀(f:St→Rat) (y:St),Ow K w f (upd y s c)=Ow K w (fun y=>f (upd y s c)) y
 | [],_,_,_=>rfl
 | v::w,hw,f,y=>by
  obtain ⟨h1,h2⟩:=hw v List.mem_cons_self
  have ih:=Ow_top (c:=c) (fun x hx=>hw x (List.mem_cons_of_mem v hx)) f
  have e1:upd y s c (v.natAbs-1)=y (v.natAbs-1):=upd_ne _ _ (by omega)
  have e2:upd y s c v.natAbs=y v.natAbs:=upd_ne _ _ (by omega)
  show dg K v (upd y s c)*Ow K w f (upd y s c)+od v (upd y s c)*Ow K w f (sw v.natAbs (upd y s c))=dg K v y*Ow K w _ y+od v y*Ow K w _ (sw v.natAbs y)
  rw [sw_upd y c (by omega) (by omega),ih,ih]
  unfold dg od
  rw [e1,e2]
theorem dl_upd (s c d:Nat) (x y:St):dl (s+1) (upd x s c) (upd y s d)=if d=c then dl s x y else 0:=by
 have:(∀k,k<s+1→upd y s d k=upd x s c k)↔d=c∧∀k,k<s→y k=x k:=by
  constructor
  ·
   intro h
   refine ⟨?_,fun k hk=>?_⟩
   · have:=h s (by omega); rwa [qca,qca] at this
   · have:=h k (by omega); rwa [upd_ne _ _ (by omega),upd_ne _ _ (by omega)] at this
  ·
   rintro ⟨h1,h2⟩ k hk
   by_cases e:k=s
   · rw [e,qca,qca]; exact h1
   · rw [upd_ne _ _ e,upd_ne _ _ e]; exact h2 k (by omega)
 unfold dl
 by_cases e:d=c
 ·
  rw [if_pos e]
  by_cases e2: ∀k,k<s→y k=x k
  · rw [if_pos e2,if_pos (this.2 ⟨e,e2⟩)]
  · rw [if_neg e2,if_neg fun q=>e2 (this.1 q).2]
 · rw [if_neg e,if_neg fun q=>e (this.1 q).1]
theorem sS_last (N s:Nat) (F:St→Rat) (x0:St):sS N (s+1) F x0=sS N s (fun x=>sm N fun c=>F (upd x s c)) x0:=by
 rw [sS_sm N N s (fun c x=>F (upd x s c))]
 exact qhf fun c _=>sS_upd N c s F x0 (Nat.le_refl s)
theorem hs_upd (s c:Nat) (x:St):hs K (s+1) (upd x s c)=hs K s x*(K.q*K.q) ^ c:=by
 show hs K s (upd x s c)*(K.q*K.q) ^ (upd x s c s)=_
 rw [qca,hs_congr (y:=x) fun k hk=>upd_ne _ _ (by omega)]
def Gs (K:Qn):Rat:=sm (K.m+1) fun c=>(K.q*K.q) ^ c
theorem tc_more {s:Nat} {w:List Int} (hw: ∀v∈w,v≠0∧v.natAbs<s):tc K (s+1) w=Gs K*tc K s w:=by
 unfold tc
 rw [sS_last,←sS_mul]
 congr 1
 funext x
 have: ∀c,hs K (s+1) (upd x s c)*Ow K w (dl (s+1) (upd x s c)) (upd x s c)=(hs K s x*Ow K w (dl s x) x)*(K.q*K.q) ^ c:=fun c=>by
  have e:(fun y=>dl (s+1) (upd x s c) (upd y s c))=dl s x:=funext fun y=>by rw [dl_upd,if_pos rfl]
  rw [hs_upd,Ow_top hw,e]
  generalize (K.q*K.q) ^ c=t
  grind
 rw [show (fun c=>hs K (s+1) (upd x s c)*Ow K w (dl (s+1) (upd x s c)) (upd x s c))=fun c=>(hs K s x*Ow K w (dl s x) x)*(K.q*K.q) ^ c from funext this,sm_mul]
 show _*Gs K=_
 generalize Gs K=t
 grind
def Mt (K:Qn) (t:Int):Rat:=if 0<t then K.q*(K.q*K.q) ^ K.m else K.r
theorem psum_pos (b:Nat): ∀n,sm n (fun c=>(K.q*K.q) ^ c*dc K 1 b c)=if n≤b then 0 else K.q*(K.q*K.q) ^ (n-1)
 | 0=>by rw [if_pos (Nat.zero_le _)]; rfl
 | n+1=>by
  have qr:=K.qr
  have h1:(0:Int)<1:=by decide
  show sm n _+(K.q*K.q) ^ n*dc K 1 b n=_
  rw [psum_pos b n]
  unfold dc
  rw [if_pos h1]
  rcases Nat.lt_trichotomy b n with h | h | h
  ·
   obtain ⟨k,rfl⟩: ∃k,n=k+1:=⟨n-1,by omega⟩
   rw [if_neg (by omega),if_neg (by omega),if_pos h,if_neg (by omega),Nat.add_sub_cancel,Nat.add_sub_cancel,Rat.pow_succ]
   generalize (K.q*K.q) ^ k=t
   grind
  ·
   subst h
   rw [if_pos (Nat.le_refl b),if_pos rfl,if_neg (by omega),Nat.add_sub_cancel]
   generalize (K.q*K.q) ^ b=t
   grind
  · rw [if_pos (by omega),if_neg (by omega),if_neg (by omega),if_pos (by omega)]; grind
theorem psum_neg (b:Nat): ∀n,sm n (fun c=>(K.q*K.q) ^ c*dc K (-1) b c)=if n≤b then K.r-K.r*(K.q*K.q) ^ n else K.r
 | 0=>by rw [if_pos (Nat.zero_le _)]; show (0:Rat)=_; rw [Rat.pow_zero]; grind
 | n+1=>by
  have qr:=K.qr
  have h1: ¬(0:Int)< -1:=by decide
  show sm n _+(K.q*K.q) ^ n*dc K (-1) b n=_
  rw [psum_neg b n]
  unfold dc
  rw [if_neg h1]
  rcases Nat.lt_trichotomy b n with h | h | h
  · rw [if_neg (by omega),if_neg (by omega),if_pos h,if_neg (by omega)]; grind
  ·
   subst h
   rw [if_pos (Nat.le_refl b),if_pos rfl,if_neg (by omega)]
   generalize (K.q*K.q) ^ b=t
   grind
  ·
   rw [if_pos (by omega),if_neg (by omega),if_neg (by omega),if_pos (by omega),Rat.pow_succ]
   generalize (K.q*K.q) ^ n=t
   grind
theorem psum {t:Int} (ht:t≠0) {b:Nat} (hb:b<K.m+1):sm (K.m+1) (fun c=>(K.q*K.q) ^ c*dc K t b c)=Mt K t:=by
 unfold Mt
 by_cases h:0<t
 ·
  have e: ∀i j,dc K t i j=dc K 1 i j:=fun i j=>by unfold dc; rw [if_pos h,if_pos (show (0:Int)<1 by decide)]
  rw [if_pos h,show (fun c=>(K.q*K.q) ^ c*dc K t b c)=fun c=>(K.q*K.q) ^ c*dc K 1 b c from funext fun c=>by rw [e],psum_pos,if_neg (by omega),Nat.add_sub_cancel]
 ·
  have e: ∀i j,dc K t i j=dc K (-1) i j:=fun i j=>by unfold dc; rw [if_neg h,if_neg (show¬(0:Int)< -1 by decide)]
  rw [if_neg h,show (fun c=>(K.q*K.q) ^ c*dc K t b c)=fun c=>(K.q*K.q) ^ c*dc K (-1) b c from funext fun c=>by rw [e],psum_neg,if_neg (by omega)]
theorem tc_edge {s:Nat} (hs1:1≤s) {w:List Int} (hw: ∀v∈w,v≠0∧v.natAbs<s) {t:Int} (ht:t.natAbs=s):tc K (s+1) (w++[t])=Mt K t*tc K s w:=by
 have ht0:t≠0:=by omega
 unfold tc
 rw [sS_last,←sS_mul]
 refine sS_congr fun x hx _=>?_
 have key: ∀c,hs K (s+1) (upd x s c)*Ow K (w++[t]) (dl (s+1) (upd x s c)) (upd x s c)=(hs K s x*Ow K w (dl s x) x)*((K.q*K.q) ^ c*dc K t (x (s-1)) c):=fun c=>by
  have e1:(fun y=>dl (s+1) (upd x s c) (upd y s c))=dl s x:=funext fun y=>by rw [dl_upd,if_pos rfl]
  have e2:dg K t (upd x s c)=dc K t (x (s-1)) c:=by unfold dg; rw [ht,qca,upd_ne _ _ (by omega)]
  have e3:od t (upd x s c)=oc (x (s-1)) c:=by unfold od; rw [ht,qca,upd_ne _ _ (by omega)]
  have e4:sw s (upd x s c)=upd (upd x (s-1) c) s (x (s-1)):=funext fun k=>by
   by_cases h1:k+1=s
   ·
    have:k=s-1:=by omega
    rw [this,sw_l hs1,qca,upd_ne _ _ (by omega),qca]
   ·
    by_cases h2:k=s
    · rw [h2,sw_r hs1,qca,upd_ne _ _ (by omega)]
    · rw [sw_o _ h1 h2,upd_ne _ _ h2,upd_ne _ _ h2,upd_ne _ _ (by omega)]
  have e5:od t (upd x s c)*Ow K w (dl (s+1) (sw s (upd x s c))) (upd x s c)=0:=by
   rw [e3,e4,Ow_top hw]
   by_cases q:x (s-1)=c
   · unfold oc; rw [if_pos q]; grind
   ·
    have:(fun y=>dl (s+1) (upd (upd x (s-1) c) s (x (s-1))) (upd y s c))=fun _=>0:=funext fun y=>by rw [dl_upd,if_neg fun q'=>q q'.symm]
    rw [this,Ow_zero]; grind
  rw [Ow_app]
  show _*Ow K w (Op K t (dl (s+1) (upd x s c))) _=_
  rw [Op_dl ht0 (by omega),Ow_lin,ht,e5,e2,hs_upd,Ow_top hw,e1]
  generalize (K.q*K.q) ^ c=t1
  grind
 rw [show (fun c=>hs K (s+1) (upd x s c)*Ow K (w++[t]) (dl (s+1) (upd x s c)) (upd x s c))=fun c=>(hs K s x*Ow K w (dl s x) x)*((K.q*K.q) ^ c*dc K t (x (s-1)) c) from funext key,sm_mul,psum ht0 (hx (s-1) (by omega))]
 grind
theorem tc_skein {s i:Nat} (hi:1≤i) (u v:List Int):tc K s (u++(i:Int)::v)=tc K s (u++(-(i:Int))::v)+(K.q-K.r)*tc K s (u++v):=by
 unfold tc
 rw [←sS_mul,←sS_add]
 congr 1
 funext x
 have e:Ow K ((i:Int)::v) (dl s x)=fun y=>1*Ow K ((-(i:Int))::v) (dl s x) y+(K.q-K.r)*Ow K v (dl s x) y:=funext fun y=>by
  have:=Op_skein (K:=K) hi (Ow K v (dl s x)) y
  show Op K (i:Int) _ y=1*Op K (-(i:Int)) _ y+_
  rw [this]; grind
 rw [Ow_app,Ow_app,Ow_app,e,Ow_lin]
 grind
/-! The trace with its factors. -/
def wt (K:Qn):List Int→Rat
 | []=>1
 | v::w=>(if 0<v then K.r ^ (K.m+1) else K.q ^ (K.m+1))*wt K w
theorem wt_app (u w:List Int):wt K (u++w)=wt K u*wt K w:=by
 induction u with
 | nil=>show wt K w=1*wt K w; grind
 | cons v u ih=>show _*wt K (u++w)=_*wt K u*wt K w; rw [ih]; grind
theorem rq_pow: ∀n:Nat,K.r ^ n*K.q ^ n=1
 | 0=>by rw [Rat.pow_zero,Rat.pow_zero]; grind
 | n+1=>by
  have:=rq_pow n
  have qr:=K.qr
  rw [Rat.pow_succ,Rat.pow_succ]
  generalize K.r ^ n=a at this⊢
  generalize K.q ^ n=b at this⊢
  grind
theorem BE.wt {N:Nat} {u v:List Int} (h:BE N u v):Ht.wt K u=Ht.wt K v:=by
 induction h with
 | refl w=>rfl
 | symm _ ih=>exact ih.symm
 | trans _ _ h1 h2=>exact h1.trans h2
 | @far a b i j h1 h2 h3 h4 h5=>
  rw [wt_app,wt_app]
  show _*(_*(_*_))=_*(_*(_*_))
  grind
 | @braid a b i h1 h2=>
  have e1:(0:Int)<i:=by omega
  have e2:(0:Int)<((i+1:Nat):Int):=by omega
  rw [wt_app,wt_app]
  show _*((if (0:Int)<i then _ else _)*((if (0:Int)<((i+1:Nat):Int) then _ else _)*((if (0:Int)<i then _ else _)*_)))=_*((if (0:Int)<((i+1:Nat):Int) then _ else _)*((if (0:Int)<i then _ else _)*((if (0:Int)<((i+1:Nat):Int) then _ else _)*_)))
  rw [if_pos e1,if_pos e2]
 | @pn a b i h1 h2=>
  have e1:(0:Int)<i:=by omega
  have e2: ¬(0:Int)< -(i:Int):=by omega
  have:=rq_pow (K:=K) (K.m+1)
  rw [wt_app,wt_app]
  show _*((if (0:Int)<i then _ else _)*((if (0:Int)< -(i:Int) then _ else _)*_))=_
  rw [if_pos e1,if_neg e2]
  generalize K.r ^ (K.m+1)=t1 at this⊢
  generalize K.q ^ (K.m+1)=t2 at this⊢
  grind
 | @np a b i h1 h2=>
  have e1:(0:Int)<i:=by omega
  have e2: ¬(0:Int)< -(i:Int):=by omega
  have:=rq_pow (K:=K) (K.m+1)
  rw [wt_app,wt_app]
  show _*((if (0:Int)< -(i:Int) then _ else _)*((if (0:Int)<i then _ else _)*_))=_
  rw [if_pos e1,if_neg e2]
  generalize K.r ^ (K.m+1)=t1 at this⊢
  generalize K.q ^ (K.m+1)=t2 at this⊢
  grind
noncomputable def Xt (K:Qn) (s:Nat) (w:List Int):Rat:=wt K w*(K.r ^ K.m) ^ s*tc K s w
def del (K:Qn):Rat:=K.r ^ K.m*Gs K
theorem Xt_be {s:Nat} {u v:List Int} (h:BE s u v):Xt K s u=Xt K s v:=by
 unfold Xt; rw [BE.wt h,BE.tc h]
theorem Xt_rot {s:Nat} {u w:List Int} (h: ∀v∈u,v≠0∧v.natAbs<s):Xt K s (u++w)=Xt K s (w++u):=by
 unfold Xt; rw [tc_rot h,wt_app,wt_app]; grind
theorem Xt_more {s:Nat} {w:List Int} (hw: ∀v∈w,v≠0∧v.natAbs<s):Xt K (s+1) w=del K*Xt K s w:=by
 unfold Xt del
 rw [tc_more hw,Rat.pow_succ]
 grind
theorem qq_pow: ∀n:Nat,(K.q*K.q) ^ n=K.q ^ n*K.q ^ n
 | 0=>by rw [Rat.pow_zero,Rat.pow_zero]; grind
 | n+1=>by rw [Rat.pow_succ,Rat.pow_succ,qq_pow n]; grind
theorem Xt_edge {s:Nat} (hs1:1≤s) {w:List Int} (hw: ∀v∈w,v≠0∧v.natAbs<s) {t:Int} (ht:t.natAbs=s):Xt K (s+1) (w++[t])=Xt K s w:=by
 have qr:=K.qr
 have h1:=rq_pow (K:=K) K.m
 unfold Xt
 rw [tc_edge hs1 hw ht,wt_app,Rat.pow_succ]
 have:wt K [t]*(K.r ^ K.m)*Mt K t=1:=by
  unfold Mt
  show ((if 0<t then _ else _)*1)*_*_=_
  by_cases h:0<t
  ·
   rw [if_pos h,if_pos h,Rat.pow_succ,qq_pow]
   generalize K.r ^ K.m=a at h1⊢
   generalize K.q ^ K.m=b at h1⊢
   grind
  ·
   rw [if_neg h,if_neg h,Rat.pow_succ]
   generalize K.r ^ K.m=a at h1⊢
   generalize K.q ^ K.m=b at h1⊢
   grind
 generalize (K.r ^ K.m) ^ s=t1
 generalize wt K [t]=t2 at this⊢
 generalize K.r ^ K.m=t3 at this⊢
 generalize Mt K t=t4 at this⊢
 grind
theorem Xt_skein {s i:Nat} (hi:1≤i) (u v:List Int):Xt K s (u++(i:Int)::v)=K.r ^ (K.m+1)*K.r ^ (K.m+1)*Xt K s (u++(-(i:Int))::v)+K.r ^ (K.m+1)*(K.q-K.r)*Xt K s (u++v):=by
 have h1:=rq_pow (K:=K) (K.m+1)
 have e1:(0:Int)<i:=by omega
 have e2: ¬(0:Int)< -(i:Int):=by omega
 unfold Xt
 rw [tc_skein hi,wt_app,wt_app,wt_app]
 show _*((if (0:Int)<i then _ else _)*_)*_*_=_*(_*((if (0:Int)< -(i:Int) then _ else _)*_)*_*_)+_
 rw [if_pos e1,if_neg e2]
 generalize (K.r ^ K.m) ^ s=t1
 generalize wt K u=t2
 generalize wt K v=t3
 generalize K.r ^ (K.m+1)=a at h1⊢
 generalize K.q ^ (K.m+1)=b at h1⊢
 grind
theorem Xt_nil: ∀s:Nat,Xt K s []=del K ^ s
 | 0=>by
  unfold Xt tc
  show 1*(K.r ^ K.m) ^ 0*(1*dl 0 _ _)=_
  unfold dl
  rw [if_pos (fun k hk=>by omega),Rat.pow_zero,Rat.pow_zero]; grind
 | s+1=>by
  rw [Xt_more (fun v hv=>absurd hv (by simp)),Xt_nil s,Rat.pow_succ]; grind
theorem Gs_eq (K:Qn):(K.q-K.r)*Gs K=K.q*(K.q*K.q) ^ K.m-K.r:=by
 have qr:=K.qr
 have key: ∀n,(K.q-K.r)*sm (n+1) (fun c=>(K.q*K.q) ^ c)=K.q*(K.q*K.q) ^ n-K.r:=by
  intro n
  induction n with
  | zero=>
   show (K.q-K.r)*(0+(K.q*K.q) ^ 0)=_
   rw [Rat.pow_zero]; grind
  | succ n ih=>
   show (K.q-K.r)*(sm (n+1) _+(K.q*K.q) ^ (n+1))=_
   rw [Rat.mul_add,ih,Rat.pow_succ]
   generalize (K.q*K.q) ^ n=t
   grind
 exact key K.m
theorem del_eq (K:Qn):(K.q-K.r)*del K=K.q ^ (K.m+1)-K.r ^ (K.m+1):=by
 have qr:=K.qr
 have h1:=rq_pow (K:=K) K.m
 have h2:=Gs_eq K
 unfold del
 rw [qq_pow] at h2
 rw [Rat.pow_succ,Rat.pow_succ]
 generalize K.r ^ K.m=a at h1⊢
 generalize K.q ^ K.m=b at h1 h2⊢
 generalize Gs K=g at h2⊢
 grind
end Ht
end Go.Proofs.Ytkjpldmelafooaa

set_option linter.all false
namespace Go.Proofs.Ytkjpldmelafooaa
namespace Ht
open Gar
inductive Ly (s:Nat):(Nat→Nat)→List Int→(Nat→Nat)→Prop
 | nil (ρ:Nat→Nat):Ly s ρ [] ρ
 | up {ρ ρ':Nat→Nat} {i:Nat} {w:List Int}:1≤i→i<s→ρ (i-1)<ρ i→Ly s (fun k=>ρ (tr i k)) w ρ'→Ly s ρ ((i:Int)::w) ρ'
 | dn {ρ ρ':Nat→Nat} {i:Nat} {w:List Int}:1≤i→i<s→ρ i<ρ (i-1)→Ly s (fun k=>ρ (tr i k)) w ρ'→Ly s ρ ((-(i:Int))::w) ρ'
theorem ly_be {s:Nat} {ρ ρ':Nat→Nat} {u:List Int} (h:Ly s ρ u ρ'): ∀{f f':Nat→Nat} {w w':List Nat},Pm s f ρ→Wd s f w→Pm s f' ρ'→Wd s f' w'→BE s (pos w++u) (pos w'):=by
 induction h with
 | nil ρ=>
  intro f f' w w' hf hw hf' hw'
  have e:f=f':=hf.symm.uniq hf'.symm
  subst e
  rw [List.append_nil]
  exact (hw.uniq hw').be
 | @up ρ ρ' i u h1 h2 h3 h4 ih=>
  intro f f' w w' hf hw hf' hw'
  have hw2:=hw.snoc hf h1 h2 h3
  have:=ih (hf.symm.ex h1 h2).symm hw2 hf' hw'
  rw [pos_app,List.append_assoc] at this
  exact this
 | @dn ρ ρ' i u h1 h2 h3 h4 ih=>
  intro f f' w w' hf hw hf' hw'
  have hp:=(hf.symm.ex h1 h2).symm
  obtain ⟨w1,hw1⟩:=hp.word
  have hw2:=hw1.snoc hp h1 h2 (by rw [tr_l h1,tr_r h1]; exact h3)
  have e:(fun k=>tr i (tr i (f k)))=f:=funext fun k=>tr_tr h1 _
  rw [e] at hw2
  have q1:BE s (pos w++(-(i:Int))::u) (pos (w1++[i])++(-(i:Int))::u):=((hw.uniq hw2).be).right _
  refine q1.trans ?_
  rw [pos_app,List.append_assoc]
  exact (BE.pn (pos w1) u h1 h2).trans (ih hp hw1 hf' hw')
theorem pos_rg {s:Nat} {f:Nat→Nat} {w:List Nat} (h:Wd s f w):Rg s (pos w):=fun x hx=>by
 obtain ⟨i,hi,rfl⟩:=List.mem_map.1 hx
 have:=h.rng i hi
 omega
theorem rg_abs {s:Nat} {w:List Int} (h:Rg s w): ∀v∈w,v≠0∧v.natAbs<s:=fun v hv=>by
 have:=h v hv; omega
variable {K : Qn}
theorem Xt_ly {s:Nat} {ρ ρ':Nat→Nat} {u:List Int} (h:Ly s ρ u ρ') {f f':Nat→Nat} {w w':List Nat} (hf:Pm s f ρ) (hw:Wd s f w) (hf':Pm s f' ρ') (hw':Wd s f' w'):Xt K s u=Xt K s (pos w'++neg (pos w)):=by
 have h1:=ly_be h hf hw hf' hw'
 have h2:BE s u (neg (pos w)++pos w'):=by
  have:=(BE.cancel' (pos_rg hw)).symm.right u
  rw [List.nil_append,List.append_assoc] at this
  exact this.trans (h1.left _)
 rw [Xt_be h2,Xt_rot (rg_abs (Rg.neg (pos_rg hw)))]
/-! The ranks of a descending closure. -/
theorem closed_up {s:Nat} {g g':Nat→Nat} (h:Pm s g g') {x:Nat} (hx: ∀t,t≤x→g t≤x) {y:Nat} (hy:x<y):x<g y:=by
 rcases Nat.lt_or_ge x (g y) with q | q
 · exact q
 ·
  exfalso
  have hnd:((y::List.range (x+1)).map g).Nodup:=by
   rw [List.Nodup,List.pairwise_map]
   have h0:(y::List.range (x+1)).Nodup:=List.nodup_cons.2 ⟨fun hm=>by have:=List.mem_range.1 hm; omega,List.nodup_range⟩
   exact List.Pairwise.imp (fun hab e=>hab (h.inj e)) h0
  have:=List.Nodup.length_le_of_subset hnd (l₂:=List.range (x+1)) (fun z hz=>by
   obtain ⟨a,ha,rfl⟩:=List.mem_map.1 hz
   rcases List.mem_cons.1 ha with e | e
   · rw [e]; exact List.mem_range.2 (by omega)
   ·
    have:=hx a (by have:=List.mem_range.1 e; omega)
    exact List.mem_range.2 (by omega))
  rw [List.length_map,List.length_cons,List.length_range] at this
  omega
def asc (ν:Nat→Nat):Nat→Nat
 | 0=>0
 | n+1=>asc ν n+if ν n=n+1 then 1 else 0
theorem asc_le (ν:Nat→Nat): ∀n,asc ν n≤n
 | 0=>Nat.le_refl 0
 | n+1=>by have:=asc_le ν n; show asc ν n+_≤_; split<;>omega
theorem asc_less {ν ν':Nat→Nat} {x y:Nat} (hx:ν x=x+1) (hx':ν' x≠x+1) (hy:ν y≠y+1) (hy':ν' y≠y+1) (ho: ∀t,t≠x→t≠y→ν' t=ν t): ∀n,asc ν n=asc ν' n+if x<n then 1 else 0
 | 0=>rfl
 | n+1=>by
  show asc ν n+_=asc ν' n+_+_
  rw [asc_less hx hx' hy hy' ho n]
  by_cases e1:n=x
  · subst e1; rw [if_pos hx,if_neg hx',if_neg (Nat.lt_irrefl n),if_pos (Nat.lt_succ_self n)]
  ·
   by_cases e2:n=y
   ·
    subst e2
    rw [if_neg hy,if_neg hy']
    by_cases e3:x<n
    · rw [if_pos e3,if_pos (by omega)]
    · rw [if_neg e3,if_neg (by omega)]
   ·
    rw [ho n e1 e2]
    by_cases e3:x<n
    · rw [if_pos e3,if_pos (show x<n+1 by omega)]; omega
    · rw [if_neg e3,if_neg (show¬x<n+1 by omega)]; omega
/-! The word of one letter for each rank that is followed by the next one. -/
def un (ν:Nat→Nat):Nat→List Int
 | 0=>[]
 | j+1=>(if 1≤j∧ν (j-1)=j then [-(j:Int)] else [])++un ν j
theorem un_rg (ν:Nat→Nat): ∀j,∀v∈un ν j,v≠0∧v.natAbs<j
 | 0,v,hv=>absurd hv (by show v∉[]; simp)
 | j+1,v,hv=>by
  rcases List.mem_append.1 (show v∈_++un ν j from hv) with h | h
  ·
   split at h
   ·
    rename_i q
    rw [List.mem_singleton] at h
    omega
   · cases h
  · have:=un_rg ν j v h; omega
theorem un_val (ν:Nat→Nat): ∀j,1≤j→Xt K j (un ν j)*del K ^ (asc ν (j-1))=del K ^ j
 | 0,h=>by omega
 | 1,_=>by
  have e:un ν 1=[]:=by show (if 1≤0∧_ then _ else _)++[]=_; rw [if_neg (by omega)]; rfl
  rw [e,Xt_nil]
  show _*del K ^ 0=_
  rw [Rat.pow_zero]; grind
 | j+2,_=>by
  have ih:=un_val ν (j+1) (by omega)
  rw [Nat.add_sub_cancel] at ih
  have hu:=un_rg ν (j+1)
  show Xt K (j+1+1) ((if 1≤j+1∧ν (j+1-1)=j+1 then [-((j+1:Nat):Int)] else [])++un ν (j+1))*del K ^ (asc ν j+if ν j=j+1 then 1 else 0)=del K ^ (j+1+1)
  by_cases h:ν j=j+1
  ·
   rw [if_pos ⟨by omega,by rw [Nat.add_sub_cancel]; exact h⟩,if_pos h,Xt_rot (fun v hv=>by rw [List.mem_singleton] at hv; omega),Xt_edge (by omega) hu (by omega),Rat.pow_succ,Rat.pow_succ,←ih]
   grind
  ·
   rw [if_neg (fun q=>h (by have:=q.2; rwa [Nat.add_sub_cancel] at this)),if_neg h,List.nil_append,Xt_more hu,Nat.add_zero,Rat.pow_succ,←ih]
   grind
theorem Ly.cast {s:Nat} {ρ ρ1 ρ':Nat→Nat} {w:List Int} (h:Ly s ρ w ρ') (e:ρ1=ρ):Ly s ρ1 w ρ':=e▸h
theorem un_ly {s:Nat} {ν ν':Nat→Nat} (hν:Pm s ν ν') (hb: ∀t,t<s→ν t≤t+1): ∀(j:Nat) (S S':Nat→Nat),1≤j→j≤s→Pm s S S'→(∀p,j≤p→S p=p)→(∀p,p+1<j→S p=ν p)→Ly s S (un ν j) (fun k=>k)
 | 0,_,_,h,_,_,_,_=>by omega
 | 1,S,S',_,hs,hS,h1,h2=>by
  have e:un ν 1=[]:=by show (if 1≤0∧_ then _ else _)++[]=_; rw [if_neg (by omega)]; rfl
  have e0:S=fun k=>k:=funext fun p=>by
   by_cases hp:1≤p
   · exact h1 p hp
   ·
    have hp0:p=0:=by omega
    subst hp0
    rcases Nat.eq_zero_or_pos (S 0) with q | q
    · exact q
    · have:=hS.inj (h1 (S 0) q); omega
  rw [e]
  exact (Ly.nil _).cast e0
 | j+2,S,S',_,hs,hS,h1,h2=>by
  show Ly s S ((if 1≤j+1∧ν (j+1-1)=j+1 then [-((j+1:Nat):Int)] else [])++un ν (j+1)) _
  have hSj:S j=ν j:=h2 j (by omega)
  by_cases h:ν j=j+1
  ·
   rw [if_pos ⟨by omega,by rw [Nat.add_sub_cancel]; exact h⟩]
   have hlt:S (j+1)<S j:=by
    rw [hSj,h]
    rcases Nat.lt_trichotomy (S (j+1)) (j+1) with q | q | q
    · exact q
    ·
     exfalso
     have:S (j+1)=S j:=by rw [q,hSj,h]
     have:=hS.inj this; omega
    ·
     exfalso
     have:=hS.inj (h1 (S (j+1)) (by omega)); omega
   refine Ly.dn (by omega) (by omega) (by rw [Nat.add_sub_cancel]; exact hlt) ?_
   refine un_ly hν hb (j+1) _ _ (by omega) (by omega) (hS.ex (i:=j+1) (by omega) (by omega)) (fun p hp=>?_) (fun p hp=>?_)
   ·
    by_cases e:p=j+1
    ·
     subst e
     show S (tr (j+1) (j+1))=_
     rw [tr_r (by omega),Nat.add_sub_cancel,hSj,h]
    ·
     show S (tr (j+1) p)=p
     rw [tr_o (by omega) e,h1 p (by omega)]
   ·
    show S (tr (j+1) p)=_
    rw [tr_o (by omega) (by omega),h2 p (by omega)]
  ·
   rw [if_neg (fun q=>h (by have:=q.2; rwa [Nat.add_sub_cancel] at this)),List.nil_append]
   refine un_ly hν hb (j+1) S S' (by omega) (by omega) hS (fun p hp=>?_) (fun p hp=>h2 p (by omega))
   by_cases e:p=j+1
   ·
    have k1:=hS.fg (j+1)
    have hlt:S' (j+1)<s:=hS.symm.lt (by omega)
    rcases Nat.lt_trichotomy (S' (j+1)) (j+1) with q | q | q
    ·
     exfalso
     have e2:=h2 (S' (j+1)) (by omega)
     rw [k1] at e2
     have e3:=hb (S' (j+1)) hlt
     have:S' (j+1)=j:=by omega
     rw [this] at e2
     exact h e2.symm
    · rw [e]; rwa [q] at k1
    ·
     exfalso
     have e2:=h1 (S' (j+1)) (by omega)
     omega
   · exact h1 p (by omega)
def Vl (K:Qn) (s:Nat) (ν ρ:Nat→Nat) (c:Rat):Prop:= ∀(f f0:Nat→Nat) (w w0:List Nat),Pm s f ρ→Wd s f w→Pm s f0 (fun k=>ν (ρ k))→Wd s f0 w0→Xt K s (pos w++neg (pos w0))=c
theorem vl_id {s:Nat} (hs:1≤s) {ν ν':Nat→Nat} (hν:Pm s ν ν') (hb: ∀t,t<s→ν t≤t+1) {c:Rat} (hc:c*del K ^ asc ν (s-1)=del K ^ s) (hd:del K≠0):Vl K s ν (fun k=>k) c:=by
 intro f f0 w w0 hf hw hf0 hw0
 have h:=un_ly hν hb s ν ν' hs (Nat.le_refl s) hν (fun p hp=>hν.fix p hp) (fun p _=>rfl)
 rw [←Xt_ly h hf0 hw0 hf hw]
 have:=un_val (K:=K) ν s hs
 have hne:del K ^ asc ν (s-1)≠0:=by
  generalize asc ν (s-1)=n
  induction n with
  | zero=>rw [Rat.pow_zero]; decide
  | succ n ih=>rw [Rat.pow_succ]; grind
 rw [←hc] at this
 grind
theorem neg_snoc (u:List Nat) (i:Nat):neg (pos (u++[i]))=(-(i:Int))::neg (pos u):=by
 unfold neg pos
 rw [List.map_append,List.map_append,List.reverse_append]
 rfl
theorem Pm.comp {s:Nat} {f g f' g':Nat→Nat} (h:Pm s f g) (h':Pm s f' g'):Pm s (fun k=>f' (f k)) (fun k=>g (g' k)):=
 ⟨fun k hk=>by rw [h.fix k hk,h'.fix k hk],fun k=>by rw [h'.gf,h.gf],fun k=>by rw [h.fg,h'.fg]⟩
theorem vl_of {s:Nat} {ν ρ:Nat→Nat} {f f0:Nat→Nat} {w w0:List Nat} (hf:Pm s f ρ) (hw:Wd s f w) (hf0:Pm s f0 (fun k=>ν (ρ k))) (hw0:Wd s f0 w0) {c:Rat}:Xt K s (pos w++neg (pos w0))=c↔Vl K s ν ρ c:=by
 constructor
 ·
  intro h f' f0' w' w0' hf' hw' hf0' hw0'
  have e:f'=f:=hf'.symm.uniq hf.symm
  have e0:f0'=f0:=hf0'.symm.uniq hf0.symm
  subst e e0
  have b1:BE s (pos w') (pos w):=(hw'.uniq hw).be
  have b2:BE s (neg (pos w0')) (neg (pos w0)):=BE.neg (pos_rg hw0') (pos_rg hw0) (hw0'.uniq hw0).be
  rw [Xt_be (b1.mul b2),h]
 · intro h; exact h _ _ _ _ hf hw hf0 hw0
theorem vl_step {s:Nat} {ν ν':Nat→Nat} (hν:Pm s ν ν') (hb: ∀t,t<s→ν t≤t+1)
  (ih: ∀(μ μ':Nat→Nat),Pm s μ μ'→(∀t,t<s→μ t≤t+1)→asc μ (s-1)+1=asc ν (s-1)→∀ρ ρi:Nat→Nat,Pm s ρi ρ→Vl K s μ ρ (del K ^ (s-asc μ (s-1))))
  {ρ ρi:Nat→Nat} (hρ:Pm s ρi ρ) {i:Nat} (h1:1≤i) (h2:i<s) (hlt:ρ (i-1)<ρ i):Vl K s ν ρ (del K ^ (s-asc ν (s-1)))↔Vl K s ν (fun k=>ρ (tr i k)) (del K ^ (s-asc ν (s-1))):=by
 have hρ':Pm s (fun k=>tr i (ρi k)) (fun k=>ρ (tr i k)):=(hρ.symm.ex h1 h2).symm
 have h0:Pm s (fun k=>ρi (ν' k)) (fun k=>ν (ρ k)):=(Pm.comp hρ.symm hν).symm
 have h0':Pm s (fun k=>tr i (ρi (ν' k))) (fun k=>ν (ρ (tr i k))):=(h0.symm.ex h1 h2).symm
 obtain ⟨w,hw⟩:=hρ.word
 have hw2:=hw.snoc hρ h1 h2 hlt
 rcases Nat.lt_trichotomy (ν (ρ (i-1))) (ν (ρ i)) with q | q | q
 ·
  obtain ⟨w0,hw0⟩:=h0.word
  have hw3:=hw0.snoc h0 h1 h2 q
  rw [←vl_of hρ hw h0 hw0,←vl_of hρ' hw2 h0' hw3]
  have:BE s (pos (w++[i])++neg (pos (w0++[i]))) (pos w++neg (pos w0)):=by
   rw [neg_snoc,pos_app,List.append_assoc]
   exact BE.pn (pos w) (neg (pos w0)) h1 h2
  rw [Xt_be this]
 · have:=hρ.symm.inj (hν.inj q); omega
 ·
  obtain ⟨w1,hw1⟩:=h0'.word
  have hw3:=hw1.snoc h0' h1 h2 (by rw [tr_l h1,tr_r h1]; exact q)
  have e:(fun k=>tr i (tr i (ρi (ν' k))))=fun k=>ρi (ν' k):=funext fun k=>tr_tr h1 _
  rw [e] at hw3
  rw [←vl_of hρ hw h0 hw3,←vl_of hρ' hw2 h0' hw1,neg_snoc,pos_app,List.append_assoc]
  show _↔Xt K s (pos w++(i:Int)::neg (pos w1))=_
  have hsk:=Xt_skein (K:=K) (s:=s) h1 (pos w) (neg (pos w1))
  have hx:ρ (i-1)<s:=hρ.symm.lt (by omega)
  have hy:ρ i<s:=hρ.symm.lt h2
  have hτ:Pm s (fun t=>ρ (tr i (ρi t))) (fun t=>ρ (tr i (ρi t))):=Pm.comp (f:=fun t=>tr i (ρi t)) (g:=fun k=>ρ (tr i k)) (f':=ρ) (g':=ρi) hρ' hρ.symm
  have hμ:Pm s (fun t=>ν (ρ (tr i (ρi t)))) (fun t=>ρ (tr i (ρi (ν' t)))):=Pm.comp (f:=fun t=>ρ (tr i (ρi t))) (g:=fun t=>ρ (tr i (ρi t))) (f':=ν) (g':=ν') hτ hν
  have eμ: ∀t,t≠ρ (i-1)→t≠ρ i→ν (ρ (tr i (ρi t)))=ν t:=fun t t1 t2=>by
   have k1:ρi t≠i-1:=fun q=>t1 (by rw [←q,hρ.gf])
   have k2:ρi t≠i:=fun q=>t2 (by rw [←q,hρ.gf])
   rw [tr_o (by omega) k2,hρ.gf]
  have ex:ν (ρ (tr i (ρi (ρ (i-1)))))=ν (ρ i):=by rw [hρ.fg,tr_l h1]
  have ey:ν (ρ (tr i (ρi (ρ i))))=ν (ρ (i-1)):=by rw [hρ.fg,tr_r h1]
  have bx:=hb _ hx
  have by':=hb _ hy
  have nx:ν (ρ (i-1))=ρ (i-1)+1:=by
   rcases Nat.lt_or_ge (ν (ρ (i-1))) (ρ (i-1)+1) with k | k
   ·
    exfalso
    have:=closed_up hν (x:=ρ (i-1)) (fun t ht=>by
     rcases Nat.lt_or_eq_of_le ht with k1 | k1
     · have:=hb t (by omega); omega
     · rw [k1]; omega) hlt
    omega
   · omega
  have hA:=asc_less (ν:=ν) (ν':=fun t=>ν (ρ (tr i (ρi t)))) (x:=ρ (i-1)) (y:=ρ i) nx (by show ν (ρ (tr i (ρi (ρ (i-1)))))≠_; rw [ex]; omega) (by omega) (by show ν (ρ (tr i (ρi (ρ i))))≠_; rw [ey]; omega) (fun t t1 t2=>eμ t t1 t2) (s-1)
  rw [if_pos (by omega)] at hA
  have hbμ: ∀t,t<s→ν (ρ (tr i (ρi t)))≤t+1:=fun t ht=>by
   by_cases t1:t=ρ (i-1)
   · rw [t1,ex]; omega
   ·
    by_cases t2:t=ρ i
    · rw [t2,ey]; omega
    · rw [eμ t t1 t2]; exact hb t ht
  have hv:=ih _ _ hμ hbμ hA.symm ρ ρi hρ
  have e3:(fun k=>ν (ρ (tr i (ρi (ρ k)))))=fun k=>ν (ρ (tr i k)):=funext fun k=>by rw [hρ.fg]
  have hX:=hv ρi _ w w1 hρ hw (by rw [e3]; exact h0') hw1
  have hle:=asc_le ν (s-1)
  rw [show s-asc (fun t=>ν (ρ (tr i (ρi t)))) (s-1)=(s-asc ν (s-1))+1 by omega,Rat.pow_succ] at hX
  rw [hX] at hsk
  have hd:=del_eq K
  have hab:=rq_pow (K:=K) (K.m+1)
  generalize del K ^ (s-asc ν (s-1))=c at hsk⊢
  generalize K.r ^ (K.m+1)=a at hsk hd hab
  generalize K.q ^ (K.m+1)=b at hd hab
  generalize Xt K s (pos w++(i:Int)::neg (pos w1))=Xp at hsk⊢
  generalize Xt K s (pos w++(-(i:Int))::neg (pos w1))=Xm at hsk⊢
  generalize del K=d at hsk hd
  constructor
  · intro k; grind
  ·
   intro k
   have k2:a*a*Xm=a*a*c:=by grind
   have k3:b*b*(a*a*Xm)=b*b*(a*a*c):=by rw [k2]
   grind
theorem vl_all (hd:del K≠0) {s:Nat} (hs:1≤s): ∀(n:Nat) (ν ν':Nat→Nat),Pm s ν ν'→(∀t,t<s→ν t≤t+1)→asc ν (s-1)=n→∀ρ ρi:Nat→Nat,Pm s ρi ρ→Vl K s ν ρ (del K ^ (s-asc ν (s-1))):=by
 intro n
 induction n with
 | zero=>
  intro ν ν' hν hb hn ρ ρi hρ
  obtain ⟨v,hv⟩:=hρ.symm.word
  induction hv generalizing ρi with
  | nil=>exact vl_id hs hν hb (by rw [hn,Rat.pow_zero,Nat.sub_zero]; grind) hd
  | @cons ρ i v h1 h2 h3 _ ih2=>
   have hρ1:=(hρ.symm.ex h1 h2).symm
   have:=(vl_step hν hb (fun μ μ' _ _ h=>by omega) hρ1 h1 h2 (by rw [tr_l h1,tr_r h1]; exact h3)).1 (ih2 _ hρ1)
   have e:(fun k=>ρ (tr i (tr i k)))=ρ:=funext fun k=>by rw [tr_tr h1]
   rwa [e] at this
 | succ n ih=>
  intro ν ν' hν hb hn ρ ρi hρ
  obtain ⟨v,hv⟩:=hρ.symm.word
  induction hv generalizing ρi with
  | nil=>
   have hle:=asc_le ν (s-1)
   refine vl_id hs hν hb ?_ hd
   have pa: ∀a b:Nat,del K ^ a*del K ^ b=del K ^ (a+b):=fun a b=>by
    induction b with
    | zero=>rw [Rat.pow_zero,Nat.add_zero]; grind
    | succ b ih=>rw [←Nat.add_assoc,Rat.pow_succ,Rat.pow_succ,←ih]; grind
   rw [pa]
   congr 1
   omega
  | @cons ρ i v h1 h2 h3 _ ih2=>
   have hρ1:=(hρ.symm.ex h1 h2).symm
   have:=(vl_step hν hb (fun μ μ' h4 h5 h6=>ih μ μ' h4 h5 (by omega)) hρ1 h1 h2 (by rw [tr_l h1,tr_r h1]; exact h3)).1 (ih2 _ hρ1)
   have e:(fun k=>ρ (tr i (tr i k)))=ρ:=funext fun k=>by rw [tr_tr h1]
   rwa [e] at this
theorem Xt_lay (hd:del K≠0) {s:Nat} (hs:1≤s) {ρ0 ρm f0 fm:Nat→Nat} {w:List Int} (h:Ly s ρ0 w ρm) (h0:Pm s f0 ρ0) (hm:Pm s fm ρm) (hb: ∀p,p<s→ρ0 p≤ρm p+1):Xt K s w=del K ^ (s-asc (fun t=>ρ0 (fm t)) (s-1)):=by
 obtain ⟨w0,hw0⟩:=h0.word
 obtain ⟨w1,hw1⟩:=hm.word
 rw [Xt_ly h h0 hw0 hm hw1]
 have hν:Pm s (fun t=>ρ0 (fm t)) (fun t=>ρm (f0 t)):=Pm.comp hm h0.symm
 have e:(fun k=>ρ0 (fm (ρm k)))=ρ0:=funext fun k=>by rw [hm.fg]
 exact vl_all hd hs _ _ _ hν (fun t ht=>by
  have:=hb (fm t) (hm.lt ht)
  rwa [hm.gf] at this) rfl ρm fm hm fm f0 w1 w0 hm hw1 (by rw [e]; exact h0) hw0
