import Derived.Test.YtpnppjlnfhlmpaaGreatPGint
import Derived.Test.YtpnppjlnfhlmpaaGreatPWval
set_option linter.all false
namespace Go.Proofs.YtpnppjlnfhlmpaaGreat
open Ev
namespace Wm
/-! Sums over lists. -/
def sm {α:Type} (l:List α) (h:α→Nat):Nat:=(l.map h).sum
section
variable {α β : Type} {l l' : List α} {h h' : α → Nat}
theorem sm_nil:sm ([]:List α) h=0:=rfl
theorem qeh {a:α}:sm (a::l) h=h a+sm l h:=rfl
theorem sm_app:sm (l++l') h=sm l h+sm l' h:=by unfold sm; rw [Xn,Zt]
theorem qfk (e: ∀a∈l,h a=h' a):sm l h=sm l h':=by unfold sm; rw [Xd e]
theorem sm_zero (e: ∀a∈l,h a=0):sm l h=0:=by
 induction l with
 | nil=>rfl
 | cons a l ih=>rw [qeh,e a Ql,ih fun b hb=>e b (Qf _ hb)]
theorem sm_add:sm l (fun a=>h a+h' a)=sm l h+sm l h':=by
 induction l with
 | nil=>rfl
 | cons a l ih=>rw [qeh,qeh,qeh,ih]; omega
theorem sm_mulr (c:Nat):sm l (fun a=>h a*c)=sm l h*c:=by
 induction l with
 | nil=>exact (Zp c).symm
 | cons a l ih=>rw [qeh,qeh,ih,Nat.add_mul]
theorem sm_const (c:Nat):sm l (fun _=>c)=l.length*c:=by
 induction l with
 | nil=>exact (Zp c).symm
 | cons a l ih=>rw [qeh,ih,Xe,Nat.succ_mul]; omega
theorem sm_comm {m:List β} {k:α→β→Nat}:sm l (fun a=>sm m (k a))=sm m (fun b=>sm l fun a=>k a b):=by
 induction l with
 | nil=>exact (sm_zero fun _ _=>rfl).symm
 | cons a l ih=>
  rw [qeh,ih,←sm_add]
  rfl
theorem sm_perm (p:l.Perm l'):sm l h=sm l' h:=(p.map h).sum_nat
theorem sm_map {f:β→α} {m:List β}:sm (m.map f) h=sm m fun b=>h (f b):=by unfold sm; rw [Yu]; rfl
theorem sm_flat {f:β→List α} {m:List β}:sm (m.flatMap f) h=sm m fun b=>sm (f b) h:=by
 induction m with
 | nil=>rfl
 | cons b m ih=>rw [List.flatMap_cons,sm_app,ih,qeh]
theorem sm_one [DecidableEq α] {x:α} {c:Nat} (hn:l.Nodup) (hx:x∈l):sm l (fun a=>if a=x then c else 0)=c:=by
 induction l with
 | nil=>cases hx
 | cons a l ih=>
  rw [Y1] at hn
  rw [qeh]
  by_cases e:a=x
  ·
   subst e
   rw [if_pos rfl,sm_zero fun b hb=>if_neg fun (e:b=a)=>hn.1 (by rw [←e]; exact hb)]; rfl
  · rw [if_neg e,ih hn.2 ((Qp.1 hx).resolve_left fun q=>e q.symm)]; omega
theorem sm_mem {a:α} (ha:a∈l):h a≤sm l h:=by
 induction l with
 | nil=>cases ha
 | cons b l ih=>
  rw [qeh]
  rcases Qp.1 ha with e | e
  · rw [e]; omega
  · have:=ih e; omega
theorem sm_pos:0<sm l h↔∃a∈l,0<h a:=by
 constructor
 ·
  intro q
  apply Classical.byContradiction
  intro hc
  rw [sm_zero fun a ha=>Nat.eq_zero_of_not_pos fun z=>hc ⟨a,ha,z⟩] at q
  omega
 ·
  rintro ⟨a,ha,q⟩
  exact Nat.lt_of_lt_of_le q (sm_mem ha)
theorem sm_filter {p:α→Bool}:(l.filter p).length=sm l fun a=>if p a=true then 1 else 0:=by
 induction l with
 | nil=>rfl
 | cons a l ih=>
  rw [Xm,qeh,←ih]
  split
  · rw [Xe]; omega
  · omega
end
/-! Sums over colourings. -/
def upd (f:Nat→Nat) (a x:Nat):Nat→Nat:=fun b=>if b=a then x else f b
theorem qgu (f:Nat→Nat) (a x:Nat):upd f a x a=x:=if_pos rfl
theorem upd_ne {f:Nat→Nat} {a b x:Nat} (h:b≠a):upd f a x b=f b:=if_neg h
theorem upd_comm {f:Nat→Nat} {a b x y:Nat} (h:a≠b):upd (upd f a x) b y=upd (upd f b y) a x:=by
 funext c
 unfold upd
 by_cases e:c=b
 · subst e; rw [if_pos rfl,if_neg (fun q=>h q.symm),if_pos rfl]
 · rw [if_neg e,if_neg e]
def S (q:Nat):List Nat→((Nat→Nat)→Nat)→(Nat→Nat)→Nat
 | [],φ,f=>φ f
 | a::l,φ,f=>sm (List.range q) fun x=>S q l φ (upd f a x)
def Dep (D:Nat→Prop) (φ:(Nat→Nat)→Nat):Prop:= ∀g g':Nat→Nat,(∀b,D b→g b=g' b)→φ g=φ g'
section
variable {q : Nat} {φ ψ : (Nat → Nat) → Nat}
theorem qfn: ∀{l:List Nat} {f:Nat→Nat},(∀g:Nat→Nat,(∀b,b∉l→g b=f b)→(∀b,b∈l→g b<q)→φ g=ψ g)→S q l φ f=S q l ψ f
 | [],f,h=>h f (fun _ _=>rfl) (fun _ h=>by cases h)
 | a::l,f,h=>by
  unfold S
  refine qfk fun x hx=>qfn fun g h1 h2=>?_
  refine h g (fun b hb=>?_) (fun b hb=>?_)
  · rw [h1 b fun z=>hb (Qf _ z),upd_ne fun (z:b=a)=>hb (by rw [z]; exact Ql)]
  ·
   by_cases e:b∈l
   · exact h2 b e
   ·
    have:b=a:=(Qp.1 hb).resolve_right e
    subst this
    rw [h1 b e,qgu]; exact Qg.1 hx
theorem S_app: ∀{l l':List Nat} {f:Nat→Nat},S q (l++l') φ f=S q l (fun g=>S q l' φ g) f
 | [],_,_=>rfl
 | a::l,l',f=>by
  show sm _ _=sm _ _
  exact qfk fun x _=>S_app
theorem S_perm {l l':List Nat} (p:l.Perm l'): ∀f:Nat→Nat,S q l φ f=S q l' φ f:=by
 induction p with
 | nil=>intro f; rfl
 | cons a _ ih=>intro f; exact qfk fun x _=>ih _
 | swap a b l=>
  intro f
  by_cases e:a=b
  · rw [e]
  ·
   show sm _ (fun x=>sm _ fun y=>S q l φ (upd (upd f b x) a y))=sm _ (fun y=>sm _ fun x=>S q l φ (upd (upd f a y) b x))
   rw [sm_comm]
   exact qfk fun y _=>qfk fun x _=>by rw [upd_comm fun z=>e z.symm]
 | trans _ _ h1 h2=>intro f; rw [h1,h2]
theorem S_mulr (c:Nat): ∀{l:List Nat} {f:Nat→Nat},S q l (fun g=>φ g*c) f=S q l φ f*c
 | [],_=>rfl
 | a::l,f=>by
  unfold S
  rw [←sm_mulr]
  exact qfk fun x _=>S_mulr c
theorem S_const (c:Nat): ∀{l:List Nat} {f:Nat→Nat},S q l (fun _=>c) f=q ^ l.length*c
 | [],_=>by show c=q ^ 0*c; rw [Nat.pow_zero,Nat.one_mul]
 | a::l,f=>by
  unfold S
  rw [qfk fun x _=>S_const c,sm_const,Qn,Xe,Nat.pow_succ]
  rw [Yx (q ^ l.length) q,Nat.mul_assoc]
theorem S_ext {D:Nat→Prop} (hd:Dep D φ): ∀{l:List Nat} {f f':Nat→Nat},(∀b,D b→b∈l∨f b=f' b)→S q l φ f=S q l φ f'
 | [],f,f',h=>hd f f' fun b hb=>(h b hb).resolve_left (by simp)
 | a::l,f,f',h=>by
  refine qfk fun x _=>S_ext hd fun b hb=>?_
  by_cases e:b=a
  · subst e; exact .inr (by rw [qgu,qgu])
  ·
   rw [upd_ne e,upd_ne e]
   rcases h b hb with z | z
   · exact .inl ((Qp.1 z).resolve_left e)
   · exact .inr z
theorem S_pull {D:Nat→Prop} (hd:Dep D ψ) {l:List Nat} {f:Nat→Nat} (hl: ∀b,D b→b∉l):S q l (fun g=>φ g*ψ g) f=S q l φ f*ψ f:=by
 rw [←S_mulr]
 refine qfn fun g h1 _=>?_
 rw [hd g f fun b hb=>h1 b (hl b hb)]
theorem S_prod {D1 D2:Nat→Prop} (h1:Dep D1 φ) (h2:Dep D2 ψ) {l1 l2:List Nat} {f:Nat→Nat} (d1: ∀b,D1 b→b∉l2) (d2: ∀b,D2 b→b∉l1):
  S q (l1++l2) (fun g=>φ g*ψ g) f=S q l1 φ f*S q l2 ψ f:=by
 rw [S_app,←S_mulr]
 refine qfn fun g e1 _=>?_
 have:Wm.S q l2 (fun g=>φ g*ψ g) g=φ g*Wm.S q l2 ψ g:=by
  rw [show (fun g=>φ g*ψ g)=fun g=>ψ g*φ g from funext fun g=>Yx _ _,S_pull h1 d1,Yx]
 rw [this,S_ext h2 (f:=g) (f':=f) fun b hb=>.inr (e1 b (d2 b hb))]
def ovr (l:List Nat) (g f:Nat→Nat):Nat→Nat:=fun b=>if b∈l then g b else f b
theorem S_point {g':Nat→Nat}: ∀{l:List Nat} {f:Nat→Nat},l.Nodup→(∀b,b∈l→g' b<q)→S q l (fun g=>if∀b∈l,g b=g' b then φ g else 0) f=φ (ovr l g' f)
 | [],f,_,_=>by
  show (if∀b∈([]:List Nat),f b=g' b then φ f else 0)=_
  rw [if_pos fun b hb=>by cases hb]
  rfl
 | a::l,f,hn,hg=>by
  rw [Y1] at hn
  unfold S
  have key: ∀x∈List.range q,S q l (fun g=>if∀b∈a::l,g b=g' b then φ g else 0) (upd f a x)=if x=g' a then φ (ovr l g' (upd f a (g' a))) else 0:=by
   intro x _
   by_cases e:x=g' a
   ·
    rw [if_pos e]
    subst e
    rw [←S_point hn.2 (f:=upd f a (g' a)) fun b hb=>hg b (Qf _ hb)]
    refine qfn fun g h1 _=>?_
    have ha:g a=g' a:=by rw [h1 a hn.1,qgu]
    by_cases z: ∀b∈l,g b=g' b
    ·
     rw [if_pos z,if_pos fun b hb=>by
      rcases Qp.1 hb with w | w
      · rw [w]; exact ha
      · exact z b w]
    · rw [if_neg z,if_neg fun w=>z fun b hb=>w b (Qf _ hb)]
   ·
    rw [if_neg e]
    rw [qfn (ψ:=fun _=>0) fun g h1 _=>if_neg fun w=>e (by rw [←w a Ql,h1 a hn.1,qgu]),S_const]; simp
  rw [qfk key,sm_one Yc (Qg.2 (hg a Ql))]
  congr 1
  funext b
  unfold ovr
  by_cases e:b=a
  · subst e; rw [if_neg hn.1,qgu,if_pos Ql]
  ·
   rw [upd_ne e]
   by_cases z:b∈l
   · rw [if_pos z,if_pos (Qf _ z)]
   · rw [if_neg z,if_neg fun w=>z ((Qp.1 w).resolve_left e)]
theorem S_pos: ∀{l:List Nat} {f:Nat→Nat},0<S q l φ f→∃g:Nat→Nat,(∀b,b∉l→g b=f b)∧(∀b,b∈l→g b<q)∧0<φ g
 | [],f,h=>⟨f,fun _ _=>rfl,(fun _ hb=>by cases hb),h⟩
 | a::l,f,h=>by
  obtain ⟨x,hx,h1⟩:=sm_pos.1 h
  obtain ⟨g,g1,g2,g3⟩:=S_pos h1
  refine ⟨g,fun b hb=>?_,fun b hb=>?_,g3⟩
  · rw [g1 b fun z=>hb (Qf _ z),upd_ne fun (z:b=a)=>hb (by rw [z]; exact Ql)]
  ·
   by_cases e:b∈l
   · exact g2 b e
   ·
    have:b=a:=(Qp.1 hb).resolve_right e
    subst this
    rw [g1 b e,qgu]; exact Qg.1 hx
theorem S_pos_of {g:Nat→Nat} (hp:0<φ g): ∀{l:List Nat} {f:Nat→Nat},(∀b,b∉l→g b=f b)→(∀b,b∈l→g b<q)→0<S q l φ f
 | [],f,h,_=>by
  have:g=f:=funext fun b=>h b (by simp)
  rw [←this]; exact hp
 | a::l,f,h1,h2=>by
  refine sm_pos.2 ⟨g a,Qg.2 (h2 a Ql),S_pos_of hp (fun b hb=>?_) fun b hb=>h2 b (Qf _ hb)⟩
  by_cases e:b=a
  · rw [e,qgu]
  ·
   rw [upd_ne e]
   exact h1 b fun z=>hb ((Qp.1 z).resolve_left e)
end
end Wm
end Go.Proofs.YtpnppjlnfhlmpaaGreat

set_option linter.all false
namespace Go.Proofs.YtpnppjlnfhlmpaaGreat
open Ev
namespace Wm
open Gar Pg
def M1:Nat:=1099511627777
def sat (x:Nat):Nat:=min x M1
theorem sat_le (x:Nat):sat x≤M1:=Nat.min_le_right _ _
theorem sat_addl (a b:Nat):sat (sat a+b)=sat (a+b):=by unfold sat; omega
theorem sat_addr (a b:Nat):sat (a+sat b)=sat (a+b):=by unfold sat; omega
theorem sat_mul (a n:Nat):sat (sat a*n)=sat (a*n):=by
 unfold sat
 rcases Nat.eq_zero_or_pos n with h | h
 · subst h; simp
 ·
  by_cases e:a≤M1
  · rw [Zu e]
  ·
   rw [Nat.min_eq_right (show M1≤a by omega)]
   have h1:M1*1≤M1*n:=Nat.mul_le_mul_left _ h
   have h2:M1*n≤a*n:=Nat.mul_le_mul_right _ (by omega)
   omega
theorem sat_mulr (a n:Nat):sat (n*sat a)=sat (n*a):=by rw [Yx,sat_mul,Yx]
theorem sat_pos {a:Nat}:0<sat a↔0<a:=by unfold sat M1; omega
/-! Look-ups. -/
abbrev Mp:=List (List UInt8×Int)
def vl (m:Mp) (k:List UInt8):Nat:=((gget m k).getD 0).toNat
structure Ok (m:Mp):Prop where
 nd:(m.map (·.1)).Nodup
 rg: ∀e∈m,0≤e.2∧e.2≤(M1:Int)
theorem Ok.nil:Ok []:=⟨Yn,fun _ h=>by cases h⟩
theorem Ok.get {m:Mp} (h:Ok m) (k:List UInt8):(gget m k).getD 0=(vl m k:Int)∧vl m k≤M1:=by
 unfold vl
 cases e:gget m k with
 | none=>exact ⟨rfl,Xk _⟩
 | some v=>
  have:=h.rg _ (gget_mem e)
  dsimp only at this
  rw [Xi]
  omega
theorem gget_gput {k k':List UInt8} {v:Int}: ∀{m:Mp},gget (gput m k v) k'=if k'=k then some v else gget m k'
 | []=>rfl
 | p::r=>by
  unfold gput
  by_cases e:k=p.1
  ·
   rw [if_pos e]
   unfold gget
   by_cases e2:k'=k
   · rw [if_pos e2,if_pos e2]
   · rw [if_neg e2,if_neg e2,if_neg (fun z=>e2 (z.trans e.symm))]
  ·
   rw [if_neg e]
   unfold gget
   rw [gget_gput]
   by_cases e2:k'=p.1
   · rw [if_pos e2,if_pos e2,if_neg (fun z=>e (z.symm.trans e2))]
   · rw [if_neg e2,if_neg e2]
theorem gput_keys2 {m:Mp} {k k':List UInt8} {v:Int}:k'∈(gput m k v).map (·.1)↔k'∈m.map (·.1)∨k'=k:=by
 rw [gput_keys]
 split
 ·
  rename_i h
  exact ⟨.inl,fun q=>q.elim id fun e=>e▸h⟩
 · rw [Qs,Qq]
theorem gput_mem {m:Mp} {k:List UInt8} {v:Int}: ∀e∈gput m k v,e∈m∨e=(k,v):=by
 induction m with
 | nil=>intro e h; exact .inr (Qq.1 h)
 | cons p r ih=>
  intro e h
  unfold gput at h
  split at h
  ·
   rcases Qp.1 h with q | q
   · exact .inr q
   · exact .inl (Qf _ q)
  ·
   rcases Qp.1 h with q | q
   · exact .inl (q▸Ql)
   · exact (ih e q).imp (Qf _) id
theorem Ok.put {m:Mp} (h:Ok m) (k:List UInt8) {n:Nat} (hn:n≤M1):Ok (gput m k (min (((vl m k:Nat):Int)+(n:Int)) 1099511627777))∧
  (∀k',vl (gput m k (min (((vl m k:Nat):Int)+(n:Int)) 1099511627777)) k'=if k'=k then sat (vl m k+n) else vl m k')∧
  ∀k',k'∈(gput m k (min (((vl m k:Nat):Int)+(n:Int)) 1099511627777)).map (·.1)↔k'∈m.map (·.1)∨k'=k:=by
 refine ⟨⟨gput_nodup h.nd _ _,fun e he=>?_⟩,fun k'=>?_,fun k'=>gput_keys2⟩
 ·
  rcases gput_mem e he with q | q
  · exact h.rg e q
  ·
   subst q
   dsimp only
   unfold M1
   omega
 ·
  unfold vl
  rw [gget_gput]
  split
  ·
   rw [Xi]
   unfold sat M1
   omega
  · rfl
theorem vl_zero {m:Mp} {k:List UInt8} (h:k∉m.map (·.1)):vl m k=0:=by
 unfold vl
 rw [gget_none.2 h]; rfl
theorem Ok.perm {m m':Mp} (h:Ok m) (h':Ok m') (hv: ∀k,vl m k=vl m' k) (hk: ∀k,k∈m.map (·.1)↔k∈m'.map (·.1)):m.Perm m':=by
 have nd: ∀{m:Mp},Ok m→m.Nodup:=fun {m} h=>by
  have:=h.nd
  unfold List.Nodup at this⊢
  rw [Yj] at this
  exact this.imp fun q e=>q (by rw [e])
 have sub: ∀{m m':Mp},Ok m→Ok m'→(∀k,vl m k=vl m' k)→(∀k,k∈m.map (·.1)↔k∈m'.map (·.1))→∀e,e∈m→e∈m':=by
  intro m m' h h' hv hk e he
  have h1:=gget_of h.nd (k:=e.1) (v:=e.2) he
  obtain ⟨e',he',q⟩:=Qo.1 ((hk e.1).1 (Qo.2 ⟨e,he,rfl⟩))
  have h2:=gget_of h'.nd (k:=e'.1) (v:=e'.2) he'
  have h3:=hv e.1
  unfold vl at h3
  rw [h1,←q,h2,Xi,Xi] at h3
  have r1:=h.rg e he
  have r2:=h'.rg e' he'
  have:e.2=e'.2:=by omega
  have:e=e':=Prod.ext q.symm this
  rw [this]; exact he'
 refine Yp.2 fun e=>?_
 rw [(nd h).count,(nd h').count]
 by_cases q:e∈m
 · rw [if_pos q,if_pos (sub h h' hv hk e q)]
 · rw [if_neg q,if_neg fun z=>q (sub h' h (fun k=>(hv k).symm) (fun k=>(hk k).symm) e z)]
theorem sum_keys {m:Mp} (h:Ok m) {A:List (List UInt8)} (hA:A.Nodup) (hs: ∀k∈m.map (·.1),k∈A) (n:List UInt8→Nat):sm m (fun e=>e.2.toNat*n e.1)=sm A fun k=>vl m k*n k:=by
 have e1:sm m (fun e=>e.2.toNat*n e.1)=sm (m.map (·.1)) fun k=>vl m k*n k:=by
  rw [sm_map]
  refine qfk fun e he=>?_
  unfold vl
  rw [gget_of h.nd (k:=e.1) (v:=e.2) he]; rfl
 have key: ∀{B A:List (List UInt8)},B.Nodup→A.Nodup→(∀k∈B,k∈A)→∀w:List UInt8→Nat,(∀k,k∉B→w k=0)→sm B w=sm A w:=by
  intro B A hB hA hs w hw
  have p:A.Perm (B++A.filter fun k=>decide (k∉B)):=by
   refine Yp.2 fun e=>?_
   rw [List.count_append,hA.count,hB.count,(show (A.filter fun k=>decide (k∉B)).Nodup from hA.filter _).count]
   by_cases q:e∈B
   · rw [if_pos q,if_pos (hs e q),if_neg (by simp [q])]
   ·
    rw [if_neg q]
    by_cases z:e∈A
    · rw [if_pos z,if_pos (by simp [z,q])]
    · rw [if_neg z,if_neg (by simp [z])]
  rw [sm_perm p,sm_app,sm_zero (l:=A.filter fun k=>decide (k∉B)) fun k hk=>hw k (by simpa using (Qx.1 hk).2)]
  rfl
 rw [e1]
 exact key h.nd hA hs _ fun k hk=>by rw [vl_zero hk,Zp]
end Wm
end Go.Proofs.YtpnppjlnfhlmpaaGreat

set_option linter.all false
namespace Go.Proofs.YtpnppjlnfhlmpaaGreat
open Ev
namespace Wm
open Gar Pg
structure Qt (q:Nat) (tb:Nat→Nat→Nat) (T Z:List (List Int)):Prop where
 q1:1≤q
 q2:q≤30
 lt: ∀i j,i<q→j<q→tb i j<q
 inj: ∀i i' j,i<q→i'<q→j<q→tb i j=tb i' j→i=i'
 idem: ∀i,i<q→tb i i=i
 tl:T.length=q
 t: ∀i,i<q→T[i]? =some (li q (tb i))
 zl:Z.length=q
 z: ∀i j,i<q→j<q→∃row:List Int,Z[tb i j]? =some row∧row.length=q∧row[j]? =some (i:Int)
def iz (l:List Nat):List Int:=l.map fun (x:Nat)=>(x:Int)
theorem qeo (l:List Nat):(iz l).length=l.length:=Qu ..
theorem iz_at {l:List Nat} {k:Nat} (h:k<l.length):(iz l)[k]? =some (l[k]:Int):=by
 unfold iz
 rw [Qm,gE h]; rfl
def Cok (q:Nat) (c:Nat→Int):Prop:= ∀a,c a=-1∨∃x:Nat,x<q∧c a=(x:Int)
def nat (c:Nat→Int):Nat→Nat:=fun a=>(c a).toNat
def updc (c:Nat→Int) (a:Nat) (x:Int):Nat→Int:=fun b=>if b=a then x else c b
theorem nat_updc (c:Nat→Int) (a x:Nat):nat (updc c a (x:Int))=upd (nat c) a x:=by
 funext b
 unfold nat updc upd
 split
 · exact Qb x
 · rfl
theorem Cok.upd {q:Nat} {c:Nat→Int} (h:Cok q c) (a:Nat) {x:Nat} (hx:x<q):Cok q (updc c a x):=fun b=>by
 unfold updc
 split
 · exact .inr ⟨x,hx,rfl⟩
 · exact h b
def un (c:Nat→Int):List Nat→List Nat
 | []=>[]
 | a::l=>if c a=-1 then a::(un c l).filter (fun b=>decide (b≠a)) else un c l
theorem un_mem {c:Nat→Int} {b:Nat}: ∀{l:List Nat},b∈un c l↔b∈l∧c b=-1
 | []=>by simp [un]
 | a::l=>by
  have ih:=un_mem (c:=c) (b:=b) (l:=l)
  unfold un
  split
  ·
   rename_i h
   rw [Qp,Qx,ih,Qp]
   constructor
   ·
    rintro (e | ⟨⟨h1,h2⟩,_⟩)
    · exact ⟨.inl e,e▸h⟩
    · exact ⟨.inr h1,h2⟩
   ·
    rintro ⟨e | h1,h2⟩
    · exact .inl e
    ·
     by_cases e:b=a
     · exact .inl e
     · exact .inr ⟨⟨h1,h2⟩,by simpa using e⟩
  ·
   rename_i h
   rw [ih,Qp]
   exact ⟨fun ⟨h1,h2⟩=>⟨.inr h1,h2⟩,fun ⟨h1,h2⟩=>⟨h1.resolve_left fun e=>h (e▸h2),h2⟩⟩
theorem un_nodup {c:Nat→Int}: ∀{l:List Nat},(un c l).Nodup
 | []=>Yn
 | a::l=>by
  unfold un
  split
  ·
   rw [Y1]
   exact ⟨fun h=>by simpa using (Qx.1 h).2,un_nodup.filter _⟩
  · exact un_nodup
theorem un_upd {c:Nat→Int} {a:Nat} {x:Int} (hx:x≠-1): ∀{l:List Nat},un (updc c a x) l=(un c l).filter fun b=>decide (b≠a)
 | []=>rfl
 | b::l=>by
  have ih:=un_upd (c:=c) (a:=a) hx (l:=l)
  unfold un
  by_cases e:b=a
  ·
   subst e
   rw [if_neg (show¬updc c b x b=-1 by unfold updc; rw [if_pos rfl]; exact hx),ih]
   split
   ·
    rw [Xm,if_neg (by simp),Zl]
    exact Yl fun y _=>by simp
   · rfl
  ·
   have e1:updc c a x b=c b:=if_neg e
   rw [e1]
   split
   ·
    rw [ih,Xm,if_pos (by simpa using e),Zl,Zl]
    congr 1
    exact Yl fun y _=>Bool.and_comm _ _
   · exact ih
theorem un_first {c:Nat→Int} {x:Int} (hx:x≠-1): ∀{l:List Nat} {i:Nat} (hi:i<l.length),(∀a∈l.take i,c a≠-1)→c l[i]=-1→un c l=l[i]::un (updc c l[i] x) l
 | [],_,h,_,_=>absurd h (Yr _)
 | a::l,0,_,_,h=>by
  have e:(a::l)[0]=a:=rfl
  rw [e] at h⊢
  conv=>lhs; unfold un
  rw [if_pos h]
  congr 1
  conv=>rhs; unfold un
  rw [if_neg (show¬updc c a x a=-1 by unfold updc; rw [if_pos rfl]; exact hx),un_upd hx]
 | a::l,i+1,hi,ht,h=>by
  have e:(a::l)[i+1]=l[i]'(Y6 hi):=rfl
  rw [e] at h⊢
  have h1:=ht a (by simp)
  have ih:=un_first hx (c:=c) (Y6 hi) (fun b hb=>ht b (by rw [List.take_succ_cons]; exact Qf _ hb)) h
  have hne:a≠l[i]'(Y6 hi):=fun q=>h1 (q▸h)
  conv=>lhs; unfold un
  rw [if_neg h1,ih]
  congr 1
  conv=>rhs; unfold un
  rw [if_neg (show¬updc c _ x a=-1 by unfold updc; rw [if_neg hne]; exact h1)]
theorem cut_one {l:List Int} {j:Nat} {v:Int} (h:l[j]? =some v):(l.drop ((j:Nat):Int).toNat).take (((j:Int)+1).toNat-((j:Nat):Int).toNat)=[v]:=by
 have e1:((j:Int)+1).toNat-((j:Nat):Int).toNat=1:=by omega
 rw [e1,Qb,List.take_one,List.head?_drop,h]; rfl
section
variable {q : Nat} {tb : Nat → Nat → Nat} {T Z : List (List Int)} (Q : Qt q tb T Z)
include Q
theorem Qt.sur {j x:Nat} (hj:j<q) (hx:x<q): ∃i,i<q∧tb i j=x:=
 pigeon q (fun i=>tb i j) (fun i hi=>Q.lt i j hi hj) (fun i i' hi hi' e=>Q.inj i i' j hi hi' hj e) x hx
theorem choices_run {c:Nat→Int} (hc:Cok q c) {fr ov to K:Nat} (h1:fr<K) (h2:ov<K) (h3:to<K) (rels:List (Int×(Int×Int))) (kI arc:Int) (m:Nat) (hm:100≤m):
  ∃l:List Nat,F.qdv m rels kI T Z (fr:Int) (ov:Int) (to:Int) arc (iL K c)=some (iz l,iL K c)∧l.Nodup∧l.length≤30∧(∀x∈l,x<q)∧
   ∀x,x<q→x∉l→(c fr≠-1∧c ov≠-1∧x≠tb (c fr).toNat (c ov).toNat)∨(c ov≠-1∧c fr=-1∧c to≠-1∧tb x (c ov).toNat≠(c to).toNat):=by
 have hq1:=Q.q1; have hq2:=Q.q2
 have hall: ∀(x22 x29:Int),F.qby m T Z (iL K c) x22 x29 false=some (iz (List.range q),iL K c):=fun x22 x29=>by
  unfold F.qby
  have hl:=qba (body:=F.qcm m T) (fun k:Nat=>((k:Int),iL q fun j=>if j<k then (j:Int) else 0)) q (fun k hk=>by
   unfold F.qcm
   dsimp only
   rw [Q.tl,Qv,Qb,dT (by omega),kT,qas,qcc hk,bB,qal (by omega) (by omega),bB,Qb,iL_set]
   rw [show ((k:Int)+1)=((k+1:Nat):Int) by omega]
   congr 3
   refine qcv fun j _=>?_
   by_cases e:j=k
   · rw [if_pos e,if_pos (by omega),e]
   ·
    rw [if_neg e]
    by_cases e2:j<k
    · rw [if_pos e2,if_pos (by omega)]
    · rw [if_neg e2,if_neg (by omega)]) (r:=((q:Int),iL q fun j=>if j<q then (j:Int) else 0)) (by
   unfold F.qcm
   dsimp only
   rw [Q.tl,Qv,Qb,dF (by omega),kF]) m (by omega)
  have e0:((0:Int),List.replicate (T.length:Int).toNat (0:Int))=(fun k:Nat=>((k:Int),iL q fun j=>if j<k then (j:Int) else 0)) 0:=by
   rw [Q.tl,Qb,iL_rep]
   dsimp only
   congr 1
  rw [kF,qdw (by omega) (by rw [Q.tl]; omega),bB,e0,hl,bB]
  dsimp only
  congr 2
  unfold iL iz
  refine Xd fun j hj=>?_
  rw [if_pos (Qg.1 hj)]
 have hz: ∃l:List Nat,some (iz (List.range q),iL K c)=some (iz l,iL K c)∧l.Nodup∧l.length≤30∧(∀x∈l,x<q)∧∀x,x<q→x∉l→(c fr≠-1∧c ov≠-1∧x≠tb (c fr).toNat (c ov).toNat)∨(c ov≠-1∧c fr=-1∧c to≠-1∧tb x (c ov).toNat≠(c to).toNat):=
  ⟨List.range q,rfl,Yc,by rw [Qn]; omega,fun x hx=>Qg.1 hx,fun x hx hn=>absurd (Qg.2 hx) hn⟩
 unfold F.qdv
 rw [qas,qcc h1,bB,qas,qcc h2,bB,qas,qcc h3,bB]
 rcases hc ov with e2 | ⟨o,ho,e2⟩
 ·
  rw [e2,dT rfl,Qi,kF]
  unfold F.qcl
  rw [kF,dT rfl,Qi,kF,hall]
  rw [e2] at hz
  exact hz
 ·
  rw [e2,dF (by omega),Qz,kT]
  unfold F.qcl
  rcases hc fr with e1 | ⟨f,hf,e1⟩
  ·
   rw [e1,dT rfl,Qi,kF,dF (by omega),Qz,kT]
   rcases hc to with e3 | ⟨t,ht,e3⟩
   ·
    rw [e3,dT rfl,Qi,hall]
    rw [e2,e1,e3] at hz
    exact hz
   ·
    rw [e3,dF (by omega),Qz]
    unfold F.qby
    obtain ⟨i,hi,hti⟩:=Q.sur ho ht
    obtain ⟨row,r1,r2,r3⟩:=Q.z i o hi ho
    rw [hti] at r1
    rw [kT,qas,r1,bB,qal (by omega) (by omega),bB,cut_ok (by omega) (by omega) (by rw [r2]; omega),bB,cut_one r3]
    refine ⟨[i],rfl,by simp,by simp,fun x hx=>by rw [Qq.1 hx]; exact hi,fun x hx hn=>.inr ⟨by omega,rfl,by omega,fun q9=>hn ?_⟩⟩
    rw [Qb,Qb] at q9
    rw [Qq]
    exact Q.inj x i o hx hi ho (q9.trans hti.symm)
  ·
   rw [e1,dF (by omega),Qz,kT,qas,Q.t f hf,bB,qal (by omega) (by omega),bB,cut_ok (by omega) (by omega) (by rw [li_len]; omega),bB,cut_one (li_at ho)]
   refine ⟨[tb f o],rfl,by simp,by simp,fun x hx=>by rw [Qq.1 hx]; exact Q.lt f o hf ho,fun x hx hn=>.inl ⟨by omega,by omega,fun q9=>hn ?_⟩⟩
   rw [Qb,Qb] at q9
   rw [Qq]
   exact q9
end
end Wm
end Go.Proofs.YtpnppjlnfhlmpaaGreat

set_option linter.all false
namespace Go.Proofs.YtpnppjlnfhlmpaaGreat
open Ev
namespace Wm
open Gar Pg
def key (after:List Nat) (f:Nat→Nat):List UInt8:=after.map fun a=>UInt8.ofNat (f a)
def phi (tb:Nat→Nat→Nat) (fr ov to:Nat) (after:List Nat) (k:List UInt8) (f:Nat→Nat):Nat:=if tb (f fr) (f ov)=f to∧key after f=k then 1 else 0
def Nn (q:Nat) (tb:Nat→Nat→Nat) (fr ov to:Nat) (after:List Nat) (c:Nat→Int) (k:List UInt8):Nat:=S q (un c [ov,fr,to]) (phi tb fr ov to after k) (nat c)
theorem iL_self (l:List Int):l=iL l.length fun j=>l.getD j 0:=by
 apply Qw
 intro j
 rcases Xf j l.length with h | h
 · rw [qcc h,Qc,gE h]; rfl
 · rw [Qk h,Qk (by rw [iL_len]; exact h)]
theorem text_run {self:Int→Int→Int→(List Int)→(List (Int×(Int×Int)))→Int→(List (List Int))→(List (List Int))→(List Int)→(List Int)→(List ((List UInt8)×Int))→Int→Option ((List Int)×(List Int)×(List ((List UInt8)×Int)))}
  {c:Nat→Int} {K:Nat} {after:List Nat} (ha: ∀a∈after,a<K) {text:List Int} (ht:text.length=after.length) (m:Nat) (hm:after.length<m) (hl:after.length≤1000):
  loopN m (F.qbm self m (iL K c) (iz after)) (0,text)=some ((after.length:Int),after.map fun a=>w8 (c a)):=by
 have h0:((0:Int),text)=(fun i:Nat=>((i:Int),iL after.length fun j=>if j<i then w8 (c (after.getD j 0)) else text.getD j 0)) 0:=by
  dsimp only
  rw [show ((0:Nat):Int)=0 from rfl]
  congr 1
  conv=>lhs; rw [iL_self text,ht]
  exact qcv fun j _=>by rw [if_neg (by omega)]
 rw [h0,qba (body:=F.qbm self m (iL K c) (iz after)) (fun i:Nat=>((i:Int),iL after.length fun j=>if j<i then w8 (c (after.getD j 0)) else text.getD j 0)) after.length (fun i hi=>by
  unfold F.qbm
  dsimp only
  rw [qeo,dT (by omega),kT,qas,iz_at hi,bB,qas,qcc (ha _ (Qj hi)),bB,qas,qcc hi,bB,qal (by omega) (by omega),bB,Qb,iL_set]
  rw [show ((i:Int)+1)=((i+1:Nat):Int) by omega]
  congr 3
  refine qcv fun j hj=>?_
  by_cases e:j=i
  ·
   subst e
   rw [if_pos rfl,if_pos (by omega),Qc,gE hj]; rfl
  ·
   rw [if_neg e]
   by_cases e2:j<i
   · rw [if_pos e2,if_pos (by omega)]
   · rw [if_neg e2,if_neg (by omega)]) (r:=((after.length:Int),iL after.length fun j=>if j<after.length then w8 (c (after.getD j 0)) else text.getD j 0)) (by
  unfold F.qbm
  dsimp only
  rw [qeo,dF (by omega),kF]) m hm]
 congr 2
 apply Qw
 intro j
 rcases Xf j after.length with h | h
 · rw [qcc h,if_pos h,Qm,gE h,Qc,gE h]; rfl
 · rw [Qk (by rw [iL_len]; exact h),Qk (by rw [Qu]; exact h)]
section
variable {q : Nat} {tb : Nat → Nat → Nat} {T Z : List (List Int)} (Q : Qt q tb T Z)
include Q
theorem try_run {fr ov to K:Nat} (h1:fr<K) (h2:ov<K) (h3:to<K) (rels:List (Int×(Int×Int))) (kI:Int) {after:List Nat} (hl:after.length≤1000) (haK: ∀a∈after,a<K) {num:Nat} (hnum:num≤M1):
  ∀(j:Nat) (c:Nat→Int) (text:List Int) (res:Mp) (m:Nat),(un c [ov,fr,to]).length=j→j+2000≤m→Cok q c→text.length=after.length→Ok res→(∀a∈after,c a≠-1∨a∈[ov,fr,to])→
  ∃text' res',F.qau m (fr:Int) (ov:Int) (to:Int) (iL K c) rels kI T Z (iz after) text res (num:Int)=some (iL K c,text',res')∧text'.length=after.length∧Ok res'∧
   (∀k,vl res' k=sat (vl res k+num*Nn q tb fr ov to after c k))∧(∀k,k∈res'.map (·.1)↔k∈res.map (·.1)∨0<Nn q tb fr ov to after c k):=by
 have hq1:=Q.q1; have hq2:=Q.q2
 intro j
 induction j with
 | zero=>
  intro c text res m hj hm hc ht hr ha
  obtain ⟨m,rfl⟩: ∃m',m=m'+1:=⟨m-1,by omega⟩
  have hun:un c [ov,fr,to]=[]:=Zf hj
  have set: ∀a∈[ov,fr,to],c a≠-1:=fun a h e=>by
   have:=un_mem.2 ⟨h,e⟩
   rw [hun] at this; cases this
  have so:=set ov (by simp); have sf:=set fr (by simp); have st:=set to (by simp)
  obtain ⟨o,ho,eo⟩:=(hc ov).resolve_left so
  obtain ⟨f,hf,ef⟩:=(hc fr).resolve_left sf
  obtain ⟨t,htq,et⟩:=(hc to).resolve_left st
  have hN: ∀k,Nn q tb fr ov to after c k=if tb f o=t∧key after (nat c)=k then 1 else 0:=fun k=>by
   unfold Nn
   rw [hun]
   show phi tb fr ov to after k (nat c)=_
   unfold phi
   rw [show nat c fr=f by unfold nat; rw [ef]; rfl,show nat c ov=o by unfold nat; rw [eo]; rfl,show nat c to=t by unfold nat; rw [et]; rfl]
  have hloop:=qba (body:=F.qbe (F.qau m) m (fr:Int) (ov:Int) (to:Int) (iL K c) rels kI T Z (iz after) text res (num:Int)) (fun i:Nat=>(i:Int)) 3 (fun i hi=>by
   have hi':i<([ov,fr,to]:List Nat).length:=hi
   have hK:([ov,fr,to]:List Nat)[i]<K:=by
    have:=Qj hi'
    rcases Qp.1 this with e | e
    · rw [e]; exact h2
    rcases Qp.1 e with e | e
    · rw [e]; exact h1
    · rw [Qq.1 e]; exact h3
   have hne:=set _ (Qj hi')
   unfold F.qbe
   dsimp only
   rw [dT (by omega),kT,show ([(ov:Int),(fr:Int),(to:Int)]:List Int)=iz [ov,fr,to] from rfl,qas,iz_at hi',bB,qas,qcc hK,bB,dF hne,Qz,kT,qal (by omega) (by omega),bB]
   rfl) (r:=.inl 3) (by
   unfold F.qbe
   dsimp only
   rw [dF (by omega),kF]
   rfl) m (by omega)
  have hloop2:loopN m (F.qbe (F.qau m) m (fr:Int) (ov:Int) (to:Int) (iL K c) rels kI T Z (iz after) text res (num:Int)) 0=some (.inl 3):=hloop
  rw [F.qau,hloop2,bB]
  dsimp only
  rw [qas,qcc h1,bB,ef,qas,Q.t f hf,bB,qas,qcc h2,bB,eo,qas,li_at ho,bB,qas,qcc h3,bB,et]
  by_cases e:tb f o=t
  ·
   rw [dT (by omega),Qi,kF,text_run haK ht m (by omega) hl,bB]
   dsimp only
   have hkey:(after.map fun a=>w8 (c a)).map b8=key after (nat c):=by
    unfold key
    rw [Yu]
    refine Xd fun a haa=>?_
    have hca:c a≠-1:=(ha a haa).elim id (set a)
    obtain ⟨x,hx,ex⟩:=(hc a).resolve_left hca
    show b8 (w8 (c a))=UInt8.ofNat (nat c a)
    unfold nat
    rw [ex]
    have:w8 (x:Int)=(x:Int):=by unfold w8; omega
    rw [this]; rfl
   obtain ⟨p1,p2⟩:=hr.get (key after (nat c))
   obtain ⟨r1,r2,r3⟩:=hr.put (key after (nat c)) hnum
   rw [hkey,bB,p1,qal (by unfold M1 at p2; omega) (by unfold M1 at p2 hnum; omega),bB]
   refine ⟨_,_,rfl,by rw [Qu],r1,fun k=>?_,fun k=>?_⟩
   ·
    rw [r2,hN]
    by_cases ek:key after (nat c)=k
    · rw [if_pos ek.symm,if_pos ⟨e,ek⟩,ek,Zj]
    ·
     rw [if_neg fun z=>ek z.symm,if_neg fun z=>ek z.2,Zq,Yw]
     have:=(hr.get k).2
     unfold sat; omega
   ·
    rw [r3,hN]
    by_cases ek:key after (nat c)=k
    ·
     rw [if_pos ⟨e,ek⟩]
     exact ⟨fun _=>.inr (by omega),fun _=>.inr ek.symm⟩
    ·
     rw [if_neg fun z=>ek z.2]
     exact ⟨fun z=>z.elim .inl fun z=>absurd z.symm ek,fun z=>z.elim .inl fun z=>by omega⟩
  ·
   rw [dF (by omega),Qz,kT]
   refine ⟨_,_,rfl,ht,hr,fun k=>?_,fun k=>?_⟩
   ·
    rw [hN,if_neg fun z=>e z.1,Zq,Yw]
    have:=(hr.get k).2
    unfold sat; omega
   ·
    rw [hN,if_neg fun z=>e z.1]
    exact ⟨.inl,fun z=>z.elim id fun z=>by omega⟩
 | succ j ih=>
  intro c text res m hj hm hc ht hr ha
  obtain ⟨m,rfl⟩: ∃m',m=m'+1:=⟨m-1,by omega⟩
  have main: ∃text' res',loopN m (F.qbe (F.qau m) m (fr:Int) (ov:Int) (to:Int) (iL K c) rels kI T Z (iz after) text res (num:Int)) 0=some (.inr (iL K c,text',res'))∧text'.length=after.length∧Ok res'∧
   (∀k,vl res' k=sat (vl res k+num*Nn q tb fr ov to after c k))∧(∀k,k∈res'.map (·.1)↔k∈res.map (·.1)∨0<Nn q tb fr ov to after c k):=by
   obtain ⟨r,hr1,hr2⟩:=qbq (body:=F.qbe (F.qau m) m (fr:Int) (ov:Int) (to:Int) (iL K c) rels kI T Z (iz after) text res (num:Int))
    (fun s=> ∃i:Nat,i≤3∧s=(i:Int)∧∀a∈([ov,fr,to]:List Nat).take i,c a≠-1) (fun s=>3-s.toNat)
    (fun r=> ∃text' res',r=.inr (iL K c,text',res')∧text'.length=after.length∧Ok res'∧(∀k,vl res' k=sat (vl res k+num*Nn q tb fr ov to after c k))∧(∀k,k∈res'.map (·.1)↔k∈res.map (·.1)∨0<Nn q tb fr ov to after c k)) (by
    rintro s ⟨i,hi,rfl,hset⟩
    have hi3:i<3:=by
     rcases Xf i 3 with h | h
     · exact h
     ·
      exfalso
      have:un c [ov,fr,to]=[]:=by
       apply Zc.2
       intro a h9
       obtain ⟨g1,g2⟩:=un_mem.1 h9
       refine hset a ?_ g2
       rw [Xo (by simp; omega)]; exact g1
      rw [this] at hj; cases hj
    have hi':i<([ov,fr,to]:List Nat).length:=hi3
    have hK:([ov,fr,to]:List Nat)[i]<K:=by
     have:=Qj hi'
     rcases Qp.1 this with e | e
     · rw [e]; exact h2
     rcases Qp.1 e with e | e
     · rw [e]; exact h1
     · rw [Qq.1 e]; exact h3
    unfold F.qbe
    dsimp only
    rw [dT (by omega),kT,show ([(ov:Int),(fr:Int),(to:Int)]:List Int)=iz [ov,fr,to] from rfl,qas,iz_at hi',bB,qas,qcc hK,bB]
    by_cases hne:c ([ov,fr,to]:List Nat)[i]=-1
    rotate_left
    ·
     left
     rw [dF hne,Qz,kT,qal (by omega) (by omega),bB]
     refine ⟨_,rfl,⟨i+1,hi3,by omega,fun a h9=>?_⟩,by omega⟩
     rw [Xc,gE hi'] at h9
     rcases Qs.1 h9 with h9 | h9
     · exact hset a h9
     ·
      have:a=([ov,fr,to]:List Nat)[i]:=by simpa using h9
      rw [this]; exact hne
    right
    obtain ⟨l,c1,c2,c3,c4,c5⟩:=choices_run Q hc h1 h2 h3 rels kI ((([ov,fr,to]:List Nat)[i]:Nat):Int) m (by omega)
    have hfst: ∀x:Nat,un c [ov,fr,to]=([ov,fr,to]:List Nat)[i]::un (updc c ([ov,fr,to]:List Nat)[i] (x:Int)) [ov,fr,to]:=fun x=>un_first (by omega) hi' hset hne
    generalize ha0:([ov,fr,to]:List Nat)[i]=a0 at*
    have ha3:a0∈([ov,fr,to]:List Nat):=ha0▸Qj hi'
    have hNs: ∀k,Nn q tb fr ov to after c k=sm l fun x=>Nn q tb fr ov to after (updc c a0 (x:Int)) k:=fun k=>by
     have e1:Nn q tb fr ov to after c k=sm (List.range q) fun x=>Nn q tb fr ov to after (updc c a0 (x:Int)) k:=by
      unfold Nn
      rw [hfst 0]
      show sm _ _=_
      refine qfk fun x _=>?_
      have e2:un (updc c a0 ((0:Nat):Int)) [ov,fr,to]=un (updc c a0 (x:Int)) [ov,fr,to]:=by
       have:=(hfst 0).symm.trans (hfst x)
       exact (List.cons.inj this).2
      rw [nat_updc,e2]
     rw [e1]
     have p:(List.range q).Perm (l++(List.range q).filter fun x=>decide (x∉l)):=by
      refine Yp.2 fun e=>?_
      rw [List.count_append,Yc.count,c2.count,(show ((List.range q).filter fun x=>decide (x∉l)).Nodup from Yc.filter _).count]
      by_cases z:e∈l
      · rw [if_pos z,if_pos (Qg.2 (c4 e z)),if_neg (by simp [z])]
      ·
       rw [if_neg z]
       by_cases z2:e∈List.range q
       · rw [if_pos z2,if_pos (Qx.2 ⟨z2,by simpa using z⟩)]
       · rw [if_neg z2,if_neg fun z3=>z2 (Qx.1 z3).1]
     rw [sm_perm p,sm_app,sm_zero (l:=(List.range q).filter fun x=>decide (x∉l)) fun x hx=>?_]
     · rfl
     ·
      obtain ⟨x1,x2⟩:=Qx.1 hx
      have hxq:=Qg.1 x1
      unfold Nn
      rw [qfn (ψ:=fun _=>0) fun g g1 g2=>?_,S_const]
      · simp
      ·
       unfold phi
       refine if_neg fun z=>?_
       have gk: ∀b,updc c a0 (x:Int) b≠-1→g b=nat (updc c a0 (x:Int)) b:=fun b hb=>g1 b fun z9=>hb (un_mem.1 z9).2
       rcases c5 x hxq (by simpa using x2) with ⟨k1,k2,k3⟩ | ⟨k1,k2,k3,k4⟩
       ·
        have hf0:fr≠a0:=fun q9=>k1 (q9▸hne)
        have ho0:ov≠a0:=fun q9=>k2 (q9▸hne)
        have ht0:to=a0:=by
         rcases Qp.1 ha3 with e | e
         · exact absurd e.symm ho0
         rcases Qp.1 e with e | e
         · exact absurd e.symm hf0
         · exact (Qq.1 e).symm
        have u1:updc c a0 (x:Int) fr=c fr:=if_neg hf0
        have u2:updc c a0 (x:Int) ov=c ov:=if_neg ho0
        have u3:updc c a0 (x:Int) to=x:=if_pos ht0
        have z1:=z.1
        rw [gk fr (by rw [u1]; exact k1),gk ov (by rw [u2]; exact k2),gk to (by rw [u3]; omega)] at z1
        unfold nat at z1
        rw [u1,u2,u3,Qb] at z1
        exact k3 z1.symm
       ·
        have ho0:ov≠a0:=fun q9=>k1 (q9▸hne)
        have ht0:to≠a0:=fun q9=>k3 (q9▸hne)
        have hf0:fr=a0:=by
         rcases Qp.1 ha3 with e | e
         · exact absurd e.symm ho0
         rcases Qp.1 e with e | e
         · exact e.symm
         · exact absurd (Qq.1 e).symm ht0
        have u1:updc c a0 (x:Int) fr=x:=if_pos hf0
        have u2:updc c a0 (x:Int) ov=c ov:=if_neg ho0
        have u3:updc c a0 (x:Int) to=c to:=if_neg ht0
        have z1:=z.1
        rw [gk fr (by rw [u1]; omega),gk ov (by rw [u2]; exact k1),gk to (by rw [u3]; exact k3)] at z1
        unfold nat at z1
        rw [u1,u2,u3,Qb] at z1
        exact k4 z1
    have hupd2: ∀(v w:Int),updc (updc c a0 v) a0 w=updc c a0 w:=fun v w=>by
     funext b
     unfold updc
     split<;>rfl
    have hself:updc c a0 (-1)=c:=by
     funext b
     unfold updc
     split
     · rename_i e; rw [e,hne]
     · rfl
    rw [dT hne,Qi,kF,c1,bB]
    dsimp only
    have hlen: ∀x:Nat,x<q→(un (updc c a0 (x:Int)) [ov,fr,to]).length=j:=fun x _=>by
     have:=hfst x
     have h9:=congrArg List.length this
     rw [hj,Xe] at h9
     omega
    obtain ⟨o,o1,o2⟩:=qbq (body:=F.qcs (F.qau m) m (fr:Int) (ov:Int) (to:Int) rels kI T Z (iz after) (num:Int) (a0:Int) (iz l,iL K c))
     (fun s=> ∃i:Nat,i≤l.length∧s.1=(i:Int)∧(∃v:Int,s.2.1=iL K (updc c a0 v))∧s.2.2.1.length=after.length∧Ok s.2.2.2∧(∀k,vl s.2.2.2 k=sat (vl res k+num*sm (l.take i) fun x=>Nn q tb fr ov to after (updc c a0 (x:Int)) k))∧(∀k,k∈s.2.2.2.map (·.1)↔k∈res.map (·.1)∨0<sm (l.take i) fun x=>Nn q tb fr ov to after (updc c a0 (x:Int)) k))
     (fun s=>l.length-s.1.toNat)
     (fun s=>(∃v:Int,s.2.1=iL K (updc c a0 v))∧s.2.2.1.length=after.length∧Ok s.2.2.2∧(∀k,vl s.2.2.2 k=sat (vl res k+num*sm l fun x=>Nn q tb fr ov to after (updc c a0 (x:Int)) k))∧(∀k,k∈s.2.2.2.map (·.1)↔k∈res.map (·.1)∨0<sm l fun x=>Nn q tb fr ov to after (updc c a0 (x:Int)) k)) (by
     rintro ⟨s1,s2,s3,s4⟩ ⟨i,hi,e1,⟨v,e2⟩,e3,e4,e5,e6⟩
     dsimp only at e1 e2 e3 e4 e5 e6
     subst e1 e2
     unfold F.qcs
     dsimp only
     rw [qeo]
     by_cases hlt:i<l.length
     ·
      left
      have hx:=c4 _ (Qj hlt)
      obtain ⟨text',res',t1,t2,t3,t4,t5⟩:=ih (updc c a0 (l[i]:Int)) s3 s4 m (hlen _ hx) (by omega) (hc.upd a0 hx) e3 e4 (fun a haa=>by
       by_cases ea:a=a0
       · exact .inl (by unfold updc; rw [if_pos ea]; omega)
       · unfold updc; rw [if_neg ea]; exact ha a haa)
      rw [dT (by omega),kT,qas,iz_at hlt,bB,qas,qcc hK,bB,Qb,iL_set,show (fun j=>if j=a0 then ((l[i]:Nat):Int) else updc c a0 v j)=updc c a0 (l[i]:Int) from hupd2 v ((l[i]:Nat):Int),t1,bB,qal (by omega) (by omega),bB]
      have htk:l.take (i+1)=l.take i++[l[i]]:=by rw [Xc,gE hlt]; rfl
      refine ⟨_,rfl,⟨i+1,hlt,by dsimp only; omega,⟨_,rfl⟩,t2,t3,fun k=>?_,fun k=>?_⟩,by dsimp only; omega⟩
      ·
       dsimp only
       rw [t4,e5,htk,sm_app,qeh,sm_nil,Yw,sat_addl,Nat.mul_add,Z0]
      ·
       dsimp only
       rw [t5,e6,htk,sm_app,qeh,sm_nil,Yw]
       constructor
       ·
        rintro ((z | z) | z)
        · exact .inl z
        · exact .inr (by omega)
        · exact .inr (by omega)
       ·
        rintro (z | z)
        · exact .inl (.inl z)
        ·
         by_cases z2:0<Nn q tb fr ov to after (updc c a0 (l[i]:Int)) k
         · exact .inr z2
         · exact .inl (.inr (by omega))
     ·
      right
      have:i=l.length:=by omega
      subst this
      rw [Xl] at e5 e6
      rw [dF (by omega),kF]
      exact ⟨_,rfl,⟨v,rfl⟩,e3,e4,e5,e6⟩) m (0,iL K c,text,res) ⟨0,Xk _,rfl,⟨-1,by rw [hself]⟩,ht,hr,fun k=>by
       dsimp only
       rw [Zi,sm_nil,Zq,Yw]
       have:=(hr.get k).2
       unfold sat; omega,fun k=>by
       dsimp only
       rw [Zi,sm_nil]
       exact ⟨.inl,fun z=>z.elim id fun z=>by omega⟩⟩ (by dsimp only; omega)
    obtain ⟨s1,s2,s3,s4⟩:=o
    obtain ⟨⟨v,p1⟩,p2,p3,p4,p5⟩:=o2
    dsimp only at p1 p2 p3 p4 p5
    subst p1
    rw [o1,bB]
    dsimp only
    rw [qas,qcc hK,bB,Qb,iL_set,show (fun j=>if j=a0 then (-1:Int) else updc c a0 v j)=c from (hupd2 v (-1)).trans hself]
    refine ⟨_,rfl,s3,s4,rfl,p2,p3,fun k=>by rw [p4,hNs],fun k=>by rw [p5,hNs]⟩) m 0 ⟨0,Xk _,rfl,fun a h9=>by cases h9⟩ (by show 3-(0:Int).toNat<m; omega)
   obtain ⟨text',res',e,hrest⟩:=hr2
   exact ⟨text',res',by rw [hr1,e],hrest⟩
  obtain ⟨text',res',e1,hrest⟩:=main
  refine ⟨text',res',?_,hrest⟩
  rw [F.qau,e1,bB]
