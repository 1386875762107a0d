import Derived.Test.YteajmbanlohncaaPQsph
import Derived.Test.YteajmbanlohncaaPQfew
set_option linter.unusedVariables false
set_option linter.unusedSimpArgs false
namespace Go.Proofs.Yteajmbanlohncaa
open Ev
namespace Pg
theorem cls_eq_of {N:Nat} {adj adj':Nat→Nat→Prop} (hs: ∀a b,adj a b→adj b a) (hs': ∀a b,adj' a b→adj' b a) (f g:Nat→Nat) (hf: ∀a,a<N→f a<N) (hg: ∀a,a<N→g a<N) (fg: ∀a,a<N→f (g a)=a) (gf: ∀a,a<N→g (f a)=a)
  (h1: ∀a b,adj a b→Cn adj' (f a) (f b)) (h2: ∀a b,adj' a b→Cn adj (g a) (g b)):cls N adj=cls N adj':=by
 apply Nat.le_antisymm
 ·
  refine cls_le_of hs hs' f hf fun a b ha hb h=>?_
  have:=Cn.map (f:=g) h2 h
  rwa [gf a ha,gf b hb] at this
 ·
  refine cls_le_of hs' hs g hg fun a b ha hb h=>?_
  have:=Cn.map (f:=f) h1 h
  rwa [fg a ha,fg b hb] at this
structure Tau (τ σ:Nat→Nat):Prop where
 q: ∀h,τ h/ 4=h/ 4
 q': ∀h,σ h/ 4=h/ 4
 l: ∀h,σ (τ h)=h
 r: ∀h,τ (σ h)=h
theorem Tau.lt {τ σ:Nat→Nat} (t:Tau τ σ) {h n:Nat} (hh:h<4*n):τ h<4*n:=by have:=t.q h; omega
theorem Tau.lt' {τ σ:Nat→Nat} (t:Tau τ σ) {h n:Nat} (hh:h<4*n):σ h<4*n:=by have:=t.q' h; omega
theorem parts_mir {n:Nat} {μ μ' τ σ:Nat→Nat} (h:IV n μ) (h':IV n μ') (t:Tau τ σ) (hm: ∀k,k<4*n→μ' (τ k)=τ (μ k)):cls n (adjP n μ')=cls n (adjP n μ):=by
 refine cls_congr fun x y hx hy=>⟨fun q=>Cn.map (f:=id) (fun c d hcd=>Cn.one ?_) q,fun q=>Cn.map (f:=id) (fun c d hcd=>Cn.one ?_) q⟩
 ·
  obtain ⟨h1,h2,s,hs,h3⟩:=hcd
  have e:=hm (σ (4*c+s)) (t.lt' (by omega))
  rw [t.r] at e
  refine ⟨h1,h2,σ (4*c+s)%4,by omega,?_⟩
  have hq:=t.q' (4*c+s)
  show μ (4*c+σ (4*c+s)%4)/ 4=d
  rw [show 4*c+σ (4*c+s)%4=σ (4*c+s) from by omega,←t.q,←e,h3]
 ·
  obtain ⟨h1,h2,s,hs,h3⟩:=hcd
  have e:=hm (4*c+s) (by omega)
  refine ⟨h1,h2,τ (4*c+s)%4,by omega,?_⟩
  have hq:=t.q (4*c+s)
  show μ' (4*c+τ (4*c+s)%4)/ 4=d
  rw [show 4*c+τ (4*c+s)%4=τ (4*c+s) from by omega,e,t.q,h3]
theorem faces_turn {n:Nat} {μ μ' τ σ:Nat→Nat} (h:IV n μ) (h':IV n μ') (t:Tau τ σ) (hm: ∀k,k<4*n→μ' (τ k)=τ (μ k)) (hturn: ∀k,turnN (τ k) 3=τ (turnN k 3)):cls (4*n) (adjF n μ')=cls (4*n) (adjF n μ):=by
 have hfc: ∀k,k<4*n→fc μ' (τ k)=τ (fc μ k):=fun k hk=>by unfold fc; rw [hm k hk,hturn]
 refine (cls_eq_of adjF_symm adjF_symm τ σ (fun a ha=>t.lt ha) (fun a ha=>t.lt' ha) (fun a _=>t.r a) (fun a _=>t.l a) (fun a b hab=>?_) (fun a b hab=>?_)).symm
 ·
  obtain ⟨h1,h2,h3⟩:=hab
  refine Cn.one ⟨t.lt h1,t.lt h2,?_⟩
  rcases h3 with h3 | h3
  · left; rw [hfc a h1,h3]
  · right; rw [hfc b h2,h3]
 ·
  obtain ⟨h1,h2,h3⟩:=hab
  refine Cn.one ⟨t.lt' h1,t.lt' h2,?_⟩
  have e1:=hfc (σ a) (t.lt' h1)
  have e2:=hfc (σ b) (t.lt' h2)
  rw [t.r] at e1 e2
  rcases h3 with h3 | h3
  · left; rw [h3,e1,t.l]
  · right; rw [h3,e2,t.l]
theorem turn_q (h k:Nat):turnN h k/ 4=h/ 4:=by unfold turnN; omega
theorem moves_loop {n:Nat} {M:List Int} {μ:Nat→Nat} (hM:MT (4*n) M μ) (hn:n≤64) {τ σ:Nat→Nat} (t:Tau τ σ) (mv:Int→Option Int) (hmv: ∀h,h<4*n→mv (h:Int)=some ((τ h:Nat):Int)) (body:Int×List Int→Option ((Int×List Int)⊕(Int×List Int)))
  (hb: ∀v q,body (v,q)=cond (decide (v<(M.length:Int))) ((Ev.get M v).bind fun x=>(mv v).bind fun y=>(mv x).bind fun z=>(Ev.get q y).bind fun u=>(chk (v+1)).bind fun c=>some (.inl (c,q.set y.toNat z))) (some (.inr (v,q)))) (m:Nat) (hm:300<m):
  loopN m body (0,List.replicate (M.length:Int).toNat (0:Int))=some ((M.length:Int),iL (4*n) (fun j=>(τ (μ (σ j)):Int))):=by
 have hl:=hM.1
 have h0:((0:Int),List.replicate (M.length:Int).toNat (0:Int))=(fun k:Nat=>((k:Int),iL (4*n) (fun j=>if σ j<k then (τ (μ (σ j)):Int) else 0))) 0:=by
  rw [Int.toNat_natCast,iL_rep,hl]; rfl
 rw [h0,hl]
 refine count_loop (fun k:Nat=>((k:Int),iL (4*n) (fun j=>if σ j<k then (τ (μ (σ j)):Int) else 0))) (4*n) (fun k hk=>?_) ?_ m (by omega)
 ·
  obtain ⟨q1,q2,_,_⟩:=hM.2 k hk
  rw [hb,dT (by omega),kT,get_nat,q1,bB,hmv k hk,bB,hmv _ q2,bB,get_nat,iL_get (t.lt hk),bB,chk_ok (by omega) (by omega),bB,Int.toNat_natCast,iL_set]
  rw [show ((k:Int)+1)=((k+1:Nat):Int) from by omega]
  congr 3
  refine iL_congr fun j hj=>?_
  by_cases e:j=τ k
  · subst e; rw [if_pos rfl,t.l,if_pos (by omega)]
  ·
   have hne:σ j≠k:=fun h=>e (by rw [←h,t.r])
   rw [if_neg e]
   by_cases h:σ j<k
   · rw [if_pos h,if_pos (by omega)]
   · rw [if_neg h,if_neg (by omega)]
 ·
  rw [hb,dF (by omega),kF]
  congr 3
  refine iL_congr fun j hj=>by rw [if_pos (t.lt' hj)]
theorem turn2 (h:Nat) (hh:h≤1000000) (n:Nat):F.diagram_Turn n (h:Int) 2=some ((turnN h 2:Nat):Int):=by
 have e1:Int.tmod (h:Int) 4=((h%4:Nat):Int):=Int.ofNat_tmod h 4
 have e2:Int.tmod 2 4=2:=by decide
 have e3:Int.tmod (((h%4:Nat):Int)+2+4) 4=(((h%4+2)%4:Nat):Int):=by
  rw [show ((h%4:Nat):Int)+2+4=((h%4+6:Nat):Int) from by omega]
  rw [show (4:Int)=((4:Nat):Int) from rfl,←Int.ofNat_tmod]
  omega
 unfold F.diagram_Turn turnN
 rw [dF (by omega),kF,nz_ok (by decide),bB,e1,chk_ok (by omega) (by omega),bB,bB,bB,e2,chk_ok (by omega) (by omega),bB,chk_ok (by omega) (by omega),bB,bB,e3,chk_ok (by omega) (by omega),bB]
 congr 1
 omega
def rv (h:Nat):Nat:=turnN h 2
theorem rv_tau:Tau rv rv:=by
 constructor<;>(intro h; unfold rv turnN; omega)
theorem rv_turn (k:Nat):turnN (rv k) 3=rv (turnN k 3):=by unfold rv turnN; omega
theorem move_rv {h:Nat} (hh:h≤1000) (n:Nat):F.mirror_move_c1_v3 n (h:Int)=some ((rv h:Nat):Int):=by
 have e1:Int.tdiv (h:Int) 4=((h/ 4:Nat):Int):=Int.ofNat_tdiv h 4
 unfold F.mirror_move_c1_v3 F.mirror_Reverse_c1 rv
 rw [nz_ok (by decide),bB,e1,chk_ok (by omega) (by omega),bB,bB,bB,turn2 h (by omega) n,bB]
theorem same_list {sg:List Int}:sg=iL sg.length (fun c=>sg.getD c 0):=by
 apply List.ext_getElem?
 intro j
 by_cases hj:j<sg.length
 · rw [gE hj,iL_get hj,getD_of' hj]
 · rw [List.getElem?_eq_none (by omega),List.getElem?_eq_none (by rw [iL_len]; omega)]
theorem signs_loop1 {sg:List Int} (hs: ∀s∈sg,s=1∨s=-1) (hl:sg.length≤64) (body:Int×List Int→Option ((Int×List Int)⊕(Int×List Int)))
  (hb: ∀v q,body (v,q)=cond (decide (v<(sg.length:Int))) ((Ev.get sg v).bind fun x=>(chk (x*1)).bind fun z=>(Ev.get q v).bind fun y=>(chk (v+1)).bind fun u=>some (.inl (u,q.set v.toNat z))) (some (.inr (v,q)))) (n:Nat) (hn:100<n):
  loopN n body (0,List.replicate (sg.length:Int).toNat (0:Int))=some ((sg.length:Int),sg):=by
 have h0:((0:Int),List.replicate (sg.length:Int).toNat (0:Int))=(fun k:Nat=>((k:Int),iL sg.length (fun c=>if c<k then (sg.getD c 0) else 0))) 0:=by
  rw [Int.toNat_natCast,iL_rep]; rfl
 rw [h0]
 conv=>rhs; rw [same_list (sg:=sg),iL_len]
 refine count_loop (fun k:Nat=>((k:Int),iL sg.length (fun c=>if c<k then (sg.getD c 0) else 0))) sg.length (fun k hk=>?_) ?_ n (by omega)
 ·
  have:=hs _ (List.getElem_mem hk)
  rw [hb,dT (by omega),kT,get_nat,gE hk,bB,chk_ok (by omega) (by omega),bB,get_nat,iL_get hk,bB,chk_ok (by omega) (by omega),bB,Int.toNat_natCast,iL_set]
  rw [show ((k:Int)+1)=((k+1:Nat):Int) from by omega]
  congr 3
  refine iL_congr fun j hj=>?_
  by_cases e:j=k
  · subst e; rw [if_pos rfl,if_pos (by omega),getD_of' hk]; omega
  ·
   rw [if_neg e]
   by_cases h:j<k
   · rw [if_pos h,if_pos (by omega)]
   · rw [if_neg h,if_neg (by omega)]
 ·
  rw [hb,dF (by omega),kF]
  congr 3
  refine iL_congr fun j hj=>by rw [if_pos hj]
theorem reverse_eq {sg M:List Int} {lo:Int} {μ:Nat→Nat} (D:DV sg M lo μ) (m:Nat) (hm:500<m):F.mirror_Reverse m sg M lo=some (sg,iL (4*sg.length) (fun j=>(rv (μ (rv j)):Int)),lo,0):=by
 have h64:=D.n
 have hl:=D.mt.1
 unfold F.mirror_Reverse F.mirror_move_mirror_Reverse_c1_mirror_Reverse_c2
 rw [dvalid_true D m (by omega),bB,Bool.not_true,kF,pos_ok (by omega) (by omega),bB,pos_ok (by omega) (by omega),bB]
 unfold F.mirror_move_mirror_Reverse_c1_mirror_Reverse_c2_j0
 rw [signs_loop1 D.sgn h64 _ (fun v q=>rfl) m (by omega),bB]
 dsimp only
 rw [moves_loop D.mt h64 rv_tau (fun z=>F.mirror_move_c1_v3 m z) (fun h hh=>move_rv (by omega) m) _ (fun v q=>rfl) m (by omega),bB,bB]
def mvd2 (μ τ σ:Nat→Nat) (j:Nat):Nat:=τ (μ (σ j))
theorem mt_mir {n:Nat} {M:List Int} {μ:Nat→Nat} (hM:MT (4*n) M μ) {τ σ:Nat→Nat} (t:Tau τ σ):MT (4*n) (iL (4*n) (fun j=>(τ (μ (σ j)):Int))) (mvd2 μ τ σ):=by
 refine ⟨iL_len _ _,fun h hh=>?_⟩
 obtain ⟨q1,q2,q3,q4⟩:=hM.2 (σ h) (t.lt' hh)
 refine ⟨iL_get hh,t.lt q2,?_,fun e=>q4 ?_⟩
 ·
  unfold mvd2
  rw [t.l,q3,t.r]
 ·
  unfold mvd2 at e
  have:=congrArg σ e
  rw [t.l] at this
  exact this
theorem DV.mir {sg M sg':List Int} {lo:Int} {μ τ σ:Nat→Nat} (D:DV sg M lo μ) (t:Tau τ σ) (hl:sg'.length=sg.length) (hs: ∀s∈sg',s=1∨s=-1) (b:Bool)
  (ho: ∀h,h<4*sg.length→(Outg sg' (τ h)↔(Outg sg h↔b=true))) (hf: ∀μ',IV sg.length μ'→(∀k,k<4*sg.length→μ' (τ k)=τ (μ k))→cls (4*sg.length) (adjF sg.length μ')=cls (4*sg.length) (adjF sg.length μ)):
  DV sg' (iL (4*sg.length) (fun j=>(τ (μ (σ j)):Int))) lo (mvd2 μ τ σ):=by
 have hM:=mt_mir D.mt t
 have hm: ∀k,k<4*sg.length→mvd2 μ τ σ (τ k)=τ (μ k):=fun k _=>by unfold mvd2; rw [t.l]
 have hc:=parts_mir D.mt.iv hM.iv t hm
 have hff:=hf _ hM.iv hm
 refine ⟨by rw [hl]; exact D.n,D.lo0,D.lo1,hs,by rw [hl]; exact hM,fun h hh=>?_,?_⟩
 ·
  rw [hl] at hh
  have h1:=t.lt' hh
  have h2:=(D.mt.2 _ h1).2.1
  have e1:=ho (μ (σ h)) h2
  have e2:=ho (σ h) h1
  have e3:=D.out (σ h) h1
  rw [t.r] at e2
  unfold mvd2
  rw [e1,e2,e3]
  by_cases q:Outg sg (σ h)<;>cases b<;>simp [q]
 ·
  rw [hl]
  have:=D.g0
  unfold gen2 at this⊢
  rw [hc,hff]; exact this
def Tm (π:Nat→Nat) (h:Nat):Nat:=4*π (h/ 4)+h%4
def Ch {β α:Type} (In Out:β→α):α→List β→α→Prop
 | x,[],y=>x=y
 | x,v::l,y=>x=In v∧Ch In Out (Out v) l y
section
variable {β α : Type} {In Out : β → α}
theorem Ch.app: ∀{l1 l2:List β} {x y z:α},Ch In Out x l1 y→Ch In Out y l2 z→Ch In Out x (l1++l2) z
 | [],_,x,y,z,h1,h2=>by
  have e:x=y:=h1
  rw [e]; exact h2
 | v::l,l2,x,y,z,h1,h2=>⟨h1.1,Ch.app h1.2 h2⟩
theorem Ch.split: ∀{l1 l2:List β} {x z:α},Ch In Out x (l1++l2) z→∃y,Ch In Out x l1 y∧Ch In Out y l2 z
 | [],l2,x,z,h=>⟨x,rfl,h⟩
 | v::l,l2,x,z,h=>by
  obtain ⟨y,h1,h2⟩:=Ch.split (l1:=l) h.2
  exact ⟨y,⟨h.1,h1⟩,h2⟩
theorem Ch.map {γ:Type} {f:γ→β}: ∀{l:List γ} {x y:α},Ch In Out x (l.map f) y↔Ch (fun r=>In (f r)) (fun r=>Out (f r)) x l y
 | [],x,y=>Iff.rfl
 | v::l,x,y=>and_congr Iff.rfl Ch.map
theorem Ch.next: ∀{l:List β} {x y:α},Ch In Out x l y→∀k u v,l[k]? =some u→l[k+1]? =some v→Out u=In v
 | [],x,y,h,k,u,v,h1,h2=>by simp at h1
 | [a],x,y,h,k,u,v,h1,h2=>by simp at h2
 | a::b::l,x,y,h,k,u,v,h1,h2=>by
  cases k with
  | zero=>
   simp at h1 h2
   subst h1 h2
   exact h.2.1
  | succ k=>exact Ch.next (l:=b::l) h.2 k u v (by simpa using h1) (by simpa using h2)
theorem Ch.first: ∀{l:List β} {x y:α},Ch In Out x l y→∀u,l[0]? =some u→x=In u
 | [],x,y,h,u,h1=>by simp at h1
 | a::l,x,y,h,u,h1=>by simp at h1; subst h1; exact h.1
theorem Ch.last: ∀{l:List β} {x y:α},Ch In Out x l y→∀u,l[l.length-1]? =some u→Out u=y
 | [],x,y,h,u,h1=>by simp at h1
 | [a],x,y,h,u,h1=>by
  simp at h1; subst h1
  exact h.2
 | a::b::l,x,y,h,u,h1=>Ch.last (l:=b::l) h.2 u (by simpa using h1)
theorem Ch.ring {l:List β} {x:α} (h:Ch In Out x l x) {k:Nat} (hk:k<l.length) {u v:β} (hu:l[k]? =some u) (hv:l[(k+1)%l.length]? =some v):Out u=In v:=by
 rcases Nat.lt_or_ge (k+1) l.length with q | q
 ·
  rw [Nat.mod_eq_of_lt q] at hv
  exact h.next k u v hu hv
 ·
  have:k=l.length-1:=by omega
  rw [show k+1=l.length by omega,Nat.mod_self] at hv
  rw [this] at hu
  exact (h.last u hu).trans (h.first v hv)
theorem Ch.of_next: ∀{l:List β} {x y:α},l≠[]→(∀u,l[0]? =some u→x=In u)→(∀k u v,l[k]? =some u→l[k+1]? =some v→Out u=In v)→(∀u,l[l.length-1]? =some u→Out u=y)→Ch In Out x l y
 | [],x,y,h,_,_,_=>absurd rfl h
 | [a],x,y,h,h1,h2,h3=>⟨h1 a rfl,h3 a rfl⟩
 | a::b::l,x,y,h,h1,h2,h3=>by
  refine ⟨h1 a rfl,Ch.of_next (l:=b::l) (by simp) (fun u hu=>h2 0 a u rfl (by simpa using hu)) (fun k u v hu hv=>h2 (k+1) u v (by simpa using hu) (by simpa using hv)) (fun u hu=>h3 u ?_)⟩
  simpa using hu
theorem Ch.of_ring {l:List β} (hl:l≠[]) (h: ∀k u v,k<l.length→l[k]? =some u→l[(k+1)%l.length]? =some v→Out u=In v): ∃x,Ch In Out x l x:=by
 have hp:0<l.length:=List.length_pos_iff.2 hl
 refine ⟨In l[0],Ch.of_next hl (fun u hu=>?_) (fun k u v hu hv=>?_) (fun u hu=>?_)⟩
 ·
  rw [gE hp] at hu
  rw [Option.some.inj hu]
 ·
  have hk:=(List.getElem?_eq_some_iff.1 hv).1
  exact h k u v (by omega) hu (by rw [Nat.mod_eq_of_lt hk]; exact hv)
 · exact h (l.length-1) u _ (by omega) hu (by rw [show l.length-1+1=l.length by omega,Nat.mod_self]; exact gE hp)
theorem Ch.vals {P:Nat→List β}: ∀{v:List Nat} {x z:α},v.Nodup→v≠[]→Ch In Out x (v.flatMap P) z→∃a:Nat→α,(∀c,v[0]? =some c→a c=x)∧(∀k c d,v[k]? =some c→v[k+1]? =some d→Ch In Out (a c) (P c) (a d))∧(∀c,v[v.length-1]? =some c→Ch In Out (a c) (P c) z)
 | [],x,z,_,h,_=>absurd rfl h
 | [c],x,z,_,_,h=>by
  rw [List.flatMap_cons,List.flatMap_nil,List.append_nil] at h
  refine ⟨fun _=>x,fun _ _=>rfl,fun k c d _ h2=>by simp at h2,fun d hd=>?_⟩
  simp at hd; subst hd; exact h
 | c::d::v,x,z,hn,_,h=>by
  rw [List.flatMap_cons] at h
  obtain ⟨y,h1,h2⟩:=Ch.split h
  obtain ⟨hc,hn'⟩:=List.nodup_cons.1 hn
  obtain ⟨a,a1,a2,a3⟩:=Ch.vals hn' (by simp) h2
  have hne: ∀k e,(d::v)[k]? =some e→e≠c:=fun k e he q=>hc (q▸List.mem_of_getElem? he)
  refine ⟨fun e=>if e=c then x else a e,fun e he=>?_,fun k e f he hf=>?_,fun e he=>?_⟩
  · simp at he; subst he; exact if_pos rfl
  ·
   cases k with
   | zero=>
    simp at he hf
    subst he hf
    dsimp only
    rw [if_pos rfl,if_neg (hne 0 d rfl),a1 d rfl]
    exact h1
   | succ k=>
    rw [List.getElem?_cons_succ] at he hf
    dsimp only
    rw [if_neg (hne _ _ he),if_neg (hne _ _ hf)]
    exact a2 k e f he hf
  ·
   have he':(d::v)[(d::v).length-1]? =some e:=by simpa using he
   dsimp only
   rw [if_neg (hne _ _ he')]
   exact a3 e he'
end
section
variable {β α : Type} {In Out In' Out' : β → α}
theorem Ch.congr: ∀{l:List β} {x y:α},(∀u∈l,In u=In' u∧Out u=Out' u)→Ch In Out x l y→Ch In' Out' x l y
 | [],x,y,_,h=>h
 | v::l,x,y,hl,h=>by
  obtain ⟨h1,h2⟩:=hl v (by simp)
  refine ⟨by rw [←h1]; exact h.1,?_⟩
  rw [←h2]
  exact Ch.congr (fun u hu=>hl u (by simp [hu])) h.2
theorem Ch.rev {m:α→α} {E S:β→α}: ∀{l:List β} {x y:α},(∀u∈l,m (m (S u))=S u)→Ch E (fun u=>m (S u)) x l y→Ch S (fun u=>m (E u)) (m y) l.reverse (m x)
 | [],x,y,_,h=>congrArg m (show x=y from h).symm
 | v::l,x,y,hl,h=>by
  rw [List.reverse_cons]
  refine Ch.app (Ch.rev (fun u hu=>hl u (by simp [hu])) h.2) ⟨?_,?_⟩
  · exact hl v (by simp)
  · exact congrArg m h.1.symm
end
def Cyc (nx:Nat→Nat) (v:List Nat):Prop:=v≠[]∧∀i,i<v.length→v[(i+1)%v.length]? =(v[i]?).map nx
theorem Ch.flat {β α:Type} {In Out:β→α} {P:Nat→List β} {A:Nat→α}: ∀{v:List Nat} {z:α},v≠[]→(∀k c d,v[k]? =some c→v[k+1]? =some d→Ch In Out (A c) (P c) (A d))→(∀c,v[v.length-1]? =some c→Ch In Out (A c) (P c) z)→∀c,v[0]? =some c→Ch In Out (A c) (v.flatMap P) z
 | [],z,h,_,_=>absurd rfl h
 | [a],z,_,_,h2=>fun c hc=>by
  simp at hc; subst hc
  rw [List.flatMap_cons,List.flatMap_nil,List.append_nil]
  exact h2 a rfl
 | a::b::v,z,_,h1,h2=>fun c hc=>by
  simp at hc; subst hc
  rw [List.flatMap_cons]
  refine Ch.app (h1 0 a b rfl rfl) (Ch.flat (v:=b::v) (by simp) (fun k c d hc hd=>h1 (k+1) c d (by simpa using hc) (by simpa using hd)) (fun c hc=>h2 c ?_) b rfl)
  simpa using hc
theorem flatMap_nodup {β:Type} {P:Nat→List β}: ∀{v:List Nat},v.Nodup→(∀c∈v,(P c).Nodup)→(∀c∈v,∀d∈v,∀u,u∈P c→u∈P d→c=d)→(v.flatMap P).Nodup
 | [],_,_,_=>List.nodup_nil
 | c::v,h1,h2,h3=>by
  obtain ⟨hc,hv⟩:=List.nodup_cons.1 h1
  rw [List.flatMap_cons,List.nodup_append]
  refine ⟨h2 c (by simp),flatMap_nodup hv (fun d hd=>h2 d (by simp [hd])) (fun a ha b hb u=>h3 a (by simp [ha]) b (by simp [hb]) u),fun a ha b hb e=>?_⟩
  subst e
  obtain ⟨d,hd,hu⟩:=List.mem_flatMap.1 hb
  exact hc (h3 c (by simp) d (by simp [hd]) a ha hu▸hd)
theorem len_of_same {α:Type} [DecidableEq α] {l1 l2:List α} (h1:l1.Nodup) (h2:l2.Nodup) (h: ∀a,a∈l1↔a∈l2):l1.length=l2.length:=
 Nat.le_antisymm (sub_len h1 fun a ha=>(h a).1 ha) (sub_len h2 fun a ha=>(h a).2 ha)
theorem ring_at {nx:Nat→Nat} {v:List Nat} (hv:Cyc nx v) {k c:Nat} (h:v[k]? =some c):v[(k+1)%v.length]? =some (nx c):=by
 have hk:=(List.getElem?_eq_some_iff.1 h).1
 rw [hv.2 k hk,h]; rfl
theorem ring_ch {β α:Type} {In Out:β→α} {P:Nat→List β} {nx:Nat→Nat} {v:List Nat} (hv:Cyc nx v) {A:Nat→α} (h: ∀c∈v,Ch In Out (A c) (P c) (A (nx c))): ∃x,Ch In Out x (v.flatMap P) x:=by
 have hp:0<v.length:=List.length_pos_iff.2 hv.1
 obtain ⟨c,hc⟩: ∃c,v[0]? =some c:=⟨_,gE hp⟩
 refine ⟨A c,Ch.flat hv.1 (fun k c d h1 h2=>?_) (fun d hd=>?_) c hc⟩
 ·
  have hk:=(List.getElem?_eq_some_iff.1 h2).1
  have h3:=ring_at hv h1
  rw [Nat.mod_eq_of_lt hk,h2] at h3
  rw [Option.some.inj h3]
  exact h c (List.mem_of_getElem? h1)
 ·
  have h3:=ring_at hv hd
  rw [show v.length-1+1=v.length by omega,Nat.mod_self,hc] at h3
  rw [Option.some.inj h3]
  exact h d (List.mem_of_getElem? hd)
theorem ring_vals {β α:Type} {In Out:β→α} {P:Nat→List β} {nx:Nat→Nat} {v:List Nat} (hv:Cyc nx v) (hn:v.Nodup) {x:α} (h:Ch In Out x (v.flatMap P) x): ∃a:Nat→α,∀c∈v,Ch In Out (a c) (P c) (a (nx c)):=by
 obtain ⟨a,a1,a2,a3⟩:=Ch.vals hn hv.1 h
 have hp:0<v.length:=List.length_pos_iff.2 hv.1
 refine ⟨a,fun c hc=>?_⟩
 obtain ⟨k,hk,e⟩:=List.getElem_of_mem hc
 have hc':v[k]? =some c:=by rw [gE hk,e]
 have h3:=ring_at hv hc'
 rcases Nat.lt_or_ge (k+1) v.length with q | q
 ·
  rw [Nat.mod_eq_of_lt q] at h3
  exact a2 k c _ hc' h3
 ·
  have:k=v.length-1:=by omega
  rw [show k+1=v.length by omega,Nat.mod_self] at h3
  rw [this] at hc'
  rw [a1 _ h3]
  exact a3 c hc'
theorem rings_vals {β α:Type} [Inhabited α] {In Out:β→α} {P:Nat→List β} {nx:Nat→Nat}: ∀{vs:List (List Nat)},vs.flatten.Nodup→(∀v∈vs,Cyc nx v)→(∀v∈vs,∃x,Ch In Out x (v.flatMap P) x)→∃a:Nat→α,∀c∈vs.flatten,Ch In Out (a c) (P c) (a (nx c))
 | [],_,_,_=>⟨fun _=>default,fun c hc=>absurd hc (by simp)⟩
 | v::vs,hn,hc,h=>by
  rw [List.flatten_cons,List.nodup_append] at hn
  obtain ⟨n1,n2,n3⟩:=hn
  obtain ⟨x,hx⟩:=h v (by simp)
  have hv:=hc v (by simp)
  obtain ⟨a1,h1⟩:=ring_vals hv n1 hx
  obtain ⟨a2,h2⟩:=rings_vals (vs:=vs) n2 (fun u hu=>hc u (by simp [hu])) (fun u hu=>h u (by simp [hu]))
  have closed: ∀u,Cyc nx u→∀c∈u,nx c∈u:=fun u hu c hcu=>by
   obtain ⟨k,hk,e⟩:=List.getElem_of_mem hcu
   exact List.mem_of_getElem? (ring_at hu (show u[k]? =some c by rw [gE hk,e]))
  refine ⟨fun c=>if c∈v then a1 c else a2 c,fun c hcm=>?_⟩
  rw [List.flatten_cons] at hcm
  by_cases hcv:c∈v
  ·
   dsimp only
   rw [if_pos hcv,if_pos (closed v hv c hcv)]
   exact h1 c hcv
  ·
   have hcf:=(List.mem_append.1 hcm).resolve_left hcv
   obtain ⟨u,hu,hcu⟩:=List.mem_flatten.1 hcf
   have hnx:nx c∉v:=fun q=>n3 _ q _ (List.mem_flatten.2 ⟨u,hu,closed u (hc u (by simp [hu])) c hcu⟩) rfl
   dsimp only
   rw [if_neg hcv,if_neg hnx]
   exact h2 c hcf
theorem cyc_pred {nx:Nat→Nat} {v:List Nat} (hv:Cyc nx v) {c:Nat} (hc:c∈v): ∃d∈v,nx d=c:=by
 obtain ⟨k,hk,e⟩:=List.getElem_of_mem hc
 have hp:0<v.length:=by omega
 have hl:(k+(v.length-1))%v.length<v.length:=Nat.mod_lt _ hp
 have h3:=ring_at hv (gE hl)
 rw [Nat.mod_add_mod,show k+(v.length-1)+1=k+v.length by omega,Nat.add_mod_right,Nat.mod_eq_of_lt hk,gE hk,e] at h3
 exact ⟨_,List.getElem_mem hl,(Option.some.inj h3).symm⟩
theorem cyc_closed {nx:Nat→Nat} {v:List Nat} (hv:Cyc nx v) {S:Nat→Prop} (hS: ∀c,S c→S (nx c)) {a:Nat} (ha:a∈v) (h:S a): ∀b∈v,S b:=by
 obtain ⟨k,hk,e⟩:=List.getElem_of_mem ha
 have key: ∀t,∃c,v[(k+t)%v.length]? =some c∧S c:=by
  intro t
  induction t with
  | zero=>exact ⟨a,by rw [Nat.add_zero,Nat.mod_eq_of_lt hk,gE hk,e],h⟩
  | succ t ih=>
   obtain ⟨c,h1,h2⟩:=ih
   have h3:=ring_at hv h1
   rw [Nat.mod_add_mod] at h3
   exact ⟨nx c,h3,hS c h2⟩
 intro b hb
 obtain ⟨j,hj,e2⟩:=List.getElem_of_mem hb
 obtain ⟨c,h1,h2⟩:=key (v.length-k+j)
 rw [show k+(v.length-k+j)=j+v.length by omega,Nat.add_mod_right,Nat.mod_eq_of_lt hj,gE hj,e2] at h1
 rw [Option.some.inj h1]; exact h2
end Pg
end Go.Proofs.Yteajmbanlohncaa
