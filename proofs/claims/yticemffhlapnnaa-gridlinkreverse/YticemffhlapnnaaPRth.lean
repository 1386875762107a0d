import Derived.Test.YticemffhlapnnaaPRpg
import Derived.Test.YticemffhlapnnaaPLoop
import Derived.Test.YticemffhlapnnaaPRplanar
import Derived.Test.YticemffhlapnnaaPRcan7
set_option linter.unusedVariables false
set_option linter.unusedSimpArgs false
namespace Go.Proofs.Yticemffhlapnnaa
open Ev
namespace Pg
theorem cls_eq_of {N:Nat} {adj adj':Nat→Nat→Prop} (hs: ∀a b,adj a b→adj b a) (hs': ∀a b,adj' a b→adj' b a) (f g:Nat→Nat) (hf: ∀a,a<N→f a<N) (hg: ∀a,a<N→g a<N) (fg: ∀a,a<N→f (g a)=a) (gf: ∀a,a<N→g (f a)=a)
  (h1: ∀a b,adj a b→Cn adj' (f a) (f b)) (h2: ∀a b,adj' a b→Cn adj (g a) (g b)):cls N adj=cls N adj':=by
 apply Nat.le_antisymm
 ·
  refine cls_le_of hs hs' f hf fun a b ha hb h=>?_
  have:=Cn.map (f:=g) h2 h
  rwa [gf a ha,gf b hb] at this
 ·
  refine cls_le_of hs' hs g hg fun a b ha hb h=>?_
  have:=Cn.map (f:=f) h1 h
  rwa [fg a ha,fg b hb] at this
structure Tau (τ σ:Nat→Nat):Prop where
 q: ∀h,τ h/ 4=h/ 4
 q': ∀h,σ h/ 4=h/ 4
 l: ∀h,σ (τ h)=h
 r: ∀h,τ (σ h)=h
theorem Tau.lt {τ σ:Nat→Nat} (t:Tau τ σ) {h n:Nat} (hh:h<4*n):τ h<4*n:=by have:=t.q h; omega
theorem Tau.lt' {τ σ:Nat→Nat} (t:Tau τ σ) {h n:Nat} (hh:h<4*n):σ h<4*n:=by have:=t.q' h; omega
theorem parts_mir {n:Nat} {μ μ' τ σ:Nat→Nat} (h:IV n μ) (h':IV n μ') (t:Tau τ σ) (hm: ∀k,k<4*n→μ' (τ k)=τ (μ k)):cls n (adjP n μ')=cls n (adjP n μ):=by
 refine cls_congr fun x y hx hy=>⟨fun q=>Cn.map (f:=id) (fun c d hcd=>Cn.one ?_) q,fun q=>Cn.map (f:=id) (fun c d hcd=>Cn.one ?_) q⟩
 ·
  obtain ⟨h1,h2,s,hs,h3⟩:=hcd
  have e:=hm (σ (4*c+s)) (t.lt' (by omega))
  rw [t.r] at e
  refine ⟨h1,h2,σ (4*c+s)%4,by omega,?_⟩
  have hq:=t.q' (4*c+s)
  show μ (4*c+σ (4*c+s)%4)/ 4=d
  rw [show 4*c+σ (4*c+s)%4=σ (4*c+s) from by omega,←t.q,←e,h3]
 ·
  obtain ⟨h1,h2,s,hs,h3⟩:=hcd
  have e:=hm (4*c+s) (by omega)
  refine ⟨h1,h2,τ (4*c+s)%4,by omega,?_⟩
  have hq:=t.q (4*c+s)
  show μ' (4*c+τ (4*c+s)%4)/ 4=d
  rw [show 4*c+τ (4*c+s)%4=τ (4*c+s) from by omega,e,t.q,h3]
theorem faces_turn {n:Nat} {μ μ' τ σ:Nat→Nat} (h:IV n μ) (h':IV n μ') (t:Tau τ σ) (hm: ∀k,k<4*n→μ' (τ k)=τ (μ k)) (hturn: ∀k,turnN (τ k) 3=τ (turnN k 3)):cls (4*n) (adjF n μ')=cls (4*n) (adjF n μ):=by
 have hfc: ∀k,k<4*n→fc μ' (τ k)=τ (fc μ k):=fun k hk=>by unfold fc; rw [hm k hk,hturn]
 refine (cls_eq_of adjF_symm adjF_symm τ σ (fun a ha=>t.lt ha) (fun a ha=>t.lt' ha) (fun a _=>t.r a) (fun a _=>t.l a) (fun a b hab=>?_) (fun a b hab=>?_)).symm
 ·
  obtain ⟨h1,h2,h3⟩:=hab
  refine Cn.one ⟨t.lt h1,t.lt h2,?_⟩
  rcases h3 with h3 | h3
  · left; rw [hfc a h1,h3]
  · right; rw [hfc b h2,h3]
 ·
  obtain ⟨h1,h2,h3⟩:=hab
  refine Cn.one ⟨t.lt' h1,t.lt' h2,?_⟩
  have e1:=hfc (σ a) (t.lt' h1)
  have e2:=hfc (σ b) (t.lt' h2)
  rw [t.r] at e1 e2
  rcases h3 with h3 | h3
  · left; rw [h3,e1,t.l]
  · right; rw [h3,e2,t.l]
theorem turn_13 (k:Nat):turnN (turnN k 3) 1=k∧turnN (turnN k 1) 3=k:=by unfold turnN; omega
theorem faces_flip {n:Nat} {μ μ' τ:Nat→Nat} (h:IV n μ) (h':IV n μ') (t:Tau τ τ) (hm: ∀k,k<4*n→μ' (τ k)=τ (μ k)) (hturn: ∀k,turnN (τ k) 3=τ (turnN k 1)):cls (4*n) (adjF n μ')=cls (4*n) (adjF n μ):=by
 have main: ∀μ μ':Nat→Nat,IV n μ→IV n μ'→(∀k,k<4*n→μ' (τ k)=τ (μ k))→∀a b,adjF n μ a b→Cn (adjF n μ') (τ (μ a)) (τ (μ b)):=by
  intro μ μ' h h' hm a b hab
  have one: ∀a,a<4*n→adjF n μ' (τ (μ (fc μ a))) (τ (μ a)):=by
   intro a ha
   have hf:fc μ a<4*n:=turnN_lt (h.lt a ha)
   refine ⟨t.lt (h.lt _ hf),t.lt (h.lt a ha),.inl ?_⟩
   unfold fc
   rw [hm _ (h.lt _ (turnN_lt (h.lt a ha))),h.inv _ (turnN_lt (h.lt a ha)),hturn,(turn_13 _).1]
  obtain ⟨h1,h2,h3 | h3⟩:=hab
  · rw [h3]; exact (Cn.one (one a h1)).symm adjF_symm
  · rw [h3]; exact Cn.one (one b h2)
 have hm': ∀k,k<4*n→μ (τ k)=τ (μ' k):=by
  intro k hk
  have:=hm (τ k) (t.lt hk)
  rw [t.l] at this
  rw [this,t.l]
 refine (cls_eq_of adjF_symm adjF_symm (fun a=>τ (μ a)) (fun a=>τ (μ' a)) (fun a ha=>t.lt (h.lt a ha)) (fun a ha=>t.lt (h'.lt a ha)) (fun a ha=>?_) (fun a ha=>?_) (main μ μ' h h' hm) (main μ' μ h' h hm')).symm
 ·
  show τ (μ (τ (μ' a)))=a
  rw [hm' _ (h'.lt a ha),t.l,h'.inv a ha]
 ·
  show τ (μ' (τ (μ a)))=a
  rw [hm _ (h.lt a ha),t.l,h.inv a ha]
def rf (h:Nat):Nat:=4*(h/ 4)+(4-h%4)%4
theorem rf_tau:Tau rf rf:=by
 refine ⟨fun h=>?_,fun h=>?_,fun h=>?_,fun h=>?_⟩<;>(unfold rf; omega)
theorem rf_turn (k:Nat):turnN (rf k) 3=rf (turnN k 1):=by unfold turnN rf; omega
theorem neg_get {sg:List Int} {c:Nat} (hc:c<sg.length):(sg.map (fun s=>-s)).getD c 0=-(sg.getD c 0):=by
 rw [getD_of' (by rw [List.length_map]; exact hc),getD_of' hc,List.getElem_map]
theorem turn_by (h:Nat) (hh:h≤1000000) (b:Int) (hb: -4<b) (hb2:b≤4) (n:Nat):F.diagram_Turn n (h:Int) b=some ((4*(h/ 4)+(((h%4:Nat):Int)+Int.tmod b 4+4).toNat%4:Nat):Int):=by
 have e1:Int.tmod (h:Int) 4=((h%4:Nat):Int):=Int.ofNat_tmod h 4
 have eb:b=-3∨b=-2∨b=-1∨b=0∨b=1∨b=2∨b=3∨b=4:=by omega
 have hbm: -3≤Int.tmod b 4∧Int.tmod b 4≤3:=by rcases eb with rfl | rfl | rfl | rfl | rfl | rfl | rfl | rfl<;>decide
 unfold F.diagram_Turn
 rw [dF (by omega),kF,nz_ok (by decide),bB,e1]
 generalize Int.tmod b 4=t at*
 obtain ⟨u,hu⟩: ∃u:Nat,((h%4:Nat):Int)+t+4=(u:Int):=⟨(((h%4:Nat):Int)+t+4).toNat,by omega⟩
 rw [chk_ok (by omega) (by omega),bB,bB,bB,chk_ok (by omega) (by omega),bB,chk_ok (by omega) (by omega),bB,bB,hu,Int.toNat_natCast,show Int.tmod (u:Int) 4=((u%4:Nat):Int) from Int.ofNat_tmod u 4,chk_ok (by omega) (by omega),bB]
 congr 1
 omega
theorem move_rf {h:Nat} (hh:h≤1000) (n:Nat):F.mirror_move_c1_v3 n (h:Int)=some ((rf h:Nat):Int):=by
 have e1:Int.tdiv (h:Int) 4=((h/ 4:Nat):Int):=Int.ofNat_tdiv h 4
 have e2:Int.tmod (h:Int) 4=((h%4:Nat):Int):=Int.ofNat_tmod h 4
 unfold F.mirror_move_c1_v3 F.mirror_Reflect_c1 rf
 rw [nz_ok (by decide),bB,e1,chk_ok (by omega) (by omega),bB,bB,e2,chk_ok (by omega) (by omega),bB,chk_ok (by omega) (by omega),bB,bB,turn_by h (by omega) _ (by omega) (by omega),bB]
 congr 2
 have:h%4=0∨h%4=1∨h%4=2∨h%4=3:=by omega
 rcases this with e | e | e | e<;>rw [e]
 · rw [show Int.tmod (4-2*((0:Nat):Int)) 4=0 from by decide]; omega
 · rw [show Int.tmod (4-2*((1:Nat):Int)) 4=2 from by decide]; omega
 · rw [show Int.tmod (4-2*((2:Nat):Int)) 4=0 from by decide]; omega
 · rw [show Int.tmod (4-2*((3:Nat):Int)) 4=-2 from by decide]; omega
theorem neg_list {sg:List Int}:sg.map (fun s=>-s)=iL sg.length (fun c=>-(sg.getD c 0)):=by
 apply List.ext_getElem?
 intro j
 by_cases hj:j<sg.length
 · rw [List.getElem?_map,gE hj,iL_get hj,getD_of' hj]; rfl
 · rw [List.getElem?_eq_none (by simp; omega),List.getElem?_eq_none (by rw [iL_len]; omega)]
theorem signs_loop {sg:List Int} (hs: ∀s∈sg,s=1∨s=-1) (hl:sg.length≤64) (body:Int×List Int→Option ((Int×List Int)⊕(Int×List Int)))
  (hb: ∀v q,body (v,q)=cond (decide (v<(sg.length:Int))) ((Ev.get sg v).bind fun x=>(chk (x*(-1))).bind fun z=>(Ev.get q v).bind fun y=>(chk (v+1)).bind fun u=>some (.inl (u,q.set v.toNat z))) (some (.inr (v,q)))) (n:Nat) (hn:100<n):
  loopN n body (0,List.replicate (sg.length:Int).toNat (0:Int))=some ((sg.length:Int),sg.map (fun s=>-s)):=by
 have h0:((0:Int),List.replicate (sg.length:Int).toNat (0:Int))=(fun k:Nat=>((k:Int),iL sg.length (fun c=>if c<k then -(sg.getD c 0) else 0))) 0:=by
  rw [Int.toNat_natCast,iL_rep]; rfl
 rw [h0,neg_list]
 refine count_loop (fun k:Nat=>((k:Int),iL sg.length (fun c=>if c<k then -(sg.getD c 0) else 0))) sg.length (fun k hk=>?_) ?_ n (by omega)
 ·
  have:=hs _ (List.getElem_mem hk)
  rw [hb,dT (by omega),kT,get_nat,gE hk,bB,chk_ok (by omega) (by omega),bB,get_nat,iL_get hk,bB,chk_ok (by omega) (by omega),bB,Int.toNat_natCast,iL_set]
  rw [show ((k:Int)+1)=((k+1:Nat):Int) from by omega]
  congr 3
  refine iL_congr fun j hj=>?_
  by_cases e:j=k
  · subst e; rw [if_pos rfl,if_pos (by omega),getD_of' hk]; omega
  ·
   rw [if_neg e]
   by_cases h:j<k
   · rw [if_pos h,if_pos (by omega)]
   · rw [if_neg h,if_neg (by omega)]
 ·
  rw [hb,dF (by omega),kF]
  congr 3
  refine iL_congr fun j hj=>by rw [if_pos hj]
theorem moves_loop {n:Nat} {M:List Int} {μ:Nat→Nat} (hM:MT (4*n) M μ) (hn:n≤64) {τ σ:Nat→Nat} (t:Tau τ σ) (mv:Int→Option Int) (hmv: ∀h,h<4*n→mv (h:Int)=some ((τ h:Nat):Int)) (body:Int×List Int→Option ((Int×List Int)⊕(Int×List Int)))
  (hb: ∀v q,body (v,q)=cond (decide (v<(M.length:Int))) ((Ev.get M v).bind fun x=>(mv v).bind fun y=>(mv x).bind fun z=>(Ev.get q y).bind fun u=>(chk (v+1)).bind fun c=>some (.inl (c,q.set y.toNat z))) (some (.inr (v,q)))) (m:Nat) (hm:300<m):
  loopN m body (0,List.replicate (M.length:Int).toNat (0:Int))=some ((M.length:Int),iL (4*n) (fun j=>(τ (μ (σ j)):Int))):=by
 have hl:=hM.1
 have h0:((0:Int),List.replicate (M.length:Int).toNat (0:Int))=(fun k:Nat=>((k:Int),iL (4*n) (fun j=>if σ j<k then (τ (μ (σ j)):Int) else 0))) 0:=by
  rw [Int.toNat_natCast,iL_rep,hl]; rfl
 rw [h0,hl]
 refine count_loop (fun k:Nat=>((k:Int),iL (4*n) (fun j=>if σ j<k then (τ (μ (σ j)):Int) else 0))) (4*n) (fun k hk=>?_) ?_ m (by omega)
 ·
  obtain ⟨q1,q2,_,_⟩:=hM.2 k hk
  rw [hb,dT (by omega),kT,get_nat,q1,bB,hmv k hk,bB,hmv _ q2,bB,get_nat,iL_get (t.lt hk),bB,chk_ok (by omega) (by omega),bB,Int.toNat_natCast,iL_set]
  rw [show ((k:Int)+1)=((k+1:Nat):Int) from by omega]
  congr 3
  refine iL_congr fun j hj=>?_
  by_cases e:j=τ k
  · subst e; rw [if_pos rfl,t.l,if_pos (by omega)]
  ·
   have hne:σ j≠k:=fun h=>e (by rw [←h,t.r])
   rw [if_neg e]
   by_cases h:σ j<k
   · rw [if_pos h,if_pos (by omega)]
   · rw [if_neg h,if_neg (by omega)]
 ·
  rw [hb,dF (by omega),kF]
  congr 3
  refine iL_congr fun j hj=>by rw [if_pos (t.lt' hj)]
theorem reflect_eq {sg M:List Int} {lo:Int} {μ:Nat→Nat} (D:DV sg M lo μ) (m:Nat) (hm:500<m):F.mirror_Reflect m sg M lo=some (sg.map (fun s=>-s),iL (4*sg.length) (fun j=>(rf (μ (rf j)):Int)),lo,0):=by
 have h64:=D.n
 have hl:=D.mt.1
 unfold F.mirror_Reflect F.mirror_move_mirror_Reflect_c1_mirror_Reflect_c2
 rw [dvalid_true D m (by omega),bB,Bool.not_true,kF,pos_ok (by omega) (by omega),bB,pos_ok (by omega) (by omega),bB]
 unfold F.mirror_move_mirror_Reflect_c1_mirror_Reflect_c2_j0
 rw [signs_loop D.sgn h64 _ (fun v q=>rfl) m (by omega),bB]
 dsimp only
 rw [moves_loop D.mt h64 rf_tau (fun z=>F.mirror_move_c1_v3 m z) (fun h hh=>move_rf (by omega) m) _ (fun v q=>rfl) m (by omega),bB,bB]
def rv (h:Nat):Nat:=turnN h 2
theorem rv_tau:Tau rv rv:=by
 constructor<;>(intro h; unfold rv turnN; omega)
theorem rv_turn (k:Nat):turnN (rv k) 3=rv (turnN k 3):=by unfold rv turnN; omega
theorem move_rv {h:Nat} (hh:h≤1000) (n:Nat):F.mirror_move_c1_v2 n (h:Int)=some ((rv h:Nat):Int):=by
 have e1:Int.tdiv (h:Int) 4=((h/ 4:Nat):Int):=Int.ofNat_tdiv h 4
 unfold F.mirror_move_c1_v2 F.mirror_Reverse_c1 rv
 rw [nz_ok (by decide),bB,e1,chk_ok (by omega) (by omega),bB,bB,bB,turn2 h (by omega) n,bB]
theorem same_list {sg:List Int}:sg=iL sg.length (fun c=>sg.getD c 0):=by
 apply List.ext_getElem?
 intro j
 by_cases hj:j<sg.length
 · rw [gE hj,iL_get hj,getD_of' hj]
 · rw [List.getElem?_eq_none (by omega),List.getElem?_eq_none (by rw [iL_len]; omega)]
theorem signs_loop1 {sg:List Int} (hs: ∀s∈sg,s=1∨s=-1) (hl:sg.length≤64) (body:Int×List Int→Option ((Int×List Int)⊕(Int×List Int)))
  (hb: ∀v q,body (v,q)=cond (decide (v<(sg.length:Int))) ((Ev.get sg v).bind fun x=>(chk (x*1)).bind fun z=>(Ev.get q v).bind fun y=>(chk (v+1)).bind fun u=>some (.inl (u,q.set v.toNat z))) (some (.inr (v,q)))) (n:Nat) (hn:100<n):
  loopN n body (0,List.replicate (sg.length:Int).toNat (0:Int))=some ((sg.length:Int),sg):=by
 have h0:((0:Int),List.replicate (sg.length:Int).toNat (0:Int))=(fun k:Nat=>((k:Int),iL sg.length (fun c=>if c<k then (sg.getD c 0) else 0))) 0:=by
  rw [Int.toNat_natCast,iL_rep]; rfl
 rw [h0]
 conv=>rhs; rw [same_list (sg:=sg),iL_len]
 refine count_loop (fun k:Nat=>((k:Int),iL sg.length (fun c=>if c<k then (sg.getD c 0) else 0))) sg.length (fun k hk=>?_) ?_ n (by omega)
 ·
  have:=hs _ (List.getElem_mem hk)
  rw [hb,dT (by omega),kT,get_nat,gE hk,bB,chk_ok (by omega) (by omega),bB,get_nat,iL_get hk,bB,chk_ok (by omega) (by omega),bB,Int.toNat_natCast,iL_set]
  rw [show ((k:Int)+1)=((k+1:Nat):Int) from by omega]
  congr 3
  refine iL_congr fun j hj=>?_
  by_cases e:j=k
  · subst e; rw [if_pos rfl,if_pos (by omega),getD_of' hk]; omega
  ·
   rw [if_neg e]
   by_cases h:j<k
   · rw [if_pos h,if_pos (by omega)]
   · rw [if_neg h,if_neg (by omega)]
 ·
  rw [hb,dF (by omega),kF]
  congr 3
  refine iL_congr fun j hj=>by rw [if_pos hj]
theorem reverse_eq {sg M:List Int} {lo:Int} {μ:Nat→Nat} (D:DV sg M lo μ) (m:Nat) (hm:500<m):F.mirror_Reverse m sg M lo=some (sg,iL (4*sg.length) (fun j=>(rv (μ (rv j)):Int)),lo,0):=by
 have h64:=D.n
 have hl:=D.mt.1
 unfold F.mirror_Reverse F.mirror_move_mirror_Reverse_c1_mirror_Reverse_c2
 rw [dvalid_true D m (by omega),bB,Bool.not_true,kF,pos_ok (by omega) (by omega),bB,pos_ok (by omega) (by omega),bB]
 unfold F.mirror_move_mirror_Reverse_c1_mirror_Reverse_c2_j0
 rw [signs_loop1 D.sgn h64 _ (fun v q=>rfl) m (by omega),bB]
 dsimp only
 rw [moves_loop D.mt h64 rv_tau (fun z=>F.mirror_move_c1_v2 m z) (fun h hh=>move_rv (by omega) m) _ (fun v q=>rfl) m (by omega),bB,bB]
def mvd2 (μ τ σ:Nat→Nat) (j:Nat):Nat:=τ (μ (σ j))
theorem mt_mir {n:Nat} {M:List Int} {μ:Nat→Nat} (hM:MT (4*n) M μ) {τ σ:Nat→Nat} (t:Tau τ σ):MT (4*n) (iL (4*n) (fun j=>(τ (μ (σ j)):Int))) (mvd2 μ τ σ):=by
 refine ⟨iL_len _ _,fun h hh=>?_⟩
 obtain ⟨q1,q2,q3,q4⟩:=hM.2 (σ h) (t.lt' hh)
 refine ⟨iL_get hh,t.lt q2,?_,fun e=>q4 ?_⟩
 ·
  unfold mvd2
  rw [t.l,q3,t.r]
 ·
  unfold mvd2 at e
  have:=congrArg σ e
  rw [t.l] at this
  exact this
theorem DV.mir {sg M sg':List Int} {lo:Int} {μ τ σ:Nat→Nat} (D:DV sg M lo μ) (t:Tau τ σ) (hl:sg'.length=sg.length) (hs: ∀s∈sg',s=1∨s=-1) (b:Bool)
  (ho: ∀h,h<4*sg.length→(Outg sg' (τ h)↔(Outg sg h↔b=true))) (hf: ∀μ',IV sg.length μ'→(∀k,k<4*sg.length→μ' (τ k)=τ (μ k))→cls (4*sg.length) (adjF sg.length μ')=cls (4*sg.length) (adjF sg.length μ)):
  DV sg' (iL (4*sg.length) (fun j=>(τ (μ (σ j)):Int))) lo (mvd2 μ τ σ):=by
 have hM:=mt_mir D.mt t
 have hm: ∀k,k<4*sg.length→mvd2 μ τ σ (τ k)=τ (μ k):=fun k _=>by unfold mvd2; rw [t.l]
 have hc:=parts_mir D.mt.iv hM.iv t hm
 have hff:=hf _ hM.iv hm
 refine ⟨by rw [hl]; exact D.n,D.lo0,D.lo1,hs,by rw [hl]; exact hM,fun h hh=>?_,?_⟩
 ·
  rw [hl] at hh
  have h1:=t.lt' hh
  have h2:=(D.mt.2 _ h1).2.1
  have e1:=ho (μ (σ h)) h2
  have e2:=ho (σ h) h1
  have e3:=D.out (σ h) h1
  rw [t.r] at e2
  unfold mvd2
  rw [e1,e2,e3]
  by_cases q:Outg sg (σ h)<;>cases b<;>simp [q]
 ·
  rw [hl]
  have:=D.g0
  unfold gen2 at this⊢
  rw [hc,hff]; exact this
end Pg
end Go.Proofs.Yticemffhlapnnaa

set_option linter.unusedVariables false
set_option linter.unusedSimpArgs false
namespace Go.Proofs.Yticemffhlapnnaa
open Ev
namespace Gl
open Gar Pg
section
variable {β α : Type} {In Out In' Out' : β → α}
theorem Ch.congr: ∀{l:List β} {x y:α},(∀u∈l,In u=In' u∧Out u=Out' u)→Ch In Out x l y→Ch In' Out' x l y
 | [],x,y,_,h=>h
 | v::l,x,y,hl,h=>by
  obtain ⟨h1,h2⟩:=hl v (by simp)
  refine ⟨by rw [←h1]; exact h.1,?_⟩
  rw [←h2]
  exact Ch.congr (fun u hu=>hl u (by simp [hu])) h.2
theorem Ch.rev {m:α→α} {E S:β→α}: ∀{l:List β} {x y:α},(∀u∈l,m (m (S u))=S u)→Ch E (fun u=>m (S u)) x l y→Ch S (fun u=>m (E u)) (m y) l.reverse (m x)
 | [],x,y,_,h=>congrArg m (show x=y from h).symm
 | v::l,x,y,hl,h=>by
  rw [List.reverse_cons]
  refine Ch.app (Ch.rev (fun u hu=>hl u (by simp [hu])) h.2) ⟨?_,?_⟩
  · exact hl v (by simp)
  · exact congrArg m h.1.symm
end
section
variable {n : Nat} {x o cx co : Nat → Nat} (g : Gd n x o cx co)
include g
theorem Gd.walk_vals (hL:(crl n x o cx co).length≤64) {s:List Bool} {vs:List (List Nat)} (hO:OrbI n (fun c=>cx (o c)) n s vs):
  ∃A:Nat→Nat,∀c,c<n→Ch (inH (sgl n x o cx co)) (fun u=>muS (sgl n x o cx co) (csOf n x o cx co vs) (outH (sgl n x o cx co) u)) (A c) (part n x o cx co c) (A (cx (o c))):=by
 have G:=g.gv hL hO
 have hring: ∀v∈vs,∃y,Ch (inH (sgl n x o cx co)) (fun u=>muS (sgl n x o cx co) (csOf n x o cx co vs) (outH (sgl n x o cx co) u)) y (v.flatMap (part n x o cx co)) y:=by
  intro v hv
  by_cases he:v.flatMap (part n x o cx co)=[]
  · rw [he]; exact ⟨0,rfl⟩
  ·
   refine Ch.of_ring he fun k u w hk hu hw=>?_
   exact (muS_pair G (g.pair_at hv hk hu hw)).2.2.1
 obtain ⟨a,ha⟩:=rings_vals hO.nd hO.cyc hring
 exact ⟨a,fun c hc=>ha c (hO.cov c hc)⟩
theorem Gd.mates_to (hL:(crl n x o cx co).length≤64) {s:List Bool} {vs:List (List Nat)} (hO:OrbI n (fun c=>cx (o c)) n s vs) {f μ' A:Nat→Nat} (inv: ∀h,h<4*(sgl n x o cx co).length→μ' (μ' (f h))=f h)
  (hA: ∀c,c<n→Ch (fun u=>f (inH (sgl n x o cx co) u)) (fun u=>μ' (f (outH (sgl n x o cx co) u))) (A c) (part n x o cx co c) (A (cx (o c)))):
  ∀h,h<4*(sgl n x o cx co).length→μ' (f h)=f (muS (sgl n x o cx co) (csOf n x o cx co vs) h):=by
 have G:=g.gv hL hO
 have hpair: ∀a b,(a,b)∈allP (sgl n x o cx co) (csOf n x o cx co vs)→μ' (f a)=f b:=by
  intro a b hab
  obtain ⟨v,hv,k,u,w,hk,hu,hw,rfl,rfl⟩:=g.pair_of hab
  obtain ⟨y,hy⟩:=ring_ch (hO.cyc v hv) (P:=part n x o cx co) (A:=A) fun c hc=>hA c (hO.lt c (List.mem_flatten.2 ⟨v,hv,hc⟩))
  exact hy.ring hk hu hw
 intro h hh
 rcases G.pairs.2.2.2.2.2 h hh with hm | hm
 ·
  obtain ⟨⟨a,b⟩,hab,rfl⟩:=List.mem_map.1 hm
  obtain ⟨_,_,m1,m2,_⟩:=muS_pair G hab
  dsimp only
  rw [m1,hpair a b hab]
 ·
  obtain ⟨⟨a,b⟩,hab,rfl⟩:=List.mem_map.1 hm
  obtain ⟨_,_,m1,m2,l1,l2,_⟩:=muS_pair G hab
  dsimp only
  rw [m2,←hpair a b hab,inv a l1]
omit g in
theorem cyc_closed {nx:Nat→Nat} {v:List Nat} (hv:Cyc nx v) {S:Nat→Prop} (hS: ∀c,S c→S (nx c)) {a:Nat} (ha:a∈v) (h:S a): ∀b∈v,S b:=by
 obtain ⟨k,hk,e⟩:=List.getElem_of_mem ha
 have key: ∀t,∃c,v[(k+t)%v.length]? =some c∧S c:=by
  intro t
  induction t with
  | zero=>exact ⟨a,by rw [Nat.add_zero,Nat.mod_eq_of_lt hk,gE hk,e],h⟩
  | succ t ih=>
   obtain ⟨c,h1,h2⟩:=ih
   have h3:=ring_at hv h1
   rw [Nat.mod_add_mod] at h3
   exact ⟨nx c,h3,hS c h2⟩
 intro b hb
 obtain ⟨j,hj,e2⟩:=List.getElem_of_mem hb
 obtain ⟨c,h1,h2⟩:=key (v.length-k+j)
 rw [show k+(v.length-k+j)=j+v.length by omega,Nat.add_mod_right,Nat.mod_eq_of_lt hj,gE hj,e2] at h1
 rw [Option.some.inj h1]; exact h2
end
theorem lo_le_of {n n':Nat} {x o cx co x' o' cx' co':Nat→Nat} {s s':List Bool} {vs vs':List (List Nat)} (hO:OrbI n (fun c=>cx (o c)) n s vs) (hO':OrbI n' (fun c=>cx' (o' c)) n' s' vs') (f:Nat→Nat)
  (hf: ∀c,c<n→f c<n') (hi: ∀a b,a<n→b<n→f a=f b→a=b)
  (hc: ∀v∈vs,∀c∈v,∃d∈v,cx' (o' (f c))=f d)
  (he: ∀v∈vs,(∀c∈v,part n x o cx co c=[])→∀c∈v,part n' x' o' cx' co' (f c)=[]):
  loOf n x o cx co vs≤loOf n' x' o' cx' co' vs':=by
 have mk: ∀v,∃v',v∈vs→v'∈vs'∧(∃c∈v,f c∈v')∧∀b∈v',∃d∈v,b=f d:=by
  intro v
  by_cases hv:v∈vs
  ·
   obtain ⟨c,hcm⟩:=List.exists_mem_of_ne_nil v (hO.cyc v hv).1
   have hcn:=hO.lt c (List.mem_flatten.2 ⟨v,hv,hcm⟩)
   have hm:=hO'.cov _ (hf c hcn)
   obtain ⟨v',hv',hfc⟩:=List.mem_flatten.1 hm
   refine ⟨v',fun _=>⟨hv',⟨c,hcm,hfc⟩,?_⟩⟩
   refine cyc_closed (hO'.cyc v' hv') (S:=fun b=> ∃d∈v,b=f d) (fun b ⟨d,hd,e⟩=>?_) hfc ⟨c,hcm,rfl⟩
   obtain ⟨d',hd',e'⟩:=hc v hv d hd
   exact ⟨d',hd',by rw [e,e']⟩
  · exact ⟨[],fun h=>absurd h hv⟩
 obtain ⟨F,hF⟩:=Classical.skolem.1 mk
 have key:(vs.filter fun v=>(v.flatMap (part n x o cx co)).isEmpty).length≤(vs'.filter fun v=>(v.flatMap (part n' x' o' cx' co')).isEmpty).length:=by
  have hvn:vs.Nodup:=by
   have:=hO.nd
   unfold List.Nodup at this
   rw [List.pairwise_flatten] at this
   refine List.Pairwise.imp_of_mem (fun {a b} ha hb h e=>?_) this.2
   subst e
   obtain ⟨c,hcm⟩:=List.exists_mem_of_ne_nil a (hO.cyc a ha).1
   exact h c hcm c hcm rfl
  have hnd:((vs.filter fun v=>(v.flatMap (part n x o cx co)).isEmpty).map F).Nodup:=by
   refine nodup_map (List.Nodup.sublist List.filter_sublist hvn) fun a ha b hb e=>?_
   have ha:=(List.mem_filter.1 ha).1
   have hb:=(List.mem_filter.1 hb).1
   obtain ⟨_,⟨c,hcm,hfc⟩,_⟩:=hF b hb
   obtain ⟨_,_,h3⟩:=hF a ha
   rw [←e] at hfc
   obtain ⟨d,hd,e2⟩:=h3 _ hfc
   have hcn:=hO.lt c (List.mem_flatten.2 ⟨b,hb,hcm⟩)
   have hdn:=hO.lt d (List.mem_flatten.2 ⟨a,ha,hd⟩)
   have:=hi _ _ hcn hdn e2
   subst this
   -- one column lies in one ring
   have hn:=hO.nd
   unfold List.Nodup at hn
   rw [List.pairwise_flatten] at hn
   obtain ⟨i,hi1,e3⟩:=List.getElem_of_mem ha
   obtain ⟨j,hj1,e4⟩:=List.getElem_of_mem hb
   rcases Nat.lt_trichotomy i j with q | q | q
   · exact absurd rfl (List.pairwise_iff_getElem.1 hn.2 i j hi1 hj1 q c (e3▸hd) c (e4▸hcm))
   · subst q; rw [←e3,←e4]
   · exact absurd rfl (List.pairwise_iff_getElem.1 hn.2 j i hj1 hi1 q c (e4▸hcm) c (e3▸hd))
  have:=sub_len (l2:=vs'.filter fun v=>(v.flatMap (part n' x' o' cx' co')).isEmpty) hnd fun w hw=>by
   obtain ⟨v,hv,rfl⟩:=List.mem_map.1 hw
   obtain ⟨hv,hem⟩:=List.mem_filter.1 hv
   obtain ⟨h1,_,h3⟩:=hF v hv
   rw [List.isEmpty_iff,List.flatMap_eq_nil_iff] at hem
   refine List.mem_filter.2 ⟨h1,?_⟩
   rw [List.isEmpty_iff,List.flatMap_eq_nil_iff]
   intro b hb
   obtain ⟨d,hd,e⟩:=h3 b hb
   rw [e]
   exact he v hv hem d hd
  rw [List.length_map] at this
  exact this
 have conv: ∀{n x o cx co} (vs:List (List Nat)),loOf n x o cx co vs=((vs.filter fun v=>(v.flatMap (part n x o cx co)).isEmpty).length:Int):=by
  intro n x o cx co vs
  unfold loOf
  rw [List.filter_map,List.length_map]
  rfl
 rw [conv,conv]
 omega
section
variable {n : Nat} {x o cx co : Nat → Nat} (g : Gd n x o cx co)
include g
theorem Gd.cls_le (hL:(crl n x o cx co).length≤64) {s:List Bool} {vs:List (List Nat)} (hO:OrbI n (fun c=>cx (o c)) n s vs):cls (sgl n x o cx co).length (adjP (sgl n x o cx co).length (muS (sgl n x o cx co) (csOf n x o cx co vs)))≤vs.length:=by
 have G:=g.gv hL hO
 have hs:=adjP_symm G.mt
 -- what lies on one ring is one piece
 have hring: ∀v∈vs,∀u:Vis,u∈v.flatMap (part n x o cx co)→∀w:Vis,w∈v.flatMap (part n x o cx co)→Cn (adjP (sgl n x o cx co).length (muS (sgl n x o cx co) (csOf n x o cx co vs))) u.1.toNat w.1.toNat:=by
  intro v hv
  have hvis:=g.ways_vis (v:=v) fun c hc=>hO.lt c (List.mem_flatten.2 ⟨v,hv,hc⟩)
  have one: ∀(k:Nat) (u w:Vis),k<(v.flatMap (part n x o cx co)).length→(v.flatMap (part n x o cx co))[k]? =some u→(v.flatMap (part n x o cx co))[(k+1)%(v.flatMap (part n x o cx co)).length]? =some w→Cn (adjP (sgl n x o cx co).length (muS (sgl n x o cx co) (csOf n x o cx co vs))) u.1.toNat w.1.toNat:=by
   intro k u w hk hu hw
   obtain ⟨_,_,m1,_⟩:=muS_pair G (g.pair_at hv hk hu hw)
   obtain ⟨u0,u1⟩:=hvis u (List.mem_of_getElem? hu)
   obtain ⟨w0,w1⟩:=hvis w (List.mem_of_getElem? hw)
   have q1:outH (sgl n x o cx co) u/ 4=u.1.toNat:=by unfold outH; split<;>(try split)<;>omega
   have q2:inH (sgl n x o cx co) w/ 4=w.1.toNat:=by unfold inH; split<;>(try split)<;>omega
   refine Cn.one ⟨by omega,by omega,outH (sgl n x o cx co) u%4,by omega,?_⟩
   rw [show 4*u.1.toNat+outH (sgl n x o cx co) u%4=outH (sgl n x o cx co) u by omega,m1,q2]
  have from0: ∀(k:Nat) (u:Vis),(v.flatMap (part n x o cx co))[k]? =some u→∀w:Vis,(v.flatMap (part n x o cx co))[0]? =some w→Cn (adjP (sgl n x o cx co).length (muS (sgl n x o cx co) (csOf n x o cx co vs))) w.1.toNat u.1.toNat:=by
   intro k
   induction k with
   | zero=>intro u hu w hw; rw [hu] at hw; rw [Option.some.inj hw]; exact .refl _
   | succ k ih=>
    intro u hu w hw
    have hk:=(List.getElem?_eq_some_iff.1 hu).1
    have h1:=ih _ (gE (by omega:k<(v.flatMap (part n x o cx co)).length)) w hw
    exact h1.trans (one k _ u (by omega) (gE (by omega)) (by rw [Nat.mod_eq_of_lt hk]; exact hu))
  intro u hu w hw
  obtain ⟨i,hi,e1⟩:=List.getElem_of_mem hu
  obtain ⟨j,hj,e2⟩:=List.getElem_of_mem hw
  have hp:0<(v.flatMap (part n x o cx co)).length:=by omega
  have h1:=from0 i u (by rw [gE hi,e1]) _ (gE hp)
  have h2:=from0 j w (by rw [gE hj,e2]) _ (gE hp)
  exact (h1.symm hs).trans h2
 have ex: ∀p,∃v:List Nat,p<cls (sgl n x o cx co).length (adjP (sgl n x o cx co).length (muS (sgl n x o cx co) (csOf n x o cx co vs)))→v∈vs∧∃u:Vis,u∈v.flatMap (part n x o cx co)∧∃r:Nat,u.1.toNat=r∧Rep (adjP (sgl n x o cx co).length (muS (sgl n x o cx co) (csOf n x o cx co vs))) r∧cls r (adjP (sgl n x o cx co).length (muS (sgl n x o cx co) (csOf n x o cx co vs)))=p:=by
  intro p
  by_cases hp:p<cls (sgl n x o cx co).length (adjP (sgl n x o cx co).length (muS (sgl n x o cx co) (csOf n x o cx co vs)))
  ·
   obtain ⟨r,h1,h2,h3⟩:=rep_at hp
   rw [g.sgl_len] at h1
   obtain ⟨q,hq⟩: ∃q,(crl n x o cx co)[r]? =some q:=⟨_,gE h1⟩
   obtain ⟨i,j⟩:=q
   obtain ⟨hi,hj,hc⟩:=mem_crl.1 (List.mem_of_getElem? hq)
   have hnum:=num_at (crl_nodup n x o cx co) hq
   obtain ⟨v,hv,hiv⟩:=List.mem_flatten.1 (hO.cov i hi)
   refine ⟨v,fun _=>⟨hv,vov (crl n x o cx co) (i,j),?_,r,?_,h2,h3⟩⟩
   · exact List.mem_flatMap.2 ⟨i,hiv,List.mem_append_left _ ((g.mem_colV hi).2 ⟨j,hc,hj,rfl⟩)⟩
   ·
    unfold vov
    rw [hnum]; rfl
  · exact ⟨[],fun h=>absurd h hp⟩
 obtain ⟨F,hF⟩:=Classical.skolem.1 ex
 have hnd:((List.range (cls (sgl n x o cx co).length (adjP (sgl n x o cx co).length (muS (sgl n x o cx co) (csOf n x o cx co vs))))).map F).Nodup:=by
  refine nodup_map List.nodup_range fun a ha b hb e=>?_
  obtain ⟨h1,u,hu,r,hr,rr,hra⟩:=hF a (List.mem_range.1 ha)
  obtain ⟨_,w,hw,r',hr',rr',hrb⟩:=hF b (List.mem_range.1 hb)
  rw [←e] at hw
  have:=hring _ h1 u hu w hw
  rw [hr,hr'] at this
  have:=rep_eq hs rr rr' this
  rw [←hra,←hrb,this]
 have:=sub_len (l2:=vs) hnd fun w hw=>by
  obtain ⟨p,hp,rfl⟩:=List.mem_map.1 hw
  exact (hF p (List.mem_range.1 hp)).1
 rw [List.length_map,List.length_range] at this
 exact this
end
open Gar Pg
theorem cr_swap (x o cx co:Nat→Nat):cr o x co cx=cr x o cx co:=by
 funext i j
 unfold cr
 rw [Nat.min_comm (o i),Nat.max_comm (o i),Nat.min_comm (co j),Nat.max_comm (co j)]
theorem crl_swap (n:Nat) (x o cx co:Nat→Nat):crl n o x co cx=crl n x o cx co:=by
 unfold crl
 rw [cr_swap]
theorem dec_flip {a b:Nat} (h:a≠b):decide (b<a)=!decide (a<b):=by
 by_cases q:a<b
 · rw [dT q,dF (by omega)]; rfl
 · rw [dF q,dT (by omega)]; rfl
theorem rv_in (sg:List Int) (u:Vis):rv (inH sg u)=outH sg u∧rv (outH sg u)=inH sg u:=by
 unfold rv turnN inH outH
 constructor<;>split<;>(try split)<;>omega
theorem cyc_pred {nx:Nat→Nat} {v:List Nat} (hv:Cyc nx v) {c:Nat} (hc:c∈v): ∃d∈v,nx d=c:=by
 obtain ⟨k,hk,e⟩:=List.getElem_of_mem hc
 have hp:0<v.length:=by omega
 have hl:(k+(v.length-1))%v.length<v.length:=Nat.mod_lt _ hp
 have h3:=ring_at hv (gE hl)
 rw [Nat.mod_add_mod,show k+(v.length-1)+1=k+v.length by omega,Nat.add_mod_right,Nat.mod_eq_of_lt hk,gE hk,e] at h3
 exact ⟨_,List.getElem_mem hl,(Option.some.inj h3).symm⟩
def Tm (π:Nat→Nat) (h:Nat):Nat:=4*π (h/ 4)+h%4
theorem iso_of {n:Nat} {sg sg':List Int} {μ μ' τ σ π:Nat→Nat} (t:Tau τ σ) (hl: ∀c,c<n→π c<n) (hi: ∀a b,a<n→b<n→π a=π b→a=b) (hs: ∀c,c<n→sg'.getD (π c) 0=sg.getD c 0)
  (hm: ∀h,h<4*n→μ' (Tm π (τ h))=Tm π (τ (μ h))):Iso n sg (mvd2 μ τ σ) sg' μ' π:=by
 refine ⟨hl,hi,hs,fun c s hc h4=>?_⟩
 have:=hm (σ (4*c+s)) (t.lt' (by omega))
 rw [t.r] at this
 unfold Tm at this
 rw [show (4*c+s)/ 4=c by omega,show (4*c+s)%4=s by omega] at this
 exact this
section
variable {n : Nat} {x o cx co : Nat → Nat} (g : Gd n x o cx co)
include g
theorem Gd.swap:Gd n o x co cx:=⟨g.lo,g.hi,g.po,g.px,fun k hk e=>g.ne k hk e.symm⟩
theorem Gd.sgl_swap:sgl n o x co cx=sgl n x o cx co:=by
 unfold sgl
 rw [crl_swap]
 refine List.map_congr_left fun p hp=>?_
 obtain ⟨i,j⟩:=p
 obtain ⟨hi,hj,_⟩:=mem_crl.1 hp
 unfold sgn
 dsimp only
 rw [dec_flip (g.ne i hi),dec_flip (fun e=>g.cne hj e.symm:co j≠cx j)]
 cases decide (x i<o i)<;>cases decide (co j<cx j)<;>rfl
theorem Gd.colV_swap {i:Nat} (hi:i<n):colV n o x co cx i=(colV n x o cx co i).reverse:=by
 have:=g.ne i hi
 rw [g.colV_eq hi,g.swap.colV_eq hi,crl_swap]
 by_cases h:x i<o i
 · rw [if_pos h,if_neg (by omega)]
 · rw [if_neg h,if_pos (by omega),List.reverse_reverse]
theorem Gd.rowV_swap {j:Nat} (hj:j<n):rowV n o x co cx j=(rowV n x o cx co j).reverse:=by
 have:=g.cne hj
 rw [g.rowV_eq hj,g.swap.rowV_eq hj,crl_swap]
 by_cases h:co j<cx j
 · rw [if_pos h,if_neg (by omega)]
 · rw [if_neg h,if_pos (by omega),List.reverse_reverse]
theorem Gd.mates_swap (hL:(crl n x o cx co).length≤64) {s s':List Bool} {vs vs':List (List Nat)} (hO:OrbI n (fun c=>cx (o c)) n s vs) (hO':OrbI n (fun c=>co (x c)) n s' vs'):
  ∀h,h<4*(sgl n x o cx co).length→muS (sgl n x o cx co) (csOf n o x co cx vs') (rv h)=rv (muS (sgl n x o cx co) (csOf n x o cx co vs) h):=by
 have g':=g.swap
 have hL':(crl n o x co cx).length≤64:=by rw [crl_swap]; exact hL
 have G':=g'.gv hL' hO'
 rw [g.sgl_swap] at G'
 have M':=G'.mt
 obtain ⟨A,hA⟩:=g'.walk_vals hL' hO'
 rw [g.sgl_swap] at hA
 have hB: ∀c,∃b,c<n→Ch (inH (sgl n x o cx co)) (fun u=>muS (sgl n x o cx co) (csOf n o x co cx vs') (outH (sgl n x o cx co) u)) (A c) (colV n o x co cx c) b∧Ch (inH (sgl n x o cx co)) (fun u=>muS (sgl n x o cx co) (csOf n o x co cx vs') (outH (sgl n x o cx co) u)) b (rowV n o x co cx (x c)) (A (co (x c))):=fun c=>by
  by_cases hc:c<n
  ·
   obtain ⟨b,h1,h2⟩:=Ch.split (hA c hc)
   exact ⟨b,fun _=>⟨h1,h2⟩⟩
  · exact ⟨0,fun h=>absurd h hc⟩
 obtain ⟨B,hB⟩:=Classical.skolem.1 hB
 have inv: ∀u:Vis,0≤u.1∧u.1<((sgl n x o cx co).length:Int)→muS (sgl n x o cx co) (csOf n o x co cx vs') (muS (sgl n x o cx co) (csOf n o x co cx vs') (outH (sgl n x o cx co) u))=outH (sgl n x o cx co) u:=fun u hu=>
  (M'.2 _ (ends_lt hu.1 hu.2).2).2.2.1
 refine g.mates_to hL hO (f:=rv) (A:=fun c=>muS (sgl n x o cx co) (csOf n o x co cx vs') (B c)) (fun h hh=>(M'.2 _ (rv_tau.lt hh)).2.2.1) fun c hc=>?_
 refine Ch.congr (In:=outH (sgl n x o cx co)) (Out:=fun u=>muS (sgl n x o cx co) (csOf n o x co cx vs') (inH (sgl n x o cx co) u)) (fun u _=>by rw [(rv_in _ u).1,(rv_in _ u).2]; exact ⟨rfl,rfl⟩) ?_
 have hoc:=g.ol hc
 have hnc:=g.nxl hc
 unfold part
 refine Ch.app (y:=muS (sgl n x o cx co) (csOf n o x co cx vs') (A c)) ?_ ?_
 ·
  have h1:=Ch.rev (m:=muS (sgl n x o cx co) (csOf n o x co cx vs')) (E:=inH (sgl n x o cx co)) (S:=outH (sgl n x o cx co)) (fun u hu=>inv u (by
   rw [g.colV_swap hc,List.mem_reverse] at hu
   exact g.part_vis hc u (List.mem_append_left _ hu))) (hB c hc).1
  rw [g.colV_swap hc,List.reverse_reverse] at h1
  exact h1
 ·
  have hx:x (cx (o c))=o c:=g.px.fg _
  have hcc:co (o c)=c:=g.po.gf _
  have h0:=(hB (cx (o c)) hnc).2
  rw [hx,hcc] at h0
  have h1:=Ch.rev (m:=muS (sgl n x o cx co) (csOf n o x co cx vs')) (E:=inH (sgl n x o cx co)) (S:=outH (sgl n x o cx co)) (fun u hu=>inv u (by
   rw [g.rowV_swap hoc,List.mem_reverse] at hu
   exact g.part_vis hc u (List.mem_append_right _ hu))) h0
  rw [g.rowV_swap hoc,List.reverse_reverse] at h1
  exact h1
theorem Gd.lo_swap_le {s s':List Bool} {vs vs':List (List Nat)} (hO:OrbI n (fun c=>cx (o c)) n s vs) (hO':OrbI n (fun c=>co (x c)) n s' vs'):loOf n x o cx co vs≤loOf n o x co cx vs':=by
 refine lo_le_of hO hO' (fun c=>c) (fun c h=>h) (fun a b _ _ e=>e) (fun v hv c hc=>?_) (fun v hv he c hc=>?_)
 ·
  obtain ⟨d,hd,e⟩:=cyc_pred (hO.cyc v hv) hc
  refine ⟨d,hd,?_⟩
  have e':cx (o d)=c:=e
  show co (x c)=d
  rw [←e',g.px.fg,g.po.gf]
 ·
  have hcn:=hO.lt c (List.mem_flatten.2 ⟨v,hv,hc⟩)
  obtain ⟨d,hd,e⟩:=cyc_pred (hO.cyc v hv) hc
  have h1:=he c hc
  have h2:=he d hd
  unfold part at h1 h2⊢
  have hx:x c=o d:=by rw [←e]; exact g.px.fg _
  rw [List.append_eq_nil_iff] at h1 h2⊢
  rw [g.colV_swap hcn,hx,g.rowV_swap (g.ol (hO.lt d (List.mem_flatten.2 ⟨v,hv,hd⟩))),h1.1,h2.2]
  exact ⟨rfl,rfl⟩
theorem Gd.dv (hL:(crl n x o cx co).length≤64) {s:List Bool} {vs:List (List Nat)} (hO:OrbI n (fun c=>cx (o c)) n s vs):DV (sgl n x o cx co) (mtS (sgl n x o cx co) (csOf n x o cx co vs)) (loOf n x o cx co vs) (muS (sgl n x o cx co) (csOf n x o cx co vs)):=by
 have hg:=g.genus hL hO
 exact (g.gv hL hO).dv (by rw [hg]; rfl)
theorem Gd.same_swap (hn:n<20) (hL:(crl n x o cx co).length≤64) {s s':List Bool} {vs vs':List (List Nat)} (hO:OrbI n (fun c=>cx (o c)) n s vs) (hO':OrbI n (fun c=>co (x c)) n s' vs') (m:Nat) (hm:200000<m):
  ∃M1,F.mirror_Reverse m (sgl n x o cx co) (mtS (sgl n x o cx co) (csOf n x o cx co vs)) (loOf n x o cx co vs)=some (sgl n x o cx co,M1,loOf n x o cx co vs,0)∧
   F.canon_Same m (sgl n o x co cx) (mtS (sgl n o x co cx) (csOf n o x co cx vs')) (loOf n o x co cx vs') (sgl n x o cx co) M1 (loOf n x o cx co vs)=some true:=by
 have g':=g.swap
 have hL':(crl n o x co cx).length≤64:=by rw [crl_swap]; exact hL
 have D:=g.dv hL hO
 have D':=g'.dv hL' hO'
 have hlo:loOf n o x co cx vs'=loOf n x o cx co vs:=Int.le_antisymm (g'.lo_swap_le hO' hO) (g.lo_swap_le hO hO')
 rw [g.sgl_swap,hlo] at D'
 have DM:=D.mir rv_tau (sg':=sgl n x o cx co) rfl D.sgn false (fun h hh=>by
  have hs:=D.sgn _ (List.getElem_mem (show h/ 4<(sgl n x o cx co).length by omega))
  have e:(sgl n x o cx co).getD (h/ 4) 0=(sgl n x o cx co)[h/ 4]'(by omega):=getD_of' (by omega) 0
  have q1:rv h/ 4=h/ 4:=by unfold rv turnN; omega
  have q2:rv h%4=(h%4+2)%4:=by unfold rv turnN; omega
  unfold Outg
  rw [q1,q2,e]
  generalize (sgl n x o cx co)[h/ 4]'(by omega)=z at*
  simp only [Bool.false_eq_true,iff_false]
  omega) (fun μ' h' hm'=>faces_turn D.mt.iv h' rv_tau hm' rv_turn)
 have I:=iso_of (sg:=sgl n x o cx co) (sg':=sgl n x o cx co) (μ:=muS (sgl n x o cx co) (csOf n x o cx co vs)) (μ':=muS (sgl n x o cx co) (csOf n o x co cx vs')) (π:=fun c=>c) rv_tau (fun c h=>h) (fun a b _ _ e=>e) (fun c _=>rfl) (fun h hh=>by
  have:=g.mates_swap hL hO hO' h hh
  have e: ∀k,Tm (fun c=>c) k=k:=fun k=>by unfold Tm; dsimp only; omega
  rw [e,e]; exact this)
 have hcl:=g.cls_le hL hO
 have hvl:=hO.vl
 have hK:=parts_mir D.mt.iv (mt_mir D.mt rv_tau).iv rv_tau (fun k _=>by unfold mvd2; rw [rv_tau.l])
 refine ⟨_,reverse_eq D m (by omega),?_⟩
 rw [g.sgl_swap,hlo]
 exact (same_of_iso DM D' rfl I (by rw [hK]; omega) m hm).2
end
open Gar Pg
abbrev Pr:=Nat×Nat
def pin (L L':List Pr) (θ:Pr→Pr) (c:Nat):Nat:=num L' (θ (L.getD c (0,0)))
def vth (L L':List Pr) (θ:Pr→Pr) (fb:Bool) (u:Vis):Vis:=((pin L L' θ u.1.toNat:Int),u.2^^fb)
structure Th (L L':List Pr) (θ:Pr→Pr):Prop where
 nd:L.Nodup
 to: ∀p∈L,θ p∈L'
 inj: ∀p∈L,∀q∈L,θ p=θ q→p=q
 len:L'.length=L.length
section
variable {L L' : List Pr} {θ : Pr → Pr} (T : Th L L' θ)
include T
omit T in
theorem getD_mem {c:Nat} (h:c<L.length):L.getD c (0,0)∈L:=by
 rw [getD_of' h]; exact List.getElem_mem h
omit T in
theorem getD_num {p:Pr} (h:p∈L):L.getD (num L p) (0,0)=p:=by
 rw [List.getD_eq_getElem?_getD,at_num h]; rfl
theorem Th.num_getD {c:Nat} (h:c<L.length):num L (L.getD c (0,0))=c:=num_at T.nd (by rw [gE h,getD_of' h])
omit T in
theorem Th.pin_num {p:Pr} (h:p∈L):pin L L' θ (num L p)=num L' (θ p):=by
 unfold pin
 rw [getD_num h]
theorem Th.lt {c:Nat} (h:c<L.length):pin L L' θ c<L.length:=by
 have:=num_lt (T.to _ (getD_mem h))
 rw [T.len] at this
 exact this
theorem Th.pinj {a b:Nat} (ha:a<L.length) (hb:b<L.length) (e:pin L L' θ a=pin L L' θ b):a=b:=by
 unfold pin at e
 have h1:=num_inj (T.to _ (getD_mem ha)) (T.to _ (getD_mem hb)) e
 have h2:=T.inj _ (getD_mem ha) _ (getD_mem hb) h1
 have h3:=congrArg (num L) h2
 rwa [T.num_getD ha,T.num_getD hb] at h3
end
section
variable {L L' : List Pr} {θ : Pr → Pr}
theorem vth_ov {p:Pr} (h:p∈L):vth L L' θ false (vov L p)=vov L' (θ p)∧vth L L' θ true (vov L p)=vun L' (θ p):=by
 unfold vth vov vun
 dsimp only
 rw [Int.toNat_natCast,Th.pin_num h]
 exact ⟨rfl,rfl⟩
theorem vth_un {p:Pr} (h:p∈L):vth L L' θ false (vun L p)=vun L' (θ p)∧vth L L' θ true (vun L p)=vov L' (θ p):=by
 unfold vth vov vun
 dsimp only
 rw [Int.toNat_natCast,Th.pin_num h]
 exact ⟨rfl,rfl⟩
theorem ends_rf' {sg sg':List Int} {π:Nat→Nat} {u:Vis} {c:Nat} (hu:u.1.toNat=c) (hs:sg.getD c 0=1∨sg.getD c 0=-1) (hn:sg'.getD (π c) 0=-(sg.getD c 0)):
  inH sg' ((π c:Int),u.2)=Tm π (rf (inH sg u))∧outH sg' ((π c:Int),u.2)=Tm π (rf (outH sg u)):=by
 obtain ⟨k,b⟩:=u
 dsimp only at hu
 unfold inH outH rf Tm
 dsimp only
 rw [Int.toNat_natCast,hu,hn]
 rcases hs with hs | hs<;>rw [hs]<;>cases b<;>simp only [if_true,if_false,Bool.false_eq_true,show¬((-1:Int)=1) by decide,show (- (-1:Int))=1 by decide,show¬(-(1:Int)=1) by decide]<;>
  (constructor<;>(rw [show∀k,k<4→(4*((4*c+k)/ 4)+(4-(4*c+k)%4)%4)/ 4=c by omega]<;>omega))
end
theorem seg_flip {n a b:Nat} (ha:a<n) (hb:b<n):seg (n-1-a) (n-1-b)=(seg a b).map fun t=>n-1-t:=by
 unfold seg segk
 rw [List.map_map,show max (n-1-a) (n-1-b)-min (n-1-a) (n-1-b)=max a b-min a b by omega]
 refine List.map_congr_left fun t ht=>?_
 have:=List.mem_range.1 ht
 show (if n-1-a<n-1-b then n-1-a+t else n-1-a-t)=n-1-(if a<b then a+t else a-t)
 by_cases h:a<b
 · rw [if_pos h,if_neg (by omega)]; omega
 · rw [if_neg h,if_pos (by omega)]; omega
theorem seg_lt {n a b:Nat} (ha:a<n) (hb:b<n): ∀r∈seg a b,r<n:=by
 intro r hr
 unfold seg segk at hr
 obtain ⟨t,ht,rfl⟩:=List.mem_map.1 hr
 have:=List.mem_range.1 ht
 split<;>omega
end Gl
end Go.Proofs.Yticemffhlapnnaa
