import Derived.Test.YteajmbanlohncaaS
set_option linter.unusedVariables false
set_option linter.unusedSimpArgs false
namespace Go.Proofs.Yteajmbanlohncaa
open Ev Try
set_option maxRecDepth 100000
set_option maxHeartbeats 4000000
theorem law46_few_ok (n:Nat) {w:World} {O0:List Nat} (hO: ∀k∈O0,k<w.heap.size) {g:Option Addr} {o h:Nat} {c:List (List (Int×(Int×Int)))} (p:Rep O0 w (.sl (.sl (.pr si (.pr si si)))) [.slice g o h] c) {r:Bool} (hb:F.law46_few n c=some r):
    Calls prog 14 #[.slice g o h] w fun e w'=> ∃v,e=.returned v∧v=.bool r∧Cx (fun _=>False) O0 w w' []:=by
 unfold F.law46_few at hb
 have hC:=Cx.start hO
 replace hC:=hC.arg rfl p
 clear hO
 obtain ⟨rfl,s,u⟩:=p.sl_len
 refine calls_of_Wc func14 rfl (by rw [ntmps14]; exact nb rfl) fun KR hKR=>?_
 refine Wc.seq fun _ hK2=>rg<|lp (.bool false) (pu_assign rfl)<|ln (hK2 _ _ ?_)
 refine Wc.seq fun _ hK3=>rg<|lp (iv 0) (pu_assign rfl)<|ln (hK3 _ _ ?_)
 refine Wc.seq fun _ hK4=>?_
 refine Wc.seq fun _ hK5=>rg<|lp (.slice g c.length h) (pu_move rfl)<|lp (iv (c.length:Int)) (pu_len (A:=g) (n:=c.length) (m:=h) underlying28 rfl)<|lp (iv 0) (pu_move rfl)<|ln (hK5 _ _ ?_)
 obtain ⟨o6,hl0,hb⟩:=bd hb
 refine Wc.cut (fun E wv=> ∃(d:Int) (f:Int),E 0=.slice g c.length h∧E 2=.bool false∧E 3=iv d∧I64 d∧I64 f∧Cx (fun _=>False) O0 w wv [.ro (.sl (.sl (.pr si (.pr si si)))) [.slice g c.length h] c]∧(cond (decide ((c.length:Int)≤24)) (some (decide (d≤24))) (some false):Option (Bool))=some r) (fun _ hK7=>?_) ?_
 refine Wc.block ?_
 refine Wc.loop (fun m E wv=> ∃(d:Int) (f:Int),E 0=.slice g c.length h∧E 2=.bool false∧E 3=iv d∧E 6=.slice g c.length h∧E 7=iv (c.length:Int)∧E 8=iv f∧I64 d∧I64 f∧Cx (fun _=>False) O0 w wv [.ro (.sl (.sl (.pr si (.pr si si)))) [.slice g c.length h] c]∧loopN m (F.law46_few_b0 n c) (d,f)=some o6) n ⟨0,0,rfl,rfl,rfl,rfl,rfl,rfl,(show I64 0 from by unfold I64; omega),(show I64 0 from by unfold I64; omega),hC.sE [0],hl0⟩ ?_
 have hbK0:=hb
 clear hb hC hl0
 rintro m9 E11 w10 ⟨d,f,e0,e2,e3,e6,e7,e8,j,l,hC,hl0⟩ K8 hK8
 obtain ⟨m9',o12,rfl,hb,hl0⟩:=loopN_some hl0
 unfold F.law46_few_b0 at hb
 refine Wc.seq fun _ hK13=>rg<|lp _ (pu_lss e8 e7)<|ln (hK13 _ _ ?_)
 refine Wc.seq fun _ hK14=>?_
 refine Wc.cond (t:=(decide (f<(c.length:Int)))) (rfl) (fun hq15=>?_) (fun hq15=>?_)
 replace hb:=tt hq15 hb
 refine Wc.skip (hK14 _ _ ?_)
 refine Wc.seq fun _ hK16=>?_
 refine Wc.block<|Wc.seq fun _ hK17=>rg ?_
 obtain ⟨x18,h19,hb⟩:=bd hb
 obtain ⟨ad20,cs21,hA,hc22,hr23⟩:=hC.elr (i:=0) rfl (get_some h19).2
 subst hA
 refine lp (.pointer (some (ad20.add (f.toNat*1)))) (pu_index (a:=f) underlying28 sizeOf43 e6 e8 (get_some h19).1) ?_
 have hR:=hr23
 obtain ⟨A24,c25,rfl,hl26,hc27,_⟩:=hr23
 replace hC:=hC.ro hR
 clear hR
 refine lv (.slice A24 x18.length c25) (ld_one isAgg43 rfl (hc22 0 _ rfl))<|lp (.slice A24 x18.length c25) (pu_assign rfl)<|ln (hK17 _ _ ?_)
 refine rg<|lp _ (pu_move e3)<|lp (.slice A24 x18.length c25) (pu_move rfl)<|lp (iv (x18.length:Int)) (pu_len (A:=A24) (n:=x18.length) (m:=c25) underlying43 rfl) ?_
 obtain ⟨z29,h30,hb⟩:=bd hb
 refine lp (iv z29) (pu_addc (a:=d) (b:=(x18.length:Int)) rfl rfl h30)<|lp (iv z29) (pu_assign rfl)<|ln (hK16 _ _ ?_)
 refine rg ?_
 obtain ⟨z31,h32,hb⟩:=bd hb
 refine lp (iv z31) (pu_addc (a:=f) (b:=1) e8 rfl h32)<|lp (iv z31) (pu_move rfl)<|ln ?_
 obtain rfl:=os hb
 exact hK8 m9' _ _ (Nat.lt_succ_self _) ⟨z29,z31,e0,e2,rfl,e6,e7,rfl,(chk_rng h30),(chk_rng h32),hC.sE [1],lN hl0⟩
 replace hb:=tf hq15 hb
 refine Wc.exit rfl ?_
 obtain rfl:=os hb
 obtain rfl:=(lX hl0).symm
 exact hK7 _ _ ⟨d,f,e0,e2,e3,j,l,hC.sE [0],hbK0⟩
 clear hb hC hl0
 rintro E34 w33 ⟨d,f,e0,e2,e3,j,l,hC,hb⟩
 refine hK4 _ _<|Wc.seq fun _ hK35=>rg<|lp _ (pu_move e0)<|lp (iv (c.length:Int)) (pu_len (A:=g) (n:=c.length) (m:=h) underlying28 rfl)<|lp (.bool (decide ((c.length:Int)≤24))) (pu_leq (k:=.i64) (a:=(c.length:Int)) (b:=24) rfl rfl)<|lp (.bool (decide ((c.length:Int)≤24))) (pu_move rfl) ?_
 rcases bS (decide ((c.length:Int)≤24)) with hq36 | hq36
 replace hb:=tt hq36 hb
 refine gp rfl rfl (decide ((c.length:Int)≤24)) rfl hq36 (iv d) (pu_move e3)<|gp rfl rfl (decide ((c.length:Int)≤24)) rfl hq36 (.bool (decide (d≤24))) (pu_leq (k:=.i64) (a:=d) (b:=24) rfl rfl)<|lp (.bool (decide (d≤24))) (pu_pickT (q:=(decide ((c.length:Int)≤24))) rfl hq36 rfl)<|lp (.bool (decide (d≤24))) (pu_assign rfl)<|ln (hK35 _ _ ?_)
 obtain rfl:=os hb
 refine Wc.ret (hKR _ _ ?_)
 refine ⟨_,res1 results14 (tV (.bool (decide (d≤24))) rfl),_,rfl,rfl,hC.sE []⟩
 replace hb:=tf hq36 hb
 refine gs rfl rfl (decide ((c.length:Int)≤24)) rfl hq36<|gs rfl rfl (decide ((c.length:Int)≤24)) rfl hq36<|lp (.bool false) (pu_pickF (q:=(decide ((c.length:Int)≤24))) rfl hq36 rfl)<|lp (.bool false) (pu_assign rfl)<|ln (hK35 _ _ ?_)
 obtain rfl:=os hb
 refine Wc.ret (hKR _ _ ?_)
 refine ⟨_,res1 results14 (tV (.bool false) rfl),_,rfl,rfl,hC.sE []⟩
end Go.Proofs.Yteajmbanlohncaa
