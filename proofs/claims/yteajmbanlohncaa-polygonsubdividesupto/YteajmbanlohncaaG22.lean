import Derived.Test.YteajmbanlohncaaS
set_option linter.unusedVariables false
set_option linter.unusedSimpArgs false
namespace Go.Proofs.Yteajmbanlohncaa
open Ev Try
set_option maxRecDepth 100000
set_option maxHeartbeats 4000000
theorem slices_Equal_Lint_int_ok (n:Nat) {w:World} {O0:List Nat} (hO: ∀k∈O0,k<w.heap.size) {g:Option Addr} {p h:Nat} {d:List Int} (q:Rep O0 w (.sl si) [.slice g p h] d) {j:Option Addr} {s l:Nat} {f:List Int} (u:Rep O0 w (.sl si) [.slice j s l] f) {r:Bool} (hb:F.slices_Equal_Lint_int n d f=some r):
    Calls prog 64 #[.slice g p h,.slice j s l] w fun e w'=> ∃v,e=.returned v∧v=.bool r∧Cx (fun _=>False) O0 w w' []:=by
 unfold F.slices_Equal_Lint_int at hb
 have hC:=Cx.start hO
 replace hC:=hC.arg rfl q
 replace hC:=hC.arg rfl u
 clear hO
 obtain ⟨rfl,x,y⟩:=q.sl_len
 obtain ⟨rfl,z,B⟩:=u.sl_len
 refine calls_of_Wc func64 rfl (by rw [ntmps64]; exact nb rfl) fun KR hKR=>?_
 refine Wc.seq fun _ hK3=>rg<|lp (.bool false) (pu_assign rfl)<|ln (hK3 _ _ ?_)
 refine Wc.seq fun _ hK4=>?_
 refine Wc.seq fun _ hK5=>rg<|lp (.slice g d.length h) (pu_move rfl)<|lp (iv (d.length:Int)) (pu_len (A:=g) (n:=d.length) (m:=h) underlying30 rfl)<|lp (.slice j f.length l) (pu_move rfl)<|lp (iv (f.length:Int)) (pu_len (A:=j) (n:=f.length) (m:=l) underlying30 rfl)<|lp (.bool (!(decide ((d.length:Int)=(f.length:Int))))) (pu_neq (k:=.i64) (a:=(d.length:Int)) (b:=(f.length:Int)) rfl rfl)<|ln (hK5 _ _ ?_)
 refine Wc.cond (t:=(!(decide ((d.length:Int)=(f.length:Int))))) (rfl) (fun hq6=>?_) (fun hq6=>?_)
 replace hb:=tt hq6 hb
 refine Wc.seq fun _ hK7=>rg<|lp (.bool false) (pu_assign rfl)<|ln (hK7 _ _ ?_)
 obtain rfl:=os hb
 refine Wc.ret (hKR _ _ ?_)
 refine ⟨_,res1 results64 (tV (.bool false) rfl),_,rfl,rfl,hC.sE []⟩
 replace hb:=tf hq6 hb
 refine Wc.skip (hK4 _ _ ?_)
 refine Wc.seq fun _ hK8=>?_
 refine Wc.seq fun _ hK9=>rg<|lp (.slice g d.length h) (pu_move rfl)<|lp (iv (d.length:Int)) (pu_len (A:=g) (n:=d.length) (m:=h) underlying30 rfl)<|lp (iv 0) (pu_move rfl)<|ln (hK9 _ _ ?_)
 obtain ⟨o10,hl0,hb⟩:=bd hb
 refine Wc.cut (fun E wv=> ∃(c:Int),E 4=.bool false∧I64 c∧Cx (fun _=>False) O0 w wv []∧(some true:Option (Bool))=some r) (fun _ hK11=>?_) ?_
 refine Wc.block ?_
 refine Wc.loop (fun m E wv=> ∃(c:Int),E 0=.slice g d.length h∧E 1=.slice j f.length l∧E 4=.bool false∧E 12=iv (d.length:Int)∧E 13=iv c∧I64 c∧Cx (fun _=>False) O0 w wv [.ro (.sl si) [.slice g d.length h] d,.ro (.sl si) [.slice j f.length l] f]∧loopN m (F.slices_Equal_Lint_int_b0 n d f) c=some o10) n ⟨0,rfl,rfl,rfl,rfl,rfl,(show I64 0 from by unfold I64; omega),hC.sE [1,0],hl0⟩ ?_
 have hbK0:=hb
 clear hb hC hl0
 rintro m13 E15 w14 ⟨c,e0,e1,e4,e12,e13,o,hC,hl0⟩ K12 hK12
 obtain ⟨m13',o16,rfl,hb,hl0⟩:=loopN_some hl0
 unfold F.slices_Equal_Lint_int_b0 at hb
 refine Wc.seq fun _ hK17=>rg<|lp _ (pu_lss e13 e12)<|ln (hK17 _ _ ?_)
 refine Wc.seq fun _ hK18=>?_
 refine Wc.cond (t:=(decide (c<(d.length:Int)))) (rfl) (fun hq19=>?_) (fun hq19=>?_)
 replace hb:=tt hq19 hb
 refine Wc.skip (hK18 _ _ ?_)
 refine Wc.seq fun _ hK20=>?_
 refine Wc.block<|Wc.seq fun _ hK21=>rg<|lp _ (pu_move e13)<|lp (iv c) (pu_assign rfl)<|ln (hK21 _ _ ?_)
 refine Wc.seq fun _ hK22=>?_
 refine Wc.regionMix [] (frm [] ([]:List Fact) ([]:List Fact)) (fun _=>rfl) mixed (by decide+kernel) (by decide+kernel) fun w24 hw23=>?_
 replace hC:=hC.step (Fr.of_drew hw23)
 have hM:=Fr.refl (fun k=>k∈blocks ([]:List Fact)) w24
 clear hw23
 have hS:=hC
 refine mp (.slice g d.length h) (pu_move e0)<|mp (iv c) (pu_move rfl) ?_
 obtain ⟨x25,h26,hb⟩:=bd hb
 obtain ⟨ad27,cs28,hA,ho31,hc29,hr30⟩:=hS.elr2 (i:=0) rfl (get_some h26).2 []
 subst hA
 refine mp (.pointer (some (ad27.add (c.toNat*1)))) (pu_index (a:=c) underlying30 sizeOf3 rfl rfl (get_some h26).1) ?_
 obtain ⟨rfl,hr30'⟩:=hr30
 refine mixE.load hM (v:=iv x25) (fun _ hF=>ld_one isAgg3 rfl (hF.cell (hc29 0 _ rfl) (off1 ho31)))<|mp (.slice j f.length l) (pu_move e1)<|mp (iv c) (pu_move rfl) ?_
 obtain ⟨x32,h33,hb⟩:=bd hb
 obtain ⟨ad34,cs35,hA,ho38,hc36,hr37⟩:=hS.elr2 (i:=1) rfl (get_some h33).2 []
 subst hA
 refine mp (.pointer (some (ad34.add (c.toNat*1)))) (pu_index (a:=c) underlying30 sizeOf3 rfl rfl (get_some h33).1) ?_
 obtain ⟨rfl,hr37'⟩:=hr37
 refine mixE.load hM (v:=iv x32) (fun _ hF=>ld_one isAgg3 rfl (hF.cell (hc36 0 _ rfl) (off1 ho38)))<|mp (.bool (!(decide (x25=x32)))) (pu_neq (k:=.i64) (a:=x25) (b:=x32) rfl rfl)<|mixE.nil ?_
 clear hS hM
 refine hK22 _ _<|Wc.cond (t:=(!(decide (x25=x32)))) (rfl) (fun hq39=>?_) (fun hq39=>?_)
 replace hb:=tt hq39 hb
 refine Wc.seq fun _ hK40=>rg<|lp (.bool false) (pu_assign rfl)<|ln (hK40 _ _ ?_)
 obtain rfl:=os hb
 obtain rfl:=(lX hl0).symm
 replace hb:=hbK0
 obtain rfl:=os hb
 refine Wc.ret (hKR _ _ ?_)
 refine ⟨_,res1 results64 (tV (.bool false) rfl),_,rfl,rfl,hC.sE []⟩
 replace hb:=tf hq39 hb
 refine Wc.skip (hK20 _ _ ?_)
 refine rg ?_
 obtain ⟨z41,h42,hb⟩:=bd hb
 refine lp (iv z41) (pu_addc (a:=c) (b:=1) e13 rfl h42)<|lp (iv z41) (pu_move rfl)<|ln ?_
 obtain rfl:=os hb
 exact hK12 m13' _ _ (Nat.lt_succ_self _) ⟨z41,e0,e1,e4,e12,rfl,(chk_rng h42),hC.sE [0,1],lN hl0⟩
 replace hb:=tf hq19 hb
 refine Wc.exit rfl ?_
 obtain rfl:=os hb
 obtain rfl:=(lX hl0).symm
 exact hK11 _ _ ⟨c,e4,o,hC.sE [],hbK0⟩
 clear hb hC hl0
 rintro E44 w43 ⟨c,e4,o,hC,hb⟩
 refine hK8 _ _<|Wc.seq fun _ hK45=>rg<|lp (.bool true) (pu_assign rfl)<|ln (hK45 _ _ ?_)
 obtain rfl:=os hb
 refine Wc.ret (hKR _ _ ?_)
 refine ⟨_,res1 results64 (tV (.bool true) rfl),_,rfl,rfl,hC.sE []⟩
end Go.Proofs.Yteajmbanlohncaa
