import Derived.Test.YteajmbanlohncaaS
set_option linter.unusedVariables false
set_option linter.unusedSimpArgs false
namespace Go.Proofs.Yteajmbanlohncaa
open Ev Try
set_option maxRecDepth 100000
set_option maxHeartbeats 4000000
theorem ref46_fits_ok (n:Nat) {w:World} {O0:List Nat} (hO: ∀k∈O0,k<w.heap.size) {d:Int} (g:I64 d) {c:Int} (h:I64 c) {f:Int} (j:I64 f) {r:Bool} (hb:F.ref46_fits n d c f=some r):
    Calls prog 47 #[.agg #[iv d,iv c,iv f]] w fun e w'=> ∃v,e=.returned v∧v=.bool r∧Cx (fun _=>False) O0 w w' []:=by
 unfold F.ref46_fits at hb
 have hC:=Cx.start hO
 clear hO
 refine calls_of_Wc func47 rfl (by rw [ntmps47]; exact nb rfl) fun KR hKR=>?_
 refine Wc.seq fun _ hK1=>rg<|lex.op (hC.box (cs:=[iv d,iv c,iv f]) rfl rfl) ?_
 rintro _ w3 ⟨g2,rfl,hC,hF,-⟩
 refine lp (.bool false) (pu_assign rfl)<|ln (hK1 _ _ ?_)
 refine Wc.seq fun _ hK5=>rg<|lp (.pointer (some ((⟨g2,0,none⟩:Addr).add 0))) (pu_field (sz:=1) underlying23 rfl sizeOf3 (by decide) rfl rfl)<|lv (iv d) (ld_fld (hC.bx (i:=0) rfl) isAgg3 rfl rfl)<|lp (.bool (decide ((-1000)≤d))) (pu_geq (k:=.i64) (a:=d) (b:=(-1000)) rfl rfl)<|lp (.bool (decide ((-1000)≤d))) (pu_move rfl) ?_
 rcases bS (decide ((-1000)≤d)) with hq6 | hq6
 replace hb:=tt hq6 hb
 refine gp rfl rfl (decide ((-1000)≤d)) rfl hq6 (.pointer (some ((⟨g2,0,none⟩:Addr).add 0))) (pu_field (sz:=1) underlying23 rfl sizeOf3 (by decide) rfl rfl)<|gv rfl rfl (decide ((-1000)≤d)) rfl hq6 (iv d) (ld_fld (hC.bx (i:=0) rfl) isAgg3 rfl rfl)<|gp rfl rfl (decide ((-1000)≤d)) rfl hq6 (.bool (decide (d≤1000))) (pu_leq (k:=.i64) (a:=d) (b:=1000) rfl rfl)<|lp (.bool (decide (d≤1000))) (pu_pickT (q:=(decide ((-1000)≤d))) rfl hq6 rfl)<|lp (.bool (decide (d≤1000))) (pu_move rfl) ?_
 rcases bS (decide (d≤1000)) with hq7 | hq7
 replace hb:=tt hq7 hb
 refine gp rfl rfl (decide (d≤1000)) rfl hq7 (.pointer (some ((⟨g2,0,none⟩:Addr).add 1))) (pu_field (sz:=1) underlying23 rfl sizeOf3 (by decide) rfl rfl)<|gv rfl rfl (decide (d≤1000)) rfl hq7 (iv c) (ld_fld (hC.bx (i:=0) rfl) isAgg3 rfl rfl)<|gp rfl rfl (decide (d≤1000)) rfl hq7 (.bool (decide ((-1000)≤c))) (pu_geq (k:=.i64) (a:=c) (b:=(-1000)) rfl rfl)<|lp (.bool (decide ((-1000)≤c))) (pu_pickT (q:=(decide (d≤1000))) rfl hq7 rfl)<|lp (.bool (decide ((-1000)≤c))) (pu_move rfl) ?_
 rcases bS (decide ((-1000)≤c)) with hq8 | hq8
 replace hb:=tt hq8 hb
 refine gp rfl rfl (decide ((-1000)≤c)) rfl hq8 (.pointer (some ((⟨g2,0,none⟩:Addr).add 1))) (pu_field (sz:=1) underlying23 rfl sizeOf3 (by decide) rfl rfl)<|gv rfl rfl (decide ((-1000)≤c)) rfl hq8 (iv c) (ld_fld (hC.bx (i:=0) rfl) isAgg3 rfl rfl)<|gp rfl rfl (decide ((-1000)≤c)) rfl hq8 (.bool (decide (c≤1000))) (pu_leq (k:=.i64) (a:=c) (b:=1000) rfl rfl)<|lp (.bool (decide (c≤1000))) (pu_pickT (q:=(decide ((-1000)≤c))) rfl hq8 rfl)<|lp (.bool (decide (c≤1000))) (pu_move rfl) ?_
 rcases bS (decide (c≤1000)) with hq9 | hq9
 replace hb:=tt hq9 hb
 refine gp rfl rfl (decide (c≤1000)) rfl hq9 (.pointer (some ((⟨g2,0,none⟩:Addr).add 2))) (pu_field (sz:=1) underlying23 rfl sizeOf3 (by decide) rfl rfl)<|gv rfl rfl (decide (c≤1000)) rfl hq9 (iv f) (ld_fld (hC.bx (i:=0) rfl) isAgg3 rfl rfl)<|gp rfl rfl (decide (c≤1000)) rfl hq9 (.bool (decide ((-1000)≤f))) (pu_geq (k:=.i64) (a:=f) (b:=(-1000)) rfl rfl)<|lp (.bool (decide ((-1000)≤f))) (pu_pickT (q:=(decide (c≤1000))) rfl hq9 rfl)<|lp (.bool (decide ((-1000)≤f))) (pu_move rfl) ?_
 rcases bS (decide ((-1000)≤f)) with hq10 | hq10
 replace hb:=tt hq10 hb
 refine gp rfl rfl (decide ((-1000)≤f)) rfl hq10 (.pointer (some ((⟨g2,0,none⟩:Addr).add 2))) (pu_field (sz:=1) underlying23 rfl sizeOf3 (by decide) rfl rfl)<|gv rfl rfl (decide ((-1000)≤f)) rfl hq10 (iv f) (ld_fld (hC.bx (i:=0) rfl) isAgg3 rfl rfl)<|gp rfl rfl (decide ((-1000)≤f)) rfl hq10 (.bool (decide (f≤1000))) (pu_leq (k:=.i64) (a:=f) (b:=1000) rfl rfl)<|lp (.bool (decide (f≤1000))) (pu_pickT (q:=(decide ((-1000)≤f))) rfl hq10 rfl)<|lp (.bool (decide (f≤1000))) (pu_assign rfl)<|ln (hK5 _ _ ?_)
 obtain rfl:=os hb
 refine Wc.ret (hKR _ _ ?_)
 refine ⟨_,res1 results47 (tV (.bool (decide (f≤1000))) rfl),_,rfl,rfl,hC.sE []⟩
 replace hb:=tf hq10 hb
 refine gs rfl rfl (decide ((-1000)≤f)) rfl hq10<|gs rfl rfl (decide ((-1000)≤f)) rfl hq10<|gs rfl rfl (decide ((-1000)≤f)) rfl hq10<|lp (.bool false) (pu_pickF (q:=(decide ((-1000)≤f))) rfl hq10 rfl)<|lp (.bool false) (pu_assign rfl)<|ln (hK5 _ _ ?_)
 obtain rfl:=os hb
 refine Wc.ret (hKR _ _ ?_)
 refine ⟨_,res1 results47 (tV (.bool false) rfl),_,rfl,rfl,hC.sE []⟩
 replace hb:=tf hq9 hb
 refine gs rfl rfl (decide (c≤1000)) rfl hq9<|gs rfl rfl (decide (c≤1000)) rfl hq9<|gs rfl rfl (decide (c≤1000)) rfl hq9<|lp (.bool false) (pu_pickF (q:=(decide (c≤1000))) rfl hq9 rfl)<|lp (.bool false) (pu_move rfl)<|gs rfl rfl false rfl rfl<|gs rfl rfl false rfl rfl<|gs rfl rfl false rfl rfl<|lp (.bool false) (pu_pickF (q:=false) rfl rfl rfl)<|lp (.bool false) (pu_assign rfl)<|ln (hK5 _ _ ?_)
 obtain rfl:=os hb
 refine Wc.ret (hKR _ _ ?_)
 refine ⟨_,res1 results47 (tV (.bool false) rfl),_,rfl,rfl,hC.sE []⟩
 replace hb:=tf hq8 hb
 refine gs rfl rfl (decide ((-1000)≤c)) rfl hq8<|gs rfl rfl (decide ((-1000)≤c)) rfl hq8<|gs rfl rfl (decide ((-1000)≤c)) rfl hq8<|lp (.bool false) (pu_pickF (q:=(decide ((-1000)≤c))) rfl hq8 rfl)<|lp (.bool false) (pu_move rfl)<|gs rfl rfl false rfl rfl<|gs rfl rfl false rfl rfl<|gs rfl rfl false rfl rfl<|lp (.bool false) (pu_pickF (q:=false) rfl rfl rfl)<|lp (.bool false) (pu_move rfl)<|gs rfl rfl false rfl rfl<|gs rfl rfl false rfl rfl<|gs rfl rfl false rfl rfl<|lp (.bool false) (pu_pickF (q:=false) rfl rfl rfl)<|lp (.bool false) (pu_assign rfl)<|ln (hK5 _ _ ?_)
 obtain rfl:=os hb
 refine Wc.ret (hKR _ _ ?_)
 refine ⟨_,res1 results47 (tV (.bool false) rfl),_,rfl,rfl,hC.sE []⟩
 replace hb:=tf hq7 hb
 refine gs rfl rfl (decide (d≤1000)) rfl hq7<|gs rfl rfl (decide (d≤1000)) rfl hq7<|gs rfl rfl (decide (d≤1000)) rfl hq7<|lp (.bool false) (pu_pickF (q:=(decide (d≤1000))) rfl hq7 rfl)<|lp (.bool false) (pu_move rfl)<|gs rfl rfl false rfl rfl<|gs rfl rfl false rfl rfl<|gs rfl rfl false rfl rfl<|lp (.bool false) (pu_pickF (q:=false) rfl rfl rfl)<|lp (.bool false) (pu_move rfl)<|gs rfl rfl false rfl rfl<|gs rfl rfl false rfl rfl<|gs rfl rfl false rfl rfl<|lp (.bool false) (pu_pickF (q:=false) rfl rfl rfl)<|lp (.bool false) (pu_move rfl)<|gs rfl rfl false rfl rfl<|gs rfl rfl false rfl rfl<|gs rfl rfl false rfl rfl<|lp (.bool false) (pu_pickF (q:=false) rfl rfl rfl)<|lp (.bool false) (pu_assign rfl)<|ln (hK5 _ _ ?_)
 obtain rfl:=os hb
 refine Wc.ret (hKR _ _ ?_)
 refine ⟨_,res1 results47 (tV (.bool false) rfl),_,rfl,rfl,hC.sE []⟩
 replace hb:=tf hq6 hb
 refine gs rfl rfl (decide ((-1000)≤d)) rfl hq6<|gs rfl rfl (decide ((-1000)≤d)) rfl hq6<|gs rfl rfl (decide ((-1000)≤d)) rfl hq6<|lp (.bool false) (pu_pickF (q:=(decide ((-1000)≤d))) rfl hq6 rfl)<|lp (.bool false) (pu_move rfl)<|gs rfl rfl false rfl rfl<|gs rfl rfl false rfl rfl<|gs rfl rfl false rfl rfl<|lp (.bool false) (pu_pickF (q:=false) rfl rfl rfl)<|lp (.bool false) (pu_move rfl)<|gs rfl rfl false rfl rfl<|gs rfl rfl false rfl rfl<|gs rfl rfl false rfl rfl<|lp (.bool false) (pu_pickF (q:=false) rfl rfl rfl)<|lp (.bool false) (pu_move rfl)<|gs rfl rfl false rfl rfl<|gs rfl rfl false rfl rfl<|gs rfl rfl false rfl rfl<|lp (.bool false) (pu_pickF (q:=false) rfl rfl rfl)<|lp (.bool false) (pu_move rfl)<|gs rfl rfl false rfl rfl<|gs rfl rfl false rfl rfl<|gs rfl rfl false rfl rfl<|lp (.bool false) (pu_pickF (q:=false) rfl rfl rfl)<|lp (.bool false) (pu_assign rfl)<|ln (hK5 _ _ ?_)
 obtain rfl:=os hb
 refine Wc.ret (hKR _ _ ?_)
 refine ⟨_,res1 results47 (tV (.bool false) rfl),_,rfl,rfl,hC.sE []⟩
end Go.Proofs.Yteajmbanlohncaa
