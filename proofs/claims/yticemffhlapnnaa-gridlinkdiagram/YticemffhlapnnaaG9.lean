/- The walks: part 9. -/
import Derived.Test.YticemffhlapnnaaS
import Derived.Test.YticemffhlapnnaaG3
import Derived.Test.YticemffhlapnnaaG4
import Derived.Test.YticemffhlapnnaaG6
import Derived.Test.YticemffhlapnnaaG7
import Derived.Test.YticemffhlapnnaaG8
set_option linter.unusedVariables false
set_option linter.unusedSimpArgs false
namespace Go.Proofs.Yticemffhlapnnaa
open Ev
set_option maxRecDepth 100000 in
set_option maxHeartbeats 4000000 in
theorem law44_GridlinkDiagram_ok (n : Nat) {w : World} {O0 : List Nat} (hO : ∀ k ∈ O0, k < w.heap.size) {Ag_0_0 : Option Addr} {mg_0_0 cg_0_0 : Nat} {g_0_0 : List Int} (hg_0_0 : Rep O0 w (.sl (.int .i64)) [.slice Ag_0_0 mg_0_0 cg_0_0] g_0_0) {Ag_0_1 : Option Addr} {mg_0_1 cg_0_1 : Nat} {g_0_1 : List Int} (hg_0_1 : Rep O0 w (.sl (.int .i64)) [.slice Ag_0_1 mg_0_1 cg_0_1] g_0_1) {r : Bool} (hb : F.law44_GridlinkDiagram n g_0_0 g_0_1 = some r) :
    Calls Try.prog 3 #[.agg #[.slice Ag_0_0 mg_0_0 cg_0_0, .slice Ag_0_1 mg_0_1 cg_0_1]] w fun e w' => ∃ v, e = .returned v ∧ v = .bool r ∧ Cx (fun _ => False) O0 w w' [] := by
 unfold F.law44_GridlinkDiagram at hb
 have hC := Cx.start hO
 replace hC := hC.arg rfl hg_0_0
 replace hC := hC.arg rfl hg_0_1
 clear hO
 obtain ⟨rfl, hlg_0_0, hcg_0_0⟩ := hg_0_0.sl_len
 obtain ⟨rfl, hlg_0_1, hcg_0_1⟩ := hg_0_1.sl_len
 refine calls_of_Wc Try.func3 rfl (by rw [Try.ntmps3]; exact Nat.le_of_ble_eq_true rfl) fun KR hKR => ?_
 refine Wc.seq fun K3 hK3 => ?_
 refine rg ?_
 refine lex.op (hC.box (cs := [.slice Ag_0_0 g_0_0.length cg_0_0, .slice Ag_0_1 g_0_1.length cg_0_1]) rfl rfl) ?_
 rintro _ w5 ⟨g4, rfl, hC, hF, hG⟩
 clear hG
 refine lp (.bool false) (pu_assign rfl) ?_
 refine ln ?_
 refine hK3 _ _ ?_
 refine Wc.seq fun K7 hK7 => ?_
 refine Wc.seq fun K8 hK8 => ?_
 refine rg ?_
 obtain ⟨y9, h10, hb⟩ := bd hb
 refine lex.cl (⟨_, _, op_call (vs := []) Try.call11 rfl rfl rfl, law44_awake_ok n hC.lt  h10⟩) ?_
 rintro _ w11 ⟨rfl, hK⟩
 replace hC := hC.merge hK
 clear hK
 refine lp (.bool (!y9)) (pu_not (q := y9) rfl) ?_
 refine ln ?_
 refine hK8 _ _ ?_
 refine Wc.cond (t := (!y9)) (rfl) (fun hq12 => ?_) (fun hq12 => ?_)
 replace hb := tt hq12 hb
 refine Wc.seq fun K13 hK13 => ?_
 refine rg ?_
 refine lp (.bool false) (pu_assign rfl) ?_
 refine ln ?_
 refine hK13 _ _ ?_
 obtain rfl := os hb
 refine Wc.ret ?_
 refine hKR _ _ ?_
 refine ⟨_, res1 Try.results3 (show RV _ _ _ (.tmp _) (.bool false) from rfl), _, rfl, rfl, hC.sel [] (by decide)⟩
 replace hb := tf hq12 hb
 refine Wc.skip ?_
 refine hK7 _ _ ?_
 refine Wc.seq fun K14 hK14 => ?_
 refine Wc.seq fun K15 hK15 => ?_
 refine rg ?_
 refine lv (.agg #[.slice Ag_0_0 g_0_0.length cg_0_0, .slice Ag_0_1 g_0_1.length cg_0_1]) (ld_blk (hC.bx (i := 0) rfl) Try.isAgg24 Try.sizeOf24 rfl) ?_
 obtain ⟨y16, h17, hb⟩ := bd hb
 refine lex.cl (⟨_, _, op_call (vs := [.agg #[.slice Ag_0_0 g_0_0.length cg_0_0, .slice Ag_0_1 g_0_1.length cg_0_1]]) Try.call12 rfl rfl rfl, law44_small_ok n hC.lt (hC.rd (i := 2) rfl) (hC.rd (i := 1) rfl) h17⟩) ?_
 rintro _ w19 ⟨rfl, hr18, hK⟩
 replace hC := hC.merge hK
 clear hK
 refine lp (.bool (decide (y16 = 0))) (pu_eql (k := .i64) (a := y16) (b := 0) rfl rfl) ?_
 refine ln ?_
 refine hK15 _ _ ?_
 refine Wc.cond (t := (decide (y16 = 0))) (rfl) (fun hq20 => ?_) (fun hq20 => ?_)
 replace hb := tt hq20 hb
 refine Wc.seq fun K21 hK21 => ?_
 refine rg ?_
 refine lp (.bool true) (pu_assign rfl) ?_
 refine ln ?_
 refine hK21 _ _ ?_
 obtain rfl := os hb
 refine Wc.ret ?_
 refine hKR _ _ ?_
 refine ⟨_, res1 Try.results3 (show RV _ _ _ (.tmp _) (.bool true) from rfl), _, rfl, rfl, hC.sel [] (by decide)⟩
 replace hb := tf hq20 hb
 refine Wc.skip ?_
 refine hK14 _ _ ?_
 refine Wc.seq fun K22 hK22 => ?_
 refine rg ?_
 refine lv (.agg #[.slice Ag_0_0 g_0_0.length cg_0_0, .slice Ag_0_1 g_0_1.length cg_0_1]) (ld_blk (hC.bx (i := 0) rfl) Try.isAgg24 Try.sizeOf24 rfl) ?_
 obtain ⟨y23, h24, hb⟩ := bd hb
 refine lex.cl (⟨_, _, op_call (vs := [.agg #[.slice Ag_0_0 g_0_0.length cg_0_0, .slice Ag_0_1 g_0_1.length cg_0_1]]) Try.call13 rfl rfl rfl, gridlink_Diagram_ok n hC.lt (hC.rd (i := 2) rfl) (hC.rd (i := 1) rfl) h24⟩) ?_
 rintro _ w35 ⟨A25, m26, c27, A29, m30, c31, rfl, hr33, hr34, hK⟩
 replace hC := hC.merge hK
 clear hK
 obtain ⟨rfl, hl36, hc37⟩ := (hC.ow (i := 0) rfl).sl_len
 obtain ⟨rfl, hl38, hc39⟩ := (hC.ow (i := 1) rfl).sl_len
 refine lp (.tuple #[.agg #[.slice A25 y23.1.length c27, .slice A29 y23.2.1.length c31, .int .i64 y23.2.2.1], .int .i64 y23.2.2.2]) (pu_move rfl) ?_
 refine lp (.agg #[.slice A25 y23.1.length c27, .slice A29 y23.2.1.length c31, .int .i64 y23.2.2.1]) (pu_extract rfl rfl) ?_
 refine lp (.int .i64 y23.2.2.2) (pu_extract rfl rfl) ?_
 refine lex.op (hC.alloc (cs := [.slice none 0 0, .slice none 0 0, .int .i64 0]) Try.zeroValue28 rfl) ?_
 rintro _ w41 ⟨g40, rfl, hC, hF, hG⟩
 clear hG
 refine lex.sk (hC.seta (i := 0) (ds := [.slice A25 y23.1.length c27, .slice A29 y23.2.1.length c31, .int .i64 y23.2.2.1]) rfl Try.type28 rfl rfl rfl rfl rfl) ?_
 rintro w43 ⟨hC, hF⟩
 refine lp (.int .i64 y23.2.2.2) (pu_assign rfl) ?_
 refine ln ?_
 refine hK22 _ _ ?_
 refine Wc.fresh fun E44 hE => ?_
 have e1 : E44 1 = .pointer (some ⟨g4, 0, none⟩) := (congrFun hE 1).trans rfl
 have e2 : E44 2 = .bool false := (congrFun hE 2).trans rfl
 have e3 : E44 3 = .pointer (some ⟨g40, 0, none⟩) := (congrFun hE 3).trans rfl
 have e4 : E44 4 = .int .i64 y23.2.2.2 := (congrFun hE 4).trans rfl
 clear hE
 refine Wc.seq fun K45 hK45 => ?_
 refine Wc.seq fun K46 hK46 => ?_
 refine rg ?_
 refine lv (.agg #[.slice Ag_0_0 g_0_0.length cg_0_0, .slice Ag_0_1 g_0_1.length cg_0_1]) (ld_blk (hC.bx (i := 3) rfl) Try.isAgg24 Try.sizeOf24 e1) ?_
 obtain ⟨y47, h48, hb⟩ := bd hb
 refine lex.cl (⟨_, _, op_call (vs := [.agg #[.slice Ag_0_0 g_0_0.length cg_0_0, .slice Ag_0_1 g_0_1.length cg_0_1]]) Try.call14 rfl rfl rfl, ref42_Valid_ok n hC.lt (hC.rd (i := 5) rfl) (hC.rd (i := 4) rfl) h48⟩) ?_
 rintro _ w49 ⟨rfl, hK⟩
 replace hC := hC.merge hK
 clear hK
 refine lp (.bool (!y47)) (pu_not (q := y47) rfl) ?_
 refine ln ?_
 refine hK46 _ _ ?_
 refine Wc.cond (t := (!y47)) (rfl) (fun hq50 => ?_) (fun hq50 => ?_)
 replace hb := tt hq50 hb
 refine Wc.seq fun K51 hK51 => ?_
 refine rg ?_
 refine lp (.int .i64 y23.2.2.2) (pu_move e4) ?_
 refine lp (.bool (decide (y23.2.2.2 = 1))) (pu_eql (k := .i64) (a := y23.2.2.2) (b := 1) rfl rfl) ?_
 refine lp (.bool (decide (y23.2.2.2 = 1))) (pu_move rfl) ?_
 rcases bS (decide (y23.2.2.2 = 1)) with hq52 | hq52
 replace hb := tt hq52 hb
 refine gp rfl rfl (decide (y23.2.2.2 = 1)) rfl hq52 (.pointer (some ((⟨g40, 0, none⟩ : Addr).add 0))) (pu_field (sz := 1) Try.underlying28 rfl Try.sizeOf22 (by decide) rfl e3) ?_
 refine gv rfl rfl (decide (y23.2.2.2 = 1)) rfl hq52 (.slice A25 y23.1.length c27) (ld_fld (hC.bx (i := 0) rfl) Try.isAgg22 rfl rfl) ?_
 refine gp rfl rfl (decide (y23.2.2.2 = 1)) rfl hq52 (.int .i64 (y23.1.length : Int)) (pu_len (A := A25) (n := y23.1.length) (m := c27) Try.underlying22 rfl) ?_
 refine gp rfl rfl (decide (y23.2.2.2 = 1)) rfl hq52 (.bool (decide ((y23.1.length : Int) = 0))) (pu_eql (k := .i64) (a := (y23.1.length : Int)) (b := 0) rfl rfl) ?_
 refine lp (.bool (decide ((y23.1.length : Int) = 0))) (pu_pickT (q := (decide (y23.2.2.2 = 1))) rfl hq52 rfl) ?_
 refine lp (.bool (decide ((y23.1.length : Int) = 0))) (pu_move rfl) ?_
 rcases bS (decide ((y23.1.length : Int) = 0)) with hq53 | hq53
 replace hb := tt hq53 hb
 refine gp rfl rfl (decide ((y23.1.length : Int) = 0)) rfl hq53 (.pointer (some ((⟨g40, 0, none⟩ : Addr).add 1))) (pu_field (sz := 1) Try.underlying28 rfl Try.sizeOf22 (by decide) rfl e3) ?_
 refine gv rfl rfl (decide ((y23.1.length : Int) = 0)) rfl hq53 (.slice A29 y23.2.1.length c31) (ld_fld (hC.bx (i := 0) rfl) Try.isAgg22 rfl rfl) ?_
 refine gp rfl rfl (decide ((y23.1.length : Int) = 0)) rfl hq53 (.int .i64 (y23.2.1.length : Int)) (pu_len (A := A29) (n := y23.2.1.length) (m := c31) Try.underlying22 rfl) ?_
 refine gp rfl rfl (decide ((y23.1.length : Int) = 0)) rfl hq53 (.bool (decide ((y23.2.1.length : Int) = 0))) (pu_eql (k := .i64) (a := (y23.2.1.length : Int)) (b := 0) rfl rfl) ?_
 refine lp (.bool (decide ((y23.2.1.length : Int) = 0))) (pu_pickT (q := (decide ((y23.1.length : Int) = 0))) rfl hq53 rfl) ?_
 refine lp (.bool (decide ((y23.2.1.length : Int) = 0))) (pu_move rfl) ?_
 rcases bS (decide ((y23.2.1.length : Int) = 0)) with hq54 | hq54
 replace hb := tt hq54 hb
 refine gp rfl rfl (decide ((y23.2.1.length : Int) = 0)) rfl hq54 (.pointer (some ((⟨g40, 0, none⟩ : Addr).add 2))) (pu_field (sz := 1) Try.underlying28 rfl Try.sizeOf3 (by decide) rfl e3) ?_
 refine gv rfl rfl (decide ((y23.2.1.length : Int) = 0)) rfl hq54 (.int .i64 y23.2.2.1) (ld_fld (hC.bx (i := 0) rfl) Try.isAgg3 rfl rfl) ?_
 refine gp rfl rfl (decide ((y23.2.1.length : Int) = 0)) rfl hq54 (.bool (decide (y23.2.2.1 = 0))) (pu_eql (k := .i64) (a := y23.2.2.1) (b := 0) rfl rfl) ?_
 refine lp (.bool (decide (y23.2.2.1 = 0))) (pu_pickT (q := (decide ((y23.2.1.length : Int) = 0))) rfl hq54 rfl) ?_
 refine lp (.bool (decide (y23.2.2.1 = 0))) (pu_assign rfl) ?_
 refine ln ?_
 refine hK51 _ _ ?_
 obtain rfl := os hb
 refine Wc.ret ?_
 refine hKR _ _ ?_
 refine ⟨_, res1 Try.results3 (show RV _ _ _ (.tmp _) (.bool (decide (y23.2.2.1 = 0))) from rfl), _, rfl, rfl, hC.sel [] (by decide)⟩
 replace hb := tf hq54 hb
 refine gs rfl rfl (decide ((y23.2.1.length : Int) = 0)) rfl hq54 ?_
 refine gs rfl rfl (decide ((y23.2.1.length : Int) = 0)) rfl hq54 ?_
 refine gs rfl rfl (decide ((y23.2.1.length : Int) = 0)) rfl hq54 ?_
 refine lp (.bool false) (pu_pickF (q := (decide ((y23.2.1.length : Int) = 0))) rfl hq54 rfl) ?_
 refine lp (.bool false) (pu_assign rfl) ?_
 refine ln ?_
 refine hK51 _ _ ?_
 obtain rfl := os hb
 refine Wc.ret ?_
 refine hKR _ _ ?_
 refine ⟨_, res1 Try.results3 (show RV _ _ _ (.tmp _) (.bool false) from rfl), _, rfl, rfl, hC.sel [] (by decide)⟩
 replace hb := tf hq53 hb
 refine gs rfl rfl (decide ((y23.1.length : Int) = 0)) rfl hq53 ?_
 refine gs rfl rfl (decide ((y23.1.length : Int) = 0)) rfl hq53 ?_
 refine gs rfl rfl (decide ((y23.1.length : Int) = 0)) rfl hq53 ?_
 refine gs rfl rfl (decide ((y23.1.length : Int) = 0)) rfl hq53 ?_
 refine lp (.bool false) (pu_pickF (q := (decide ((y23.1.length : Int) = 0))) rfl hq53 rfl) ?_
 refine lp (.bool false) (pu_move rfl) ?_
 refine gs rfl rfl false rfl rfl ?_
 refine gs rfl rfl false rfl rfl ?_
 refine gs rfl rfl false rfl rfl ?_
 refine lp (.bool false) (pu_pickF (q := false) rfl rfl rfl) ?_
 refine lp (.bool false) (pu_assign rfl) ?_
 refine ln ?_
 refine hK51 _ _ ?_
 obtain rfl := os hb
 refine Wc.ret ?_
 refine hKR _ _ ?_
 refine ⟨_, res1 Try.results3 (show RV _ _ _ (.tmp _) (.bool false) from rfl), _, rfl, rfl, hC.sel [] (by decide)⟩
 replace hb := tf hq52 hb
 refine gs rfl rfl (decide (y23.2.2.2 = 1)) rfl hq52 ?_
 refine gs rfl rfl (decide (y23.2.2.2 = 1)) rfl hq52 ?_
 refine gs rfl rfl (decide (y23.2.2.2 = 1)) rfl hq52 ?_
 refine gs rfl rfl (decide (y23.2.2.2 = 1)) rfl hq52 ?_
 refine lp (.bool false) (pu_pickF (q := (decide (y23.2.2.2 = 1))) rfl hq52 rfl) ?_
 refine lp (.bool false) (pu_move rfl) ?_
 refine gs rfl rfl false rfl rfl ?_
 refine gs rfl rfl false rfl rfl ?_
 refine gs rfl rfl false rfl rfl ?_
 refine gs rfl rfl false rfl rfl ?_
 refine lp (.bool false) (pu_pickF (q := false) rfl rfl rfl) ?_
 refine lp (.bool false) (pu_move rfl) ?_
 refine gs rfl rfl false rfl rfl ?_
 refine gs rfl rfl false rfl rfl ?_
 refine gs rfl rfl false rfl rfl ?_
 refine lp (.bool false) (pu_pickF (q := false) rfl rfl rfl) ?_
 refine lp (.bool false) (pu_assign rfl) ?_
 refine ln ?_
 refine hK51 _ _ ?_
 obtain rfl := os hb
 refine Wc.ret ?_
 refine hKR _ _ ?_
 refine ⟨_, res1 Try.results3 (show RV _ _ _ (.tmp _) (.bool false) from rfl), _, rfl, rfl, hC.sel [] (by decide)⟩
 replace hb := tf hq50 hb
 refine Wc.skip ?_
 refine hK45 _ _ ?_
 refine Wc.seq fun K55 hK55 => ?_
 refine Wc.seq fun K56 hK56 => ?_
 refine rg ?_
 refine lv (.agg #[.slice Ag_0_0 g_0_0.length cg_0_0, .slice Ag_0_1 g_0_1.length cg_0_1]) (ld_blk (hC.bx (i := 3) rfl) Try.isAgg24 Try.sizeOf24 e1) ?_
 obtain ⟨y57, h58, hb⟩ := bd hb
 refine lex.cl (⟨_, _, op_call (vs := [.agg #[.slice Ag_0_0 g_0_0.length cg_0_0, .slice Ag_0_1 g_0_1.length cg_0_1]]) Try.call15 rfl rfl rfl, ref42_Crossings_ok n hC.lt (hC.rd (i := 5) rfl) (hC.rd (i := 4) rfl) h58⟩) ?_
 rintro _ w63 ⟨A59, m60, c61, rfl, hK⟩
 replace hC := hC.merge hK
 clear hK
 obtain ⟨rfl, hl64, hc65⟩ := (hC.ow (i := 0) rfl).sl_len
 refine lp (.int .i64 (y57.length : Int)) (pu_len (A := A59) (n := y57.length) (m := c61) Try.underlying33 rfl) ?_
 refine lp (.bool (decide (64 < (y57.length : Int)))) (pu_gtr (k := .i64) (a := (y57.length : Int)) (b := 64) rfl rfl) ?_
 refine ln ?_
 refine hK56 _ _ ?_
 refine Wc.cond (t := (decide (64 < (y57.length : Int)))) (rfl) (fun hq66 => ?_) (fun hq66 => ?_)
 replace hb := tt hq66 hb
 refine Wc.seq fun K67 hK67 => ?_
 refine rg ?_
 refine lp (.int .i64 y23.2.2.2) (pu_move e4) ?_
 refine lp (.bool (decide (y23.2.2.2 = 5))) (pu_eql (k := .i64) (a := y23.2.2.2) (b := 5) rfl rfl) ?_
 refine lp (.bool (decide (y23.2.2.2 = 5))) (pu_assign rfl) ?_
 refine ln ?_
 refine hK67 _ _ ?_
 obtain rfl := os hb
 refine Wc.ret ?_
 refine hKR _ _ ?_
 refine ⟨_, res1 Try.results3 (show RV _ _ _ (.tmp _) (.bool (decide (y23.2.2.2 = 5))) from rfl), _, rfl, rfl, hC.sel [] (by decide)⟩
 replace hb := tf hq66 hb
 refine Wc.skip ?_
 refine hK55 _ _ ?_
 refine Wc.seq fun K68 hK68 => ?_
 refine Wc.regionMix [] (frm [] ([] : List Fact) ([] : List Fact)) (fun _ => rfl) mixed (by decide +kernel) (by decide +kernel) fun w70 hw69 => ?_
 replace hC := hC.step (Fr.of_drew hw69)
 have hM := Fr.refl (fun k => k ∈ blocks ([] : List Fact)) w70
 clear hw69
 have hS := hC
 refine mp (.int .i64 y23.2.2.2) (pu_move e4) ?_
 refine mp (.bool (decide (y23.2.2.2 = 0))) (pu_eql (k := .i64) (a := y23.2.2.2) (b := 0) rfl rfl) ?_
 refine mp (.bool (decide (y23.2.2.2 = 0))) (pu_move rfl) ?_
 rcases bS (decide (y23.2.2.2 = 0)) with hq71 | hq71
 replace hb := tt hq71 hb
 refine mixE.gload rfl (want_t rfl rfl (show _ = Value.bool (decide (y23.2.2.2 = 0)) from rfl) hq71) hM (v := .agg #[.slice A25 y23.1.length c27, .slice A29 y23.2.1.length c31, .int .i64 y23.2.2.1]) (fun _ hF => ld_blk (hS.bx2 (i := 1) rfl [] (by decide) hF) Try.isAgg28 Try.sizeOf28 e3) ?_
 refine mixE.gload rfl (want_t rfl rfl (show _ = Value.bool (decide (y23.2.2.2 = 0)) from rfl) hq71) hM (v := .agg #[.slice Ag_0_0 g_0_0.length cg_0_0, .slice Ag_0_1 g_0_1.length cg_0_1]) (fun _ hF => ld_blk (hS.bx2 (i := 4) rfl [] (by decide) hF) Try.isAgg24 Try.sizeOf24 e1) ?_
 obtain ⟨y72, h73, hb⟩ := bd hb
 refine mixE.gcl rfl (want_t rfl rfl (show _ = Value.bool (decide (y23.2.2.2 = 0)) from rfl) hq71) hM (⟨_, _, op_call (vs := [.agg #[.slice Ag_0_0 g_0_0.length cg_0_0, .slice Ag_0_1 g_0_1.length cg_0_1]]) Try.call17 rfl rfl rfl, ref44_Diagram_ok n hC.lt (hC.rd (i := 6) rfl) (hC.rd (i := 5) rfl) h73⟩) ?_
 rintro _ w83 ⟨A74, m75, c76, A78, m79, c80, rfl, hr82, hK⟩
 have hBf77 := Beside.cl (i := 0) hM hK rfl
 have hBf81 := Beside.cl (i := 1) hM hK rfl
 replace hM := hM.none hK.fr
 refine ⟨hM, ?_⟩
 replace hC := hC.merge hK
 clear hK
 obtain ⟨rfl, hl84, hc85⟩ := (hC.ow (i := 0) rfl).sl_len
 obtain ⟨rfl, hl86, hc87⟩ := (hC.ow (i := 1) rfl).sl_len
 obtain ⟨y88, h89, hb⟩ := bd hb
 refine mixE.gcl rfl (want_t rfl rfl (show _ = Value.bool (decide (y23.2.2.2 = 0)) from rfl) hq71) hM (⟨_, _, op_call (vs := [.agg #[.slice A25 y23.1.length c27, .slice A29 y23.2.1.length c31, .int .i64 y23.2.2.1], .agg #[.slice A74 y72.1.length c76, .slice A78 y72.2.1.length c80, .int .i64 y72.2.2]]) Try.call16 rfl rfl rfl, ref01_Equal_ok n (hC.lentLt [.slice A25 y23.1.length c27, .slice A29 y23.2.1.length c31, .slice A74 y72.1.length c76, .slice A78 y72.2.1.length c80]) ((hC.ow (i := 4) rfl).lend (vs := [.slice A25 y23.1.length c27, .slice A29 y23.2.1.length c31, .slice A74 y72.1.length c76, .slice A78 y72.2.1.length c80]) (by simp)) ((hC.ow (i := 5) rfl).lend (vs := [.slice A25 y23.1.length c27, .slice A29 y23.2.1.length c31, .slice A74 y72.1.length c76, .slice A78 y72.2.1.length c80]) (by simp)) hr33 ((hC.ow (i := 0) rfl).lend (vs := [.slice A25 y23.1.length c27, .slice A29 y23.2.1.length c31, .slice A74 y72.1.length c76, .slice A78 y72.2.1.length c80]) (by simp)) ((hC.ow (i := 1) rfl).lend (vs := [.slice A25 y23.1.length c27, .slice A29 y23.2.1.length c31, .slice A74 y72.1.length c76, .slice A78 y72.2.1.length c80]) (by simp)) hr82 h89⟩) ?_
 rintro _ w90 ⟨rfl, hK⟩
 replace hM := hM.none hK.fr
 refine ⟨hM, ?_⟩
 replace hC := hC.mergeF hK rfl
 clear hK
 refine mp (.bool y88) (pu_pickT (q := (decide (y23.2.2.2 = 0))) rfl hq71 rfl) ?_
 refine mp (.bool y88) (pu_assign rfl) ?_
 refine mixE.nil ?_
 clear hS hM
 refine hK68 _ _ ?_
 obtain rfl := os hb
 refine Wc.ret ?_
 refine hKR _ _ ?_
 refine ⟨_, res1 Try.results3 (show RV _ _ _ (.tmp _) (.bool y88) from rfl), _, rfl, rfl, hC.sel [] (by decide)⟩
 replace hb := tf hq71 hb
 refine mixE.gskip (want_f rfl rfl (show _ = Value.bool (decide (y23.2.2.2 = 0)) from rfl) hq71) ?_
 refine mixE.gskip (want_f rfl rfl (show _ = Value.bool (decide (y23.2.2.2 = 0)) from rfl) hq71) ?_
 refine mixE.gskip (want_f rfl rfl (show _ = Value.bool (decide (y23.2.2.2 = 0)) from rfl) hq71) ?_
 refine mixE.gskip (want_f rfl rfl (show _ = Value.bool (decide (y23.2.2.2 = 0)) from rfl) hq71) ?_
 refine mp (.bool false) (pu_pickF (q := (decide (y23.2.2.2 = 0))) rfl hq71 rfl) ?_
 refine mp (.bool false) (pu_assign rfl) ?_
 refine mixE.nil ?_
 clear hS hM
 refine hK68 _ _ ?_
 obtain rfl := os hb
 refine Wc.ret ?_
 refine hKR _ _ ?_
 refine ⟨_, res1 Try.results3 (show RV _ _ _ (.tmp _) (.bool false) from rfl), _, rfl, rfl, hC.sel [] (by decide)⟩
end Go.Proofs.Yticemffhlapnnaa
