/- The walks: part 7. -/
import Derived.Test.YticemffhlapnnaaS
set_option linter.unusedVariables false
set_option linter.unusedSimpArgs false
namespace Go.Proofs.Yticemffhlapnnaa
open Ev
set_option maxRecDepth 100000 in
set_option maxHeartbeats 4000000 in
theorem law44_small_ok (n : Nat) {w : World} {O0 : List Nat} (hO : ∀ k ∈ O0, k < w.heap.size) {Ag_0_0 : Option Addr} {mg_0_0 cg_0_0 : Nat} {g_0_0 : List Int} (hg_0_0 : Rep O0 w (.sl (.int .i64)) [.slice Ag_0_0 mg_0_0 cg_0_0] g_0_0) {Ag_0_1 : Option Addr} {mg_0_1 cg_0_1 : Nat} {g_0_1 : List Int} (hg_0_1 : Rep O0 w (.sl (.int .i64)) [.slice Ag_0_1 mg_0_1 cg_0_1] g_0_1) {r : Int} (hb : F.law44_small n g_0_0 g_0_1 = some r) :
    Calls Try.prog 12 #[.agg #[.slice Ag_0_0 mg_0_0 cg_0_0, .slice Ag_0_1 mg_0_1 cg_0_1]] w fun e w' => ∃ v, e = .returned v ∧ v = .int .i64 r ∧ I64 r ∧ Cx (fun _ => False) O0 w w' [] := by
 unfold F.law44_small at hb
 have hC := Cx.start hO
 replace hC := hC.arg rfl hg_0_0
 replace hC := hC.arg rfl hg_0_1
 clear hO
 obtain ⟨rfl, hlg_0_0, hcg_0_0⟩ := hg_0_0.sl_len
 obtain ⟨rfl, hlg_0_1, hcg_0_1⟩ := hg_0_1.sl_len
 refine calls_of_Wc Try.func12 rfl (by rw [Try.ntmps12]; exact Nat.le_of_ble_eq_true rfl) fun KR hKR => ?_
 refine Wc.seq fun K3 hK3 => ?_
 refine rg ?_
 refine lex.op (hC.box (cs := [.slice Ag_0_0 g_0_0.length cg_0_0, .slice Ag_0_1 g_0_1.length cg_0_1]) rfl rfl) ?_
 rintro _ w5 ⟨g4, rfl, hC, hF, hG⟩
 clear hG
 refine lp (.int .i64 0) (pu_assign rfl) ?_
 refine ln ?_
 refine hK3 _ _ ?_
 refine Wc.seq fun K7 hK7 => ?_
 refine Wc.seq fun K8 hK8 => ?_
 refine rg ?_
 refine lp (.pointer (some ((⟨g4, 0, none⟩ : Addr).add 0))) (pu_field (sz := 1) Try.underlying24 rfl Try.sizeOf22 (by decide) rfl rfl) ?_
 refine lv (.slice Ag_0_0 g_0_0.length cg_0_0) (ld_fld (hC.bx (i := 0) rfl) Try.isAgg22 rfl rfl) ?_
 refine lp (.int .i64 (g_0_0.length : Int)) (pu_len (A := Ag_0_0) (n := g_0_0.length) (m := cg_0_0) Try.underlying22 rfl) ?_
 refine lp (.bool (decide (45 < (g_0_0.length : Int)))) (pu_gtr (k := .i64) (a := (g_0_0.length : Int)) (b := 45) rfl rfl) ?_
 refine lp (.bool (decide (45 < (g_0_0.length : Int)))) (pu_move rfl) ?_
 rcases bS (decide (45 < (g_0_0.length : Int))) with hq9 | hq9
 replace hb := tt hq9 hb
 refine gs rfl rfl (decide (45 < (g_0_0.length : Int))) rfl hq9 ?_
 refine gs rfl rfl (decide (45 < (g_0_0.length : Int))) rfl hq9 ?_
 refine gs rfl rfl (decide (45 < (g_0_0.length : Int))) rfl hq9 ?_
 refine gs rfl rfl (decide (45 < (g_0_0.length : Int))) rfl hq9 ?_
 refine lp (.bool true) (pu_pickT (q := (decide (45 < (g_0_0.length : Int)))) rfl hq9 rfl) ?_
 refine lp (.bool true) (pu_move rfl) ?_
 refine gs rfl rfl true rfl rfl ?_
 refine gs rfl rfl true rfl rfl ?_
 refine gs rfl rfl true rfl rfl ?_
 refine gs rfl rfl true rfl rfl ?_
 refine gs rfl rfl true rfl rfl ?_
 refine lex.gskip (want_n rfl rfl rfl) ?_
 refine lex.gskip (want_n rfl rfl rfl) ?_
 refine lex.gskip (want_n rfl rfl rfl) ?_
 refine lex.gskip (want_n rfl rfl rfl) ?_
 refine gs rfl rfl true rfl rfl ?_
 refine lp (.bool true) (pu_pickT (q := true) rfl rfl rfl) ?_
 refine ln ?_
 refine hK8 _ _ ?_
 refine Wc.cond_true (rfl) ?_
 refine Wc.seq fun K10 hK10 => ?_
 refine rg ?_
 refine lp (.int .i64 0) (pu_assign rfl) ?_
 refine ln ?_
 refine hK10 _ _ ?_
 obtain rfl := os hb
 refine Wc.ret ?_
 refine hKR _ _ ?_
 refine ⟨_, res1 Try.results12 (show RV _ _ _ (.tmp _) (.int .i64 0) from rfl), _, rfl, rfl, (show I64 0 from by unfold I64; omega), hC.sel [] (by decide)⟩
 replace hb := tf hq9 hb
 refine gp rfl rfl (decide (45 < (g_0_0.length : Int))) rfl hq9 (.pointer (some ((⟨g4, 0, none⟩ : Addr).add 1))) (pu_field (sz := 1) Try.underlying24 rfl Try.sizeOf22 (by decide) rfl rfl) ?_
 refine gv rfl rfl (decide (45 < (g_0_0.length : Int))) rfl hq9 (.slice Ag_0_1 g_0_1.length cg_0_1) (ld_fld (hC.bx (i := 0) rfl) Try.isAgg22 rfl rfl) ?_
 refine gp rfl rfl (decide (45 < (g_0_0.length : Int))) rfl hq9 (.int .i64 (g_0_1.length : Int)) (pu_len (A := Ag_0_1) (n := g_0_1.length) (m := cg_0_1) Try.underlying22 rfl) ?_
 refine gp rfl rfl (decide (45 < (g_0_0.length : Int))) rfl hq9 (.bool (decide (45 < (g_0_1.length : Int)))) (pu_gtr (k := .i64) (a := (g_0_1.length : Int)) (b := 45) rfl rfl) ?_
 refine lp (.bool (decide (45 < (g_0_1.length : Int)))) (pu_pickF (q := (decide (45 < (g_0_0.length : Int)))) rfl hq9 rfl) ?_
 refine lp (.bool (decide (45 < (g_0_1.length : Int)))) (pu_move rfl) ?_
 rcases bS (decide (45 < (g_0_1.length : Int))) with hq11 | hq11
 replace hb := tt hq11 hb
 refine gs rfl rfl (decide (45 < (g_0_1.length : Int))) rfl hq11 ?_
 refine gs rfl rfl (decide (45 < (g_0_1.length : Int))) rfl hq11 ?_
 refine gs rfl rfl (decide (45 < (g_0_1.length : Int))) rfl hq11 ?_
 refine gs rfl rfl (decide (45 < (g_0_1.length : Int))) rfl hq11 ?_
 refine gs rfl rfl (decide (45 < (g_0_1.length : Int))) rfl hq11 ?_
 refine lex.gskip (want_n rfl rfl rfl) ?_
 refine lex.gskip (want_n rfl rfl rfl) ?_
 refine lex.gskip (want_n rfl rfl rfl) ?_
 refine lex.gskip (want_n rfl rfl rfl) ?_
 refine gs rfl rfl (decide (45 < (g_0_1.length : Int))) rfl hq11 ?_
 refine lp (.bool true) (pu_pickT (q := (decide (45 < (g_0_1.length : Int)))) rfl hq11 rfl) ?_
 refine ln ?_
 refine hK8 _ _ ?_
 refine Wc.cond_true (rfl) ?_
 refine Wc.seq fun K12 hK12 => ?_
 refine rg ?_
 refine lp (.int .i64 0) (pu_assign rfl) ?_
 refine ln ?_
 refine hK12 _ _ ?_
 obtain rfl := os hb
 refine Wc.ret ?_
 refine hKR _ _ ?_
 refine ⟨_, res1 Try.results12 (show RV _ _ _ (.tmp _) (.int .i64 0) from rfl), _, rfl, rfl, (show I64 0 from by unfold I64; omega), hC.sel [] (by decide)⟩
 replace hb := tf hq11 hb
 refine gp rfl rfl (decide (45 < (g_0_1.length : Int))) rfl hq11 (.pointer (some ((⟨g4, 0, none⟩ : Addr).add 0))) (pu_field (sz := 1) Try.underlying24 rfl Try.sizeOf22 (by decide) rfl rfl) ?_
 refine gv rfl rfl (decide (45 < (g_0_1.length : Int))) rfl hq11 (.slice Ag_0_0 g_0_0.length cg_0_0) (ld_fld (hC.bx (i := 0) rfl) Try.isAgg22 rfl rfl) ?_
 refine gp rfl rfl (decide (45 < (g_0_1.length : Int))) rfl hq11 (.int .i64 (g_0_0.length : Int)) (pu_len (A := Ag_0_0) (n := g_0_0.length) (m := cg_0_0) Try.underlying22 rfl) ?_
 refine gp rfl rfl (decide (45 < (g_0_1.length : Int))) rfl hq11 (.bool (decide (12 < (g_0_0.length : Int)))) (pu_gtr (k := .i64) (a := (g_0_0.length : Int)) (b := 12) rfl rfl) ?_
 refine gp rfl rfl (decide (45 < (g_0_1.length : Int))) rfl hq11 (.bool (decide (12 < (g_0_0.length : Int)))) (pu_move rfl) ?_
 rcases bS (decide (12 < (g_0_0.length : Int))) with hq13 | hq13
 replace hb := tt hq13 hb
 refine gp rfl rfl (decide (12 < (g_0_0.length : Int))) rfl hq13 (.pointer (some ((⟨g4, 0, none⟩ : Addr).add 0))) (pu_field (sz := 1) Try.underlying24 rfl Try.sizeOf22 (by decide) rfl rfl) ?_
 refine gv rfl rfl (decide (12 < (g_0_0.length : Int))) rfl hq13 (.slice Ag_0_0 g_0_0.length cg_0_0) (ld_fld (hC.bx (i := 0) rfl) Try.isAgg22 rfl rfl) ?_
 refine gp rfl rfl (decide (12 < (g_0_0.length : Int))) rfl hq13 (.int .i64 (g_0_0.length : Int)) (pu_len (A := Ag_0_0) (n := g_0_0.length) (m := cg_0_0) Try.underlying22 rfl) ?_
 refine gp rfl rfl (decide (12 < (g_0_0.length : Int))) rfl hq13 (.bool (decide ((g_0_0.length : Int) ≤ 40))) (pu_leq (k := .i64) (a := (g_0_0.length : Int)) (b := 40) rfl rfl) ?_
 refine gp rfl rfl (decide (45 < (g_0_1.length : Int))) rfl hq11 (.bool (decide ((g_0_0.length : Int) ≤ 40))) (pu_pickT (q := (decide (12 < (g_0_0.length : Int)))) rfl hq13 rfl) ?_
 refine lp (.bool (decide ((g_0_0.length : Int) ≤ 40))) (pu_pickF (q := (decide (45 < (g_0_1.length : Int)))) rfl hq11 rfl) ?_
 refine ln ?_
 refine hK8 _ _ ?_
 refine Wc.cond (t := (decide ((g_0_0.length : Int) ≤ 40))) (rfl) (fun hq14 => ?_) (fun hq14 => ?_)
 replace hb := tt hq14 hb
 refine Wc.seq fun K15 hK15 => ?_
 refine rg ?_
 refine lp (.int .i64 0) (pu_assign rfl) ?_
 refine ln ?_
 refine hK15 _ _ ?_
 obtain rfl := os hb
 refine Wc.ret ?_
 refine hKR _ _ ?_
 refine ⟨_, res1 Try.results12 (show RV _ _ _ (.tmp _) (.int .i64 0) from rfl), _, rfl, rfl, (show I64 0 from by unfold I64; omega), hC.sel [] (by decide)⟩
 replace hb := tf hq14 hb
 refine Wc.skip ?_
 refine hK7 _ _ ?_
 refine Wc.seq fun K16 hK16 => ?_
 refine rg ?_
 refine lp (.int .i64 1) (pu_assign rfl) ?_
 refine ln ?_
 refine hK16 _ _ ?_
 obtain rfl := os hb
 refine Wc.ret ?_
 refine hKR _ _ ?_
 refine ⟨_, res1 Try.results12 (show RV _ _ _ (.tmp _) (.int .i64 1) from rfl), _, rfl, rfl, (show I64 1 from by unfold I64; omega), hC.sel [] (by decide)⟩
 replace hb := tf hq13 hb
 refine gs rfl rfl (decide (12 < (g_0_0.length : Int))) rfl hq13 ?_
 refine gs rfl rfl (decide (12 < (g_0_0.length : Int))) rfl hq13 ?_
 refine gs rfl rfl (decide (12 < (g_0_0.length : Int))) rfl hq13 ?_
 refine gs rfl rfl (decide (12 < (g_0_0.length : Int))) rfl hq13 ?_
 refine gp rfl rfl (decide (45 < (g_0_1.length : Int))) rfl hq11 (.bool false) (pu_pickF (q := (decide (12 < (g_0_0.length : Int)))) rfl hq13 rfl) ?_
 refine lp (.bool false) (pu_pickF (q := (decide (45 < (g_0_1.length : Int)))) rfl hq11 rfl) ?_
 refine ln ?_
 refine hK8 _ _ ?_
 refine Wc.cond_false (rfl) ?_
 refine Wc.skip ?_
 refine hK7 _ _ ?_
 refine Wc.seq fun K17 hK17 => ?_
 refine rg ?_
 refine lp (.int .i64 1) (pu_assign rfl) ?_
 refine ln ?_
 refine hK17 _ _ ?_
 obtain rfl := os hb
 refine Wc.ret ?_
 refine hKR _ _ ?_
 refine ⟨_, res1 Try.results12 (show RV _ _ _ (.tmp _) (.int .i64 1) from rfl), _, rfl, rfl, (show I64 1 from by unfold I64; omega), hC.sel [] (by decide)⟩
end Go.Proofs.Yticemffhlapnnaa
