/- The walks: part 4. -/
import Derived.Test.YticemffhlapnnaaS
set_option linter.unusedVariables false
set_option linter.unusedSimpArgs false
namespace Go.Proofs.Yticemffhlapnnaa
open Ev
set_option maxRecDepth 100000 in
set_option maxHeartbeats 4000000 in
theorem braid_Valid_ok (n : Nat) {w : World} {O0 : List Nat} (hO : ∀ k ∈ O0, k < w.heap.size) {b_0_0 : Int} (hb_0_0 : I64 b_0_0) {Ab_0_1 : Option Addr} {mb_0_1 cb_0_1 : Nat} {b_0_1 : List Int} (hb_0_1 : Rep O0 w (.sl (.int .i64)) [.slice Ab_0_1 mb_0_1 cb_0_1] b_0_1) {r : Bool} (hb : F.braid_Valid n b_0_0 b_0_1 = some r) :
    Calls Try.prog 22 #[.agg #[.int .i64 b_0_0, .slice Ab_0_1 mb_0_1 cb_0_1]] w fun e w' => ∃ v, e = .returned v ∧ v = .bool r ∧ Cx (fun _ => False) O0 w w' [] := by
 unfold F.braid_Valid at hb
 have hC := Cx.start hO
 replace hC := hC.arg rfl hb_0_1
 clear hO
 obtain ⟨rfl, hlb_0_1, hcb_0_1⟩ := hb_0_1.sl_len
 refine calls_of_Wc Try.func22 rfl (by rw [Try.ntmps22]; exact Nat.le_of_ble_eq_true rfl) fun KR hKR => ?_
 refine Wc.seq fun K2 hK2 => ?_
 refine rg ?_
 refine lex.op (hC.box (cs := [.int .i64 b_0_0, .slice Ab_0_1 b_0_1.length cb_0_1]) rfl rfl) ?_
 rintro _ w4 ⟨g3, rfl, hC, hF, hG⟩
 clear hG
 refine lp (.bool false) (pu_assign rfl) ?_
 refine ln ?_
 refine hK2 _ _ ?_
 refine Wc.seq fun K6 hK6 => ?_
 refine Wc.seq fun K7 hK7 => ?_
 refine rg ?_
 refine lp (.pointer (some ((⟨g3, 0, none⟩ : Addr).add 0))) (pu_field (sz := 1) Try.underlying40 rfl Try.sizeOf3 (by decide) rfl rfl) ?_
 refine lv (.int .i64 b_0_0) (ld_fld (hC.bx (i := 0) rfl) Try.isAgg3 rfl rfl) ?_
 refine lp (.bool (decide (b_0_0 < 1))) (pu_lss (k := .i64) (a := b_0_0) (b := 1) rfl rfl) ?_
 refine lp (.bool (decide (b_0_0 < 1))) (pu_move rfl) ?_
 rcases bS (decide (b_0_0 < 1)) with hq8 | hq8
 replace hb := tt hq8 hb
 refine gs rfl rfl (decide (b_0_0 < 1)) rfl hq8 ?_
 refine gs rfl rfl (decide (b_0_0 < 1)) rfl hq8 ?_
 refine gs rfl rfl (decide (b_0_0 < 1)) rfl hq8 ?_
 refine lp (.bool true) (pu_pickT (q := (decide (b_0_0 < 1))) rfl hq8 rfl) ?_
 refine lp (.bool true) (pu_move rfl) ?_
 refine gs rfl rfl true rfl rfl ?_
 refine gs rfl rfl true rfl rfl ?_
 refine gs rfl rfl true rfl rfl ?_
 refine gs rfl rfl true rfl rfl ?_
 refine lp (.bool true) (pu_pickT (q := true) rfl rfl rfl) ?_
 refine ln ?_
 refine hK7 _ _ ?_
 refine Wc.cond_true (rfl) ?_
 refine Wc.seq fun K9 hK9 => ?_
 refine rg ?_
 refine lp (.bool false) (pu_assign rfl) ?_
 refine ln ?_
 refine hK9 _ _ ?_
 obtain rfl := os hb
 refine Wc.ret ?_
 refine hKR _ _ ?_
 refine ⟨_, res1 Try.results22 (show RV _ _ _ (.tmp _) (.bool false) from rfl), _, rfl, rfl, hC.sel [] (by decide)⟩
 replace hb := tf hq8 hb
 refine gp rfl rfl (decide (b_0_0 < 1)) rfl hq8 (.pointer (some ((⟨g3, 0, none⟩ : Addr).add 0))) (pu_field (sz := 1) Try.underlying40 rfl Try.sizeOf3 (by decide) rfl rfl) ?_
 refine gv rfl rfl (decide (b_0_0 < 1)) rfl hq8 (.int .i64 b_0_0) (ld_fld (hC.bx (i := 0) rfl) Try.isAgg3 rfl rfl) ?_
 refine gp rfl rfl (decide (b_0_0 < 1)) rfl hq8 (.bool (decide (10 < b_0_0))) (pu_gtr (k := .i64) (a := b_0_0) (b := 10) rfl rfl) ?_
 refine lp (.bool (decide (10 < b_0_0))) (pu_pickF (q := (decide (b_0_0 < 1))) rfl hq8 rfl) ?_
 refine lp (.bool (decide (10 < b_0_0))) (pu_move rfl) ?_
 rcases bS (decide (10 < b_0_0)) with hq10 | hq10
 replace hb := tt hq10 hb
 refine gs rfl rfl (decide (10 < b_0_0)) rfl hq10 ?_
 refine gs rfl rfl (decide (10 < b_0_0)) rfl hq10 ?_
 refine gs rfl rfl (decide (10 < b_0_0)) rfl hq10 ?_
 refine gs rfl rfl (decide (10 < b_0_0)) rfl hq10 ?_
 refine lp (.bool true) (pu_pickT (q := (decide (10 < b_0_0))) rfl hq10 rfl) ?_
 refine ln ?_
 refine hK7 _ _ ?_
 refine Wc.cond_true (rfl) ?_
 refine Wc.seq fun K11 hK11 => ?_
 refine rg ?_
 refine lp (.bool false) (pu_assign rfl) ?_
 refine ln ?_
 refine hK11 _ _ ?_
 obtain rfl := os hb
 refine Wc.ret ?_
 refine hKR _ _ ?_
 refine ⟨_, res1 Try.results22 (show RV _ _ _ (.tmp _) (.bool false) from rfl), _, rfl, rfl, hC.sel [] (by decide)⟩
 replace hb := tf hq10 hb
 refine gp rfl rfl (decide (10 < b_0_0)) rfl hq10 (.pointer (some ((⟨g3, 0, none⟩ : Addr).add 1))) (pu_field (sz := 1) Try.underlying40 rfl Try.sizeOf22 (by decide) rfl rfl) ?_
 refine gv rfl rfl (decide (10 < b_0_0)) rfl hq10 (.slice Ab_0_1 b_0_1.length cb_0_1) (ld_fld (hC.bx (i := 0) rfl) Try.isAgg22 rfl rfl) ?_
 refine gp rfl rfl (decide (10 < b_0_0)) rfl hq10 (.int .i64 (b_0_1.length : Int)) (pu_len (A := Ab_0_1) (n := b_0_1.length) (m := cb_0_1) Try.underlying22 rfl) ?_
 refine gp rfl rfl (decide (10 < b_0_0)) rfl hq10 (.bool (decide (200 < (b_0_1.length : Int)))) (pu_gtr (k := .i64) (a := (b_0_1.length : Int)) (b := 200) rfl rfl) ?_
 refine lp (.bool (decide (200 < (b_0_1.length : Int)))) (pu_pickF (q := (decide (10 < b_0_0))) rfl hq10 rfl) ?_
 refine ln ?_
 refine hK7 _ _ ?_
 refine Wc.cond (t := (decide (200 < (b_0_1.length : Int)))) (rfl) (fun hq12 => ?_) (fun hq12 => ?_)
 replace hb := tt hq12 hb
 refine Wc.seq fun K13 hK13 => ?_
 refine rg ?_
 refine lp (.bool false) (pu_assign rfl) ?_
 refine ln ?_
 refine hK13 _ _ ?_
 obtain rfl := os hb
 refine Wc.ret ?_
 refine hKR _ _ ?_
 refine ⟨_, res1 Try.results22 (show RV _ _ _ (.tmp _) (.bool false) from rfl), _, rfl, rfl, hC.sel [] (by decide)⟩
 replace hb := tf hq12 hb
 refine Wc.skip ?_
 refine hK6 _ _ ?_
 refine Wc.fresh fun E14 hE => ?_
 have e1 : E14 1 = .pointer (some ⟨g3, 0, none⟩) := (congrFun hE 1).trans rfl
 have e2 : E14 2 = .bool false := (congrFun hE 2).trans rfl
 clear hE
 refine Wc.seq fun K15 hK15 => ?_
 refine Wc.seq fun K16 hK16 => ?_
 refine rg ?_
 refine lp (.pointer (some ((⟨g3, 0, none⟩ : Addr).add 1))) (pu_field (sz := 1) Try.underlying40 rfl Try.sizeOf22 (by decide) rfl e1) ?_
 refine lv (.slice Ab_0_1 b_0_1.length cb_0_1) (ld_fld (hC.bx (i := 0) rfl) Try.isAgg22 rfl rfl) ?_
 refine lp (.int .i64 (b_0_1.length : Int)) (pu_len (A := Ab_0_1) (n := b_0_1.length) (m := cb_0_1) Try.underlying22 rfl) ?_
 refine lp (.int .i64 0) (pu_move rfl) ?_
 refine ln ?_
 refine hK16 _ _ ?_
 obtain ⟨o17, hl0, hb⟩ := bd hb
 refine Wc.cut (fun E wv => ∃ (v22_0 : Int), E 2 = .bool false ∧ I64 v22_0 ∧ Cx (fun _ => False) O0 w wv [] ∧ (some true : Option (Bool)) = some r) (fun K18 hK18 => ?_) ?_
 refine Wc.block ?_
 refine Wc.loop (fun m E wv => ∃ (v22_0 : Int), E 1 = .pointer (some ⟨g3, 0, none⟩) ∧ E 2 = .bool false ∧ E 20 = .slice Ab_0_1 b_0_1.length cb_0_1 ∧ E 21 = .int .i64 (b_0_1.length : Int) ∧ E 22 = .int .i64 v22_0 ∧ I64 v22_0 ∧ Cx (fun _ => False) O0 w wv [.box g3 40 [.int .i64 b_0_0, .slice Ab_0_1 b_0_1.length cb_0_1], .ro (.sl (.int .i64)) [.slice Ab_0_1 b_0_1.length cb_0_1] b_0_1] ∧ loopN m (F.braid_Valid_b0 n b_0_0 b_0_1) v22_0 = some o17) n ⟨0, e1, e2, rfl, rfl, rfl, (show I64 0 from by unfold I64; omega), hC.sel [0, 1] (by decide), hl0⟩ ?_
 have hbK0 := hb
 clear hb hC hl0
 rintro m20 E22 w21 ⟨v22_0, e1, e2, e20, e21, e22, hrv22_0, hC, hl0⟩ K19 hK19
 obtain ⟨m20', o23, rfl, hb, hl0⟩ := loopN_some hl0
 unfold F.braid_Valid_b0 at hb
 refine Wc.seq fun K24 hK24 => ?_
 refine rg ?_
 refine lp (.bool (decide (v22_0 < (b_0_1.length : Int)))) (pu_lss (k := .i64) (a := v22_0) (b := (b_0_1.length : Int)) e22 e21) ?_
 refine ln ?_
 refine hK24 _ _ ?_
 refine Wc.seq fun K25 hK25 => ?_
 refine Wc.cond (t := (decide (v22_0 < (b_0_1.length : Int)))) (rfl) (fun hq26 => ?_) (fun hq26 => ?_)
 replace hb := tt hq26 hb
 refine Wc.skip ?_
 refine hK25 _ _ ?_
 refine Wc.seq fun K27 hK27 => ?_
 refine Wc.block ?_
 refine Wc.seq fun K28 hK28 => ?_
 refine rg ?_
 obtain ⟨x29, h30, hb⟩ := bd hb
 obtain ⟨ad31, cs32, hA, hc33, hr34⟩ := hC.elr (i := 1) rfl (get_some h30).2
 subst hA
 refine lp (.pointer (some (ad31.add (v22_0.toNat * 1)))) (pu_index (a := v22_0) Try.underlying22 Try.sizeOf3 e20 e22 (get_some h30).1) ?_
 obtain ⟨rfl, hr34'⟩ := hr34
 refine lv (.int .i64 x29) (ld_one Try.isAgg3 rfl (hc33 0 _ rfl)) ?_
 refine lp (.int .i64 x29) (pu_assign rfl) ?_
 refine ln ?_
 refine hK28 _ _ ?_
 refine Wc.seq fun K35 hK35 => ?_
 refine rg ?_
 refine lp (.int .i64 x29) (pu_move rfl) ?_
 refine lp (.bool (decide (x29 = 0))) (pu_eql (k := .i64) (a := x29) (b := 0) rfl rfl) ?_
 refine lp (.bool (decide (x29 = 0))) (pu_move rfl) ?_
 rcases bS (decide (x29 = 0)) with hq36 | hq36
 replace hb := tt hq36 hb
 refine gs rfl rfl (decide (x29 = 0)) rfl hq36 ?_
 refine gs rfl rfl (decide (x29 = 0)) rfl hq36 ?_
 refine gs rfl rfl (decide (x29 = 0)) rfl hq36 ?_
 refine gs rfl rfl (decide (x29 = 0)) rfl hq36 ?_
 refine gs rfl rfl (decide (x29 = 0)) rfl hq36 ?_
 refine lp (.bool true) (pu_pickT (q := (decide (x29 = 0))) rfl hq36 rfl) ?_
 refine lp (.bool true) (pu_move rfl) ?_
 refine gs rfl rfl true rfl rfl ?_
 refine gs rfl rfl true rfl rfl ?_
 refine gs rfl rfl true rfl rfl ?_
 refine gs rfl rfl true rfl rfl ?_
 refine lp (.bool true) (pu_pickT (q := true) rfl rfl rfl) ?_
 refine ln ?_
 refine hK35 _ _ ?_
 refine Wc.cond_true (rfl) ?_
 refine Wc.seq fun K37 hK37 => ?_
 refine rg ?_
 refine lp (.bool false) (pu_assign rfl) ?_
 refine ln ?_
 refine hK37 _ _ ?_
 obtain rfl := os hb
 obtain rfl := (lX hl0).symm
 replace hb := hbK0
 obtain rfl := os hb
 refine Wc.ret ?_
 refine hKR _ _ ?_
 refine ⟨_, res1 Try.results22 (show RV _ _ _ (.tmp _) (.bool false) from rfl), _, rfl, rfl, hC.sel [] (by decide)⟩
 replace hb := tf hq36 hb
 refine gp rfl rfl (decide (x29 = 0)) rfl hq36 (.int .i64 x29) (pu_move rfl) ?_
 refine gp rfl rfl (decide (x29 = 0)) rfl hq36 (.pointer (some ((⟨g3, 0, none⟩ : Addr).add 0))) (pu_field (sz := 1) Try.underlying40 rfl Try.sizeOf3 (by decide) rfl e1) ?_
 refine gv rfl rfl (decide (x29 = 0)) rfl hq36 (.int .i64 b_0_0) (ld_fld (hC.bx (i := 0) rfl) Try.isAgg3 rfl rfl) ?_
 obtain ⟨z38, h39, hb⟩ := bd hb
 refine gp rfl rfl (decide (x29 = 0)) rfl hq36 (.int .i64 z38) (pu_negc (a := b_0_0) rfl h39) ?_
 refine gp rfl rfl (decide (x29 = 0)) rfl hq36 (.bool (decide (x29 ≤ z38))) (pu_leq (k := .i64) (a := x29) (b := z38) rfl rfl) ?_
 refine lp (.bool (decide (x29 ≤ z38))) (pu_pickF (q := (decide (x29 = 0))) rfl hq36 rfl) ?_
 refine lp (.bool (decide (x29 ≤ z38))) (pu_move rfl) ?_
 rcases bS (decide (x29 ≤ z38)) with hq40 | hq40
 replace hb := tt hq40 hb
 refine gs rfl rfl (decide (x29 ≤ z38)) rfl hq40 ?_
 refine gs rfl rfl (decide (x29 ≤ z38)) rfl hq40 ?_
 refine gs rfl rfl (decide (x29 ≤ z38)) rfl hq40 ?_
 refine gs rfl rfl (decide (x29 ≤ z38)) rfl hq40 ?_
 refine lp (.bool true) (pu_pickT (q := (decide (x29 ≤ z38))) rfl hq40 rfl) ?_
 refine ln ?_
 refine hK35 _ _ ?_
 refine Wc.cond_true (rfl) ?_
 refine Wc.seq fun K41 hK41 => ?_
 refine rg ?_
 refine lp (.bool false) (pu_assign rfl) ?_
 refine ln ?_
 refine hK41 _ _ ?_
 obtain rfl := os hb
 obtain rfl := (lX hl0).symm
 replace hb := hbK0
 obtain rfl := os hb
 refine Wc.ret ?_
 refine hKR _ _ ?_
 refine ⟨_, res1 Try.results22 (show RV _ _ _ (.tmp _) (.bool false) from rfl), _, rfl, rfl, hC.sel [] (by decide)⟩
 replace hb := tf hq40 hb
 refine gp rfl rfl (decide (x29 ≤ z38)) rfl hq40 (.int .i64 x29) (pu_move rfl) ?_
 refine gp rfl rfl (decide (x29 ≤ z38)) rfl hq40 (.pointer (some ((⟨g3, 0, none⟩ : Addr).add 0))) (pu_field (sz := 1) Try.underlying40 rfl Try.sizeOf3 (by decide) rfl e1) ?_
 refine gv rfl rfl (decide (x29 ≤ z38)) rfl hq40 (.int .i64 b_0_0) (ld_fld (hC.bx (i := 0) rfl) Try.isAgg3 rfl rfl) ?_
 refine gp rfl rfl (decide (x29 ≤ z38)) rfl hq40 (.bool (decide (b_0_0 ≤ x29))) (pu_geq (k := .i64) (a := x29) (b := b_0_0) rfl rfl) ?_
 refine lp (.bool (decide (b_0_0 ≤ x29))) (pu_pickF (q := (decide (x29 ≤ z38))) rfl hq40 rfl) ?_
 refine ln ?_
 refine hK35 _ _ ?_
 refine Wc.cond (t := (decide (b_0_0 ≤ x29))) (rfl) (fun hq42 => ?_) (fun hq42 => ?_)
 replace hb := tt hq42 hb
 refine Wc.seq fun K43 hK43 => ?_
 refine rg ?_
 refine lp (.bool false) (pu_assign rfl) ?_
 refine ln ?_
 refine hK43 _ _ ?_
 obtain rfl := os hb
 obtain rfl := (lX hl0).symm
 replace hb := hbK0
 obtain rfl := os hb
 refine Wc.ret ?_
 refine hKR _ _ ?_
 refine ⟨_, res1 Try.results22 (show RV _ _ _ (.tmp _) (.bool false) from rfl), _, rfl, rfl, hC.sel [] (by decide)⟩
 replace hb := tf hq42 hb
 refine Wc.skip ?_
 refine hK27 _ _ ?_
 refine rg ?_
 obtain ⟨z44, h45, hb⟩ := bd hb
 refine lp (.int .i64 z44) (pu_addc (a := v22_0) (b := 1) e22 rfl h45) ?_
 refine lp (.int .i64 z44) (pu_move rfl) ?_
 refine ln ?_
 obtain rfl := os hb
 exact hK19 m20' _ _ (Nat.lt_succ_self _) ⟨z44, e1, e2, e20, e21, rfl, (chk_rng h45), hC.sel [0, 1] (by decide), lN hl0⟩
 replace hb := tf hq26 hb
 refine Wc.exit rfl ?_
 obtain rfl := os hb
 obtain rfl := (lX hl0).symm
 exact hK18 _ _ ⟨v22_0, e2, hrv22_0, hC.sel [] (by decide), hbK0⟩
 clear hb hC hl0
 rintro E47 w46 ⟨v22_0, e2, hrv22_0, hC, hb⟩
 refine hK15 _ _ ?_
 refine Wc.seq fun K48 hK48 => ?_
 refine rg ?_
 refine lp (.bool true) (pu_assign rfl) ?_
 refine ln ?_
 refine hK48 _ _ ?_
 obtain rfl := os hb
 refine Wc.ret ?_
 refine hKR _ _ ?_
 refine ⟨_, res1 Try.results22 (show RV _ _ _ (.tmp _) (.bool true) from rfl), _, rfl, rfl, hC.sel [] (by decide)⟩

set_option maxRecDepth 100000 in
set_option maxHeartbeats 4000000 in
theorem slices_Index_Lint_int_ok (n : Nat) {w : World} {O0 : List Nat} (hO : ∀ k ∈ O0, k < w.heap.size) {As_0 : Option Addr} {ms_0 cs_0 : Nat} {s_0 : List Int} (hs_0 : Rep O0 w (.sl (.int .i64)) [.slice As_0 ms_0 cs_0] s_0) {vx_1 : Int} (hvx_1 : I64 vx_1) {r : Int} (hb : F.slices_Index_Lint_int n s_0 vx_1 = some r) :
    Calls Try.prog 47 #[.slice As_0 ms_0 cs_0, .int .i64 vx_1] w fun e w' => ∃ v, e = .returned v ∧ v = .int .i64 r ∧ I64 r ∧ Cx (fun _ => False) O0 w w' [] := by
 unfold F.slices_Index_Lint_int at hb
 have hC := Cx.start hO
 replace hC := hC.arg rfl hs_0
 clear hO
 obtain ⟨rfl, hls_0, hcs_0⟩ := hs_0.sl_len
 refine calls_of_Wc Try.func47 rfl (by rw [Try.ntmps47]; exact Nat.le_of_ble_eq_true rfl) fun KR hKR => ?_
 refine Wc.seq fun K2 hK2 => ?_
 refine rg ?_
 refine lp (.int .i64 0) (pu_assign rfl) ?_
 refine ln ?_
 refine hK2 _ _ ?_
 refine Wc.seq fun K3 hK3 => ?_
 refine Wc.seq fun K4 hK4 => ?_
 refine rg ?_
 refine lp (.slice As_0 s_0.length cs_0) (pu_move rfl) ?_
 refine lp (.int .i64 (s_0.length : Int)) (pu_len (A := As_0) (n := s_0.length) (m := cs_0) Try.underlying22 rfl) ?_
 refine lp (.int .i64 0) (pu_move rfl) ?_
 refine ln ?_
 refine hK4 _ _ ?_
 obtain ⟨o5, hl0, hb⟩ := bd hb
 refine Wc.cut (fun E wv => ∃ (v8_0 : Int), E 4 = .int .i64 0 ∧ I64 v8_0 ∧ Cx (fun _ => False) O0 w wv [] ∧ (some (-1) : Option (Int)) = some r) (fun K6 hK6 => ?_) ?_
 refine Wc.block ?_
 refine Wc.loop (fun m E wv => ∃ (v8_0 : Int), E 0 = .slice As_0 s_0.length cs_0 ∧ E 1 = .int .i64 vx_1 ∧ E 4 = .int .i64 0 ∧ E 7 = .int .i64 (s_0.length : Int) ∧ E 8 = .int .i64 v8_0 ∧ I64 v8_0 ∧ Cx (fun _ => False) O0 w wv [.ro (.sl (.int .i64)) [.slice As_0 s_0.length cs_0] s_0] ∧ loopN m (F.slices_Index_Lint_int_b0 n s_0 vx_1) v8_0 = some o5) n ⟨0, rfl, rfl, rfl, rfl, rfl, (show I64 0 from by unfold I64; omega), hC.sel [0] (by decide), hl0⟩ ?_
 have hbK0 := hb
 clear hb hC hl0
 rintro m8 E10 w9 ⟨v8_0, e0, e1, e4, e7, e8, hrv8_0, hC, hl0⟩ K7 hK7
 obtain ⟨m8', o11, rfl, hb, hl0⟩ := loopN_some hl0
 unfold F.slices_Index_Lint_int_b0 at hb
 refine Wc.seq fun K12 hK12 => ?_
 refine rg ?_
 refine lp (.bool (decide (v8_0 < (s_0.length : Int)))) (pu_lss (k := .i64) (a := v8_0) (b := (s_0.length : Int)) e8 e7) ?_
 refine ln ?_
 refine hK12 _ _ ?_
 refine Wc.seq fun K13 hK13 => ?_
 refine Wc.cond (t := (decide (v8_0 < (s_0.length : Int)))) (rfl) (fun hq14 => ?_) (fun hq14 => ?_)
 replace hb := tt hq14 hb
 refine Wc.skip ?_
 refine hK13 _ _ ?_
 refine Wc.seq fun K15 hK15 => ?_
 refine Wc.block ?_
 refine Wc.seq fun K16 hK16 => ?_
 refine rg ?_
 refine lp (.int .i64 v8_0) (pu_move e8) ?_
 refine lp (.int .i64 v8_0) (pu_assign rfl) ?_
 refine ln ?_
 refine hK16 _ _ ?_
 refine Wc.seq fun K17 hK17 => ?_
 refine rg ?_
 refine lp (.int .i64 vx_1) (pu_move e1) ?_
 refine lp (.slice As_0 s_0.length cs_0) (pu_move e0) ?_
 refine lp (.int .i64 v8_0) (pu_move rfl) ?_
 obtain ⟨x18, h19, hb⟩ := bd hb
 obtain ⟨ad20, cs21, hA, hc22, hr23⟩ := hC.elr (i := 0) rfl (get_some h19).2
 subst hA
 refine lp (.pointer (some (ad20.add (v8_0.toNat * 1)))) (pu_index (a := v8_0) Try.underlying22 Try.sizeOf3 rfl rfl (get_some h19).1) ?_
 obtain ⟨rfl, hr23'⟩ := hr23
 refine lv (.int .i64 x18) (ld_one Try.isAgg3 rfl (hc22 0 _ rfl)) ?_
 refine lp (.bool (decide (vx_1 = x18))) (pu_eql (k := .i64) (a := vx_1) (b := x18) rfl rfl) ?_
 refine ln ?_
 refine hK17 _ _ ?_
 refine Wc.cond (t := (decide (vx_1 = x18))) (rfl) (fun hq24 => ?_) (fun hq24 => ?_)
 replace hb := tt hq24 hb
 refine Wc.seq fun K25 hK25 => ?_
 refine rg ?_
 refine lp (.int .i64 v8_0) (pu_move rfl) ?_
 refine lp (.int .i64 v8_0) (pu_assign rfl) ?_
 refine ln ?_
 refine hK25 _ _ ?_
 obtain rfl := os hb
 obtain rfl := (lX hl0).symm
 replace hb := hbK0
 obtain rfl := os hb
 refine Wc.ret ?_
 refine hKR _ _ ?_
 refine ⟨_, res1 Try.results47 (show RV _ _ _ (.tmp _) (.int .i64 v8_0) from rfl), _, rfl, rfl, hrv8_0, hC.sel [] (by decide)⟩
 replace hb := tf hq24 hb
 refine Wc.skip ?_
 refine hK15 _ _ ?_
 refine rg ?_
 obtain ⟨z26, h27, hb⟩ := bd hb
 refine lp (.int .i64 z26) (pu_addc (a := v8_0) (b := 1) e8 rfl h27) ?_
 refine lp (.int .i64 z26) (pu_move rfl) ?_
 refine ln ?_
 obtain rfl := os hb
 exact hK7 m8' _ _ (Nat.lt_succ_self _) ⟨z26, e0, e1, e4, e7, rfl, (chk_rng h27), hC.sel [0] (by decide), lN hl0⟩
 replace hb := tf hq14 hb
 refine Wc.exit rfl ?_
 obtain rfl := os hb
 obtain rfl := (lX hl0).symm
 exact hK6 _ _ ⟨v8_0, e4, hrv8_0, hC.sel [] (by decide), hbK0⟩
 clear hb hC hl0
 rintro E29 w28 ⟨v8_0, e4, hrv8_0, hC, hb⟩
 refine hK3 _ _ ?_
 refine Wc.seq fun K30 hK30 => ?_
 refine rg ?_
 refine lp (.int .i64 (-1)) (pu_assign rfl) ?_
 refine ln ?_
 refine hK30 _ _ ?_
 obtain rfl := os hb
 refine Wc.ret ?_
 refine hKR _ _ ?_
 refine ⟨_, res1 Try.results47 (show RV _ _ _ (.tmp _) (.int .i64 (-1)) from rfl), _, rfl, rfl, (show I64 (-1) from by unfold I64; omega), hC.sel [] (by decide)⟩

def insRen : Go.Shelf.Ren := ⟨fun x => match x with | 21 => 46 | 27 => 71 | 28 => 72 | 35 => 84 | 39 => 49 | _ => 0, fun x => match x with | 0 => 0 | 3 => 3 | 4 => 4 | 22 => 22 | _ => 0, fun _ => 0⟩
theorem insLays : Go.Proofs.Lays2.n21 Try.prog insRen where
  mixed := mixed
  f21 := by kernel_rfl
  f27 := by kernel_rfl
  f28 := by kernel_rfl
  f35 := by kernel_rfl
  f39 := by kernel_rfl
  t0 := Try.underlying0
  a0 := Try.isAgg0
  z0 := Try.sizeOf0
  v0 := Try.zeroValue0
  t3 := Try.underlying3
  a3 := Try.isAgg3
  z3 := Try.sizeOf3
  v3 := Try.zeroValue3
  t4 := Try.underlying4
  a4 := Try.isAgg4
  z4 := Try.sizeOf4
  v4 := Try.zeroValue4
  t22 := Try.underlying22
  a22 := Try.isAgg22
  z22 := Try.sizeOf22
  v22 := Try.zeroValue22
  i3 := by kernel_rfl
theorem slices_Insert_Lint_int_ok (n : Nat) {w : World} {O0 : List Nat} (hO : ∀ k ∈ O0, k < w.heap.size) {A0 : Option Addr} {m0 c0 : Nat} {s_0 : List Int} {i_1 : Int} (hi_1 : I64 i_1) {A2 : Option Addr} {m2 c2 : Nat} {v_2 : List Int} (hio : Tk O0 w [.own 3 (.int .i64) (.slice A0 m0 c0) s_0, .own 3 (.int .i64) (.slice A2 m2 c2) v_2]) {r : List Int} (hb : F.slices_Insert_Lint_int n s_0 i_1 v_2 = some r) :
    Calls Try.prog 46 #[.slice A0 m0 c0, .int .i64 i_1, .slice A2 m2 c2] w fun e w' => ∃ v, e = .returned v ∧ ∃ (A1 : Option Addr) (m1 c1 : Nat), v = .slice A1 m1 c1 ∧ Cx (fun k => k ∈ blocks [.own 3 (.int .i64) (.slice A0 m0 c0) s_0, .own 3 (.int .i64) (.slice A2 m2 c2) v_2]) O0 w w' [.own 3 (.int .i64) (.slice A1 m1 c1) r] :=
  insert_calls insLays hO rfl rfl hio hb

set_option maxRecDepth 100000 in
set_option maxHeartbeats 4000000 in
theorem ref01_Ints_ok (n : Nat) {w : World} {O0 : List Nat} (hO : ∀ k ∈ O0, k < w.heap.size) {Aa_0 : Option Addr} {ma_0 ca_0 : Nat} {a_0 : List Int} (ha_0 : Rep O0 w (.sl (.int .i64)) [.slice Aa_0 ma_0 ca_0] a_0) {Ab_1 : Option Addr} {mb_1 cb_1 : Nat} {b_1 : List Int} (hb_1 : Rep O0 w (.sl (.int .i64)) [.slice Ab_1 mb_1 cb_1] b_1) {r : Bool} (hb : F.ref01_Ints n a_0 b_1 = some r) :
    Calls Try.prog 25 #[.slice Aa_0 ma_0 ca_0, .slice Ab_1 mb_1 cb_1] w fun e w' => ∃ v, e = .returned v ∧ v = .bool r ∧ Cx (fun _ => False) O0 w w' [] := by
 unfold F.ref01_Ints at hb
 have hC := Cx.start hO
 replace hC := hC.arg rfl ha_0
 replace hC := hC.arg rfl hb_1
 clear hO
 obtain ⟨rfl, hla_0, hca_0⟩ := ha_0.sl_len
 obtain ⟨rfl, hlb_1, hcb_1⟩ := hb_1.sl_len
 refine calls_of_Wc Try.func25 rfl (by rw [Try.ntmps25]; exact Nat.le_of_ble_eq_true rfl) fun KR hKR => ?_
 refine Wc.seq fun K3 hK3 => ?_
 refine rg ?_
 refine lp (.bool false) (pu_assign rfl) ?_
 refine ln ?_
 refine hK3 _ _ ?_
 refine Wc.seq fun K4 hK4 => ?_
 refine Wc.seq fun K5 hK5 => ?_
 refine rg ?_
 refine lp (.slice Aa_0 a_0.length ca_0) (pu_move rfl) ?_
 refine lp (.int .i64 (a_0.length : Int)) (pu_len (A := Aa_0) (n := a_0.length) (m := ca_0) Try.underlying22 rfl) ?_
 refine lp (.slice Ab_1 b_1.length cb_1) (pu_move rfl) ?_
 refine lp (.int .i64 (b_1.length : Int)) (pu_len (A := Ab_1) (n := b_1.length) (m := cb_1) Try.underlying22 rfl) ?_
 refine lp (.bool (!(decide ((a_0.length : Int) = (b_1.length : Int))))) (pu_neq (k := .i64) (a := (a_0.length : Int)) (b := (b_1.length : Int)) rfl rfl) ?_
 refine ln ?_
 refine hK5 _ _ ?_
 refine Wc.cond (t := (!(decide ((a_0.length : Int) = (b_1.length : Int))))) (rfl) (fun hq6 => ?_) (fun hq6 => ?_)
 replace hb := tt hq6 hb
 refine Wc.seq fun K7 hK7 => ?_
 refine rg ?_
 refine lp (.bool false) (pu_assign rfl) ?_
 refine ln ?_
 refine hK7 _ _ ?_
 obtain rfl := os hb
 refine Wc.ret ?_
 refine hKR _ _ ?_
 refine ⟨_, res1 Try.results25 (show RV _ _ _ (.tmp _) (.bool false) from rfl), _, rfl, rfl, hC.sel [] (by decide)⟩
 replace hb := tf hq6 hb
 refine Wc.skip ?_
 refine hK4 _ _ ?_
 refine Wc.seq fun K8 hK8 => ?_
 refine Wc.seq fun K9 hK9 => ?_
 refine rg ?_
 refine lp (.int .i64 0) (pu_assign rfl) ?_
 refine ln ?_
 refine hK9 _ _ ?_
 obtain ⟨o10, hl0, hb⟩ := bd hb
 refine Wc.cut (fun E wv => ∃ (v5_0 : Int), E 4 = .bool false ∧ I64 v5_0 ∧ Cx (fun _ => False) O0 w wv [] ∧ (some true : Option (Bool)) = some r) (fun K11 hK11 => ?_) ?_
 refine Wc.block ?_
 refine Wc.loop (fun m E wv => ∃ (v5_0 : Int), E 0 = .slice Aa_0 a_0.length ca_0 ∧ E 1 = .slice Ab_1 b_1.length cb_1 ∧ E 4 = .bool false ∧ E 5 = .int .i64 v5_0 ∧ I64 v5_0 ∧ Cx (fun _ => False) O0 w wv [.ro (.sl (.int .i64)) [.slice Aa_0 a_0.length ca_0] a_0, .ro (.sl (.int .i64)) [.slice Ab_1 b_1.length cb_1] b_1] ∧ loopN m (F.ref01_Ints_b0 n a_0 b_1) v5_0 = some o10) n ⟨0, rfl, rfl, rfl, rfl, (show I64 0 from by unfold I64; omega), hC.sel [1, 0] (by decide), hl0⟩ ?_
 have hbK0 := hb
 clear hb hC hl0
 rintro m13 E15 w14 ⟨v5_0, e0, e1, e4, e5, hrv5_0, hC, hl0⟩ K12 hK12
 obtain ⟨m13', o16, rfl, hb, hl0⟩ := loopN_some hl0
 unfold F.ref01_Ints_b0 at hb
 refine Wc.seq fun K17 hK17 => ?_
 refine Wc.seq fun K18 hK18 => ?_
 refine rg ?_
 refine lp (.int .i64 v5_0) (pu_move e5) ?_
 refine lp (.slice Aa_0 a_0.length ca_0) (pu_move e0) ?_
 refine lp (.int .i64 (a_0.length : Int)) (pu_len (A := Aa_0) (n := a_0.length) (m := ca_0) Try.underlying22 rfl) ?_
 refine lp (.bool (decide (v5_0 < (a_0.length : Int)))) (pu_lss (k := .i64) (a := v5_0) (b := (a_0.length : Int)) rfl rfl) ?_
 refine ln ?_
 refine hK18 _ _ ?_
 refine Wc.cond (t := (decide (v5_0 < (a_0.length : Int)))) (rfl) (fun hq19 => ?_) (fun hq19 => ?_)
 replace hb := tt hq19 hb
 refine Wc.skip ?_
 refine hK17 _ _ ?_
 refine Wc.seq fun K20 hK20 => ?_
 refine Wc.block ?_
 refine Wc.seq fun K21 hK21 => ?_
 refine Wc.regionMix [] (frm [] ([] : List Fact) ([] : List Fact)) (fun _ => rfl) mixed (by decide +kernel) (by decide +kernel) fun w23 hw22 => ?_
 replace hC := hC.step (Fr.of_drew hw22)
 have hM := Fr.refl (fun k => k ∈ blocks ([] : List Fact)) w23
 clear hw22
 have hS := hC
 refine mp (.slice Aa_0 a_0.length ca_0) (pu_move e0) ?_
 refine mp (.int .i64 v5_0) (pu_move e5) ?_
 obtain ⟨x24, h25, hb⟩ := bd hb
 obtain ⟨ad26, cs27, hA, ho30, hc28, hr29⟩ := hS.elr2 (i := 0) rfl (get_some h25).2 []
 subst hA
 refine mp (.pointer (some (ad26.add (v5_0.toNat * 1)))) (pu_index (a := v5_0) Try.underlying22 Try.sizeOf3 rfl rfl (get_some h25).1) ?_
 obtain ⟨rfl, hr29'⟩ := hr29
 refine mixE.load hM (v := .int .i64 x24) (fun _ hF => ld_one Try.isAgg3 rfl (hF.cell (hc28 0 _ rfl) (off1 ho30))) ?_
 refine mp (.slice Ab_1 b_1.length cb_1) (pu_move e1) ?_
 refine mp (.int .i64 v5_0) (pu_move e5) ?_
 obtain ⟨x31, h32, hb⟩ := bd hb
 obtain ⟨ad33, cs34, hA, ho37, hc35, hr36⟩ := hS.elr2 (i := 1) rfl (get_some h32).2 []
 subst hA
 refine mp (.pointer (some (ad33.add (v5_0.toNat * 1)))) (pu_index (a := v5_0) Try.underlying22 Try.sizeOf3 rfl rfl (get_some h32).1) ?_
 obtain ⟨rfl, hr36'⟩ := hr36
 refine mixE.load hM (v := .int .i64 x31) (fun _ hF => ld_one Try.isAgg3 rfl (hF.cell (hc35 0 _ rfl) (off1 ho37))) ?_
 refine mp (.bool (!(decide (x24 = x31)))) (pu_neq (k := .i64) (a := x24) (b := x31) rfl rfl) ?_
 refine mixE.nil ?_
 clear hS hM
 refine hK21 _ _ ?_
 refine Wc.cond (t := (!(decide (x24 = x31)))) (rfl) (fun hq38 => ?_) (fun hq38 => ?_)
 replace hb := tt hq38 hb
 refine Wc.seq fun K39 hK39 => ?_
 refine rg ?_
 refine lp (.bool false) (pu_assign rfl) ?_
 refine ln ?_
 refine hK39 _ _ ?_
 obtain rfl := os hb
 obtain rfl := (lX hl0).symm
 replace hb := hbK0
 obtain rfl := os hb
 refine Wc.ret ?_
 refine hKR _ _ ?_
 refine ⟨_, res1 Try.results25 (show RV _ _ _ (.tmp _) (.bool false) from rfl), _, rfl, rfl, hC.sel [] (by decide)⟩
 replace hb := tf hq38 hb
 refine Wc.skip ?_
 refine hK20 _ _ ?_
 refine rg ?_
 refine lp (.int .i64 v5_0) (pu_move e5) ?_
 obtain ⟨z40, h41, hb⟩ := bd hb
 refine lp (.int .i64 z40) (pu_addc (a := v5_0) (b := 1) rfl rfl h41) ?_
 refine lp (.int .i64 z40) (pu_assign rfl) ?_
 refine ln ?_
 obtain rfl := os hb
 exact hK12 m13' _ _ (Nat.lt_succ_self _) ⟨z40, e0, e1, e4, rfl, (chk_rng h41), hC.sel [0, 1] (by decide), lN hl0⟩
 replace hb := tf hq19 hb
 refine Wc.exit rfl ?_
 obtain rfl := os hb
 obtain rfl := (lX hl0).symm
 exact hK11 _ _ ⟨v5_0, e4, hrv5_0, hC.sel [] (by decide), hbK0⟩
 clear hb hC hl0
 rintro E43 w42 ⟨v5_0, e4, hrv5_0, hC, hb⟩
 refine hK8 _ _ ?_
 refine Wc.seq fun K44 hK44 => ?_
 refine rg ?_
 refine lp (.bool true) (pu_assign rfl) ?_
 refine ln ?_
 refine hK44 _ _ ?_
 obtain rfl := os hb
 refine Wc.ret ?_
 refine hKR _ _ ?_
 refine ⟨_, res1 Try.results25 (show RV _ _ _ (.tmp _) (.bool true) from rfl), _, rfl, rfl, hC.sel [] (by decide)⟩
end Go.Proofs.Yticemffhlapnnaa
