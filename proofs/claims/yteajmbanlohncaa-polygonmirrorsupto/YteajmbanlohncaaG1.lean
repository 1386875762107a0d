/- The walks: part 1. -/
import Derived.Test.YteajmbanlohncaaS
import Derived.Test.YteajmbanlohncaaG0
set_option linter.unusedVariables false
set_option linter.unusedSimpArgs false
namespace Go.Proofs.Yteajmbanlohncaa
open Ev
set_option maxRecDepth 100000 in
set_option maxHeartbeats 4000000 in
theorem polygon_opposite_ok (n : Nat) {w : World} {O0 : List Nat} (hO : ∀ k ∈ O0, k < w.heap.size) {x_0 : Int} (hx_0 : I64 x_0) {y_1 : Int} (hy_1 : I64 y_1) {r : Bool} (hb : F.polygon_opposite n x_0 y_1 = some r) :
    Calls Try.prog 45 #[.int .i64 x_0, .int .i64 y_1] w fun e w' => ∃ v, e = .returned v ∧ v = .bool r ∧ Cx (fun _ => False) O0 w w' [] := by
 unfold F.polygon_opposite at hb
 have hC := Cx.start hO
 clear hO
 refine calls_of_Wc Try.func45 rfl (by rw [Try.ntmps45]; exact Nat.le_of_ble_eq_true rfl) fun KR hKR => ?_
 refine Wc.seq fun K1 hK1 => ?_
 refine rg ?_
 refine lp (.bool false) (pu_assign rfl) ?_
 refine ln ?_
 refine hK1 _ _ ?_
 refine Wc.seq fun K2 hK2 => ?_
 refine rg ?_
 refine lp (.int .i64 x_0) (pu_move rfl) ?_
 refine lp (.bool (decide (x_0 < 0))) (pu_lss (k := .i64) (a := x_0) (b := 0) rfl rfl) ?_
 refine lp (.bool (decide (x_0 < 0))) (pu_move rfl) ?_
 rcases bS (decide (x_0 < 0)) with hq3 | hq3
 replace hb := tt hq3 hb
 refine gp rfl rfl (decide (x_0 < 0)) rfl hq3 (.int .i64 y_1) (pu_move rfl) ?_
 refine gp rfl rfl (decide (x_0 < 0)) rfl hq3 (.bool (decide (0 < y_1))) (pu_gtr (k := .i64) (a := y_1) (b := 0) rfl rfl) ?_
 refine lp (.bool (decide (0 < y_1))) (pu_pickT (q := (decide (x_0 < 0))) rfl hq3 rfl) ?_
 refine lp (.bool (decide (0 < y_1))) (pu_move rfl) ?_
 rcases bS (decide (0 < y_1)) with hq4 | hq4
 replace hb := tt hq4 hb
 refine gs rfl rfl (decide (0 < y_1)) rfl hq4 ?_
 refine gs rfl rfl (decide (0 < y_1)) rfl hq4 ?_
 refine gs rfl rfl (decide (0 < y_1)) rfl hq4 ?_
 refine lex.gskip (want_n rfl rfl rfl) ?_
 refine lex.gskip (want_n rfl rfl rfl) ?_
 refine gs rfl rfl (decide (0 < y_1)) rfl hq4 ?_
 refine lp (.bool true) (pu_pickT (q := (decide (0 < y_1))) rfl hq4 rfl) ?_
 refine lp (.bool true) (pu_assign rfl) ?_
 refine ln ?_
 refine hK2 _ _ ?_
 obtain rfl := os hb
 refine Wc.ret ?_
 refine hKR _ _ ?_
 refine ⟨_, res1 Try.results45 (show RV _ _ _ (.tmp _) (.bool true) from rfl), _, rfl, rfl, hC.sel [] (by decide)⟩
 replace hb := tf hq4 hb
 refine gp rfl rfl (decide (0 < y_1)) rfl hq4 (.int .i64 x_0) (pu_move rfl) ?_
 refine gp rfl rfl (decide (0 < y_1)) rfl hq4 (.bool (decide (0 < x_0))) (pu_gtr (k := .i64) (a := x_0) (b := 0) rfl rfl) ?_
 refine gp rfl rfl (decide (0 < y_1)) rfl hq4 (.bool (decide (0 < x_0))) (pu_move rfl) ?_
 rcases bS (decide (0 < x_0)) with hq5 | hq5
 replace hb := tt hq5 hb
 refine gp rfl rfl (decide (0 < x_0)) rfl hq5 (.int .i64 y_1) (pu_move rfl) ?_
 refine gp rfl rfl (decide (0 < x_0)) rfl hq5 (.bool (decide (y_1 < 0))) (pu_lss (k := .i64) (a := y_1) (b := 0) rfl rfl) ?_
 refine gp rfl rfl (decide (0 < y_1)) rfl hq4 (.bool (decide (y_1 < 0))) (pu_pickT (q := (decide (0 < x_0))) rfl hq5 rfl) ?_
 refine lp (.bool (decide (y_1 < 0))) (pu_pickF (q := (decide (0 < y_1))) rfl hq4 rfl) ?_
 refine lp (.bool (decide (y_1 < 0))) (pu_assign rfl) ?_
 refine ln ?_
 refine hK2 _ _ ?_
 obtain rfl := os hb
 refine Wc.ret ?_
 refine hKR _ _ ?_
 refine ⟨_, res1 Try.results45 (show RV _ _ _ (.tmp _) (.bool (decide (y_1 < 0))) from rfl), _, rfl, rfl, hC.sel [] (by decide)⟩
 replace hb := tf hq5 hb
 refine gs rfl rfl (decide (0 < x_0)) rfl hq5 ?_
 refine gs rfl rfl (decide (0 < x_0)) rfl hq5 ?_
 refine gp rfl rfl (decide (0 < y_1)) rfl hq4 (.bool false) (pu_pickF (q := (decide (0 < x_0))) rfl hq5 rfl) ?_
 refine lp (.bool false) (pu_pickF (q := (decide (0 < y_1))) rfl hq4 rfl) ?_
 refine lp (.bool false) (pu_assign rfl) ?_
 refine ln ?_
 refine hK2 _ _ ?_
 obtain rfl := os hb
 refine Wc.ret ?_
 refine hKR _ _ ?_
 refine ⟨_, res1 Try.results45 (show RV _ _ _ (.tmp _) (.bool false) from rfl), _, rfl, rfl, hC.sel [] (by decide)⟩
 replace hb := tf hq3 hb
 refine gs rfl rfl (decide (x_0 < 0)) rfl hq3 ?_
 refine gs rfl rfl (decide (x_0 < 0)) rfl hq3 ?_
 refine lp (.bool false) (pu_pickF (q := (decide (x_0 < 0))) rfl hq3 rfl) ?_
 refine lp (.bool false) (pu_move rfl) ?_
 refine gp rfl rfl false rfl rfl (.int .i64 x_0) (pu_move rfl) ?_
 refine gp rfl rfl false rfl rfl (.bool (decide (0 < x_0))) (pu_gtr (k := .i64) (a := x_0) (b := 0) rfl rfl) ?_
 refine gp rfl rfl false rfl rfl (.bool (decide (0 < x_0))) (pu_move rfl) ?_
 rcases bS (decide (0 < x_0)) with hq6 | hq6
 replace hb := tt hq6 hb
 refine gp rfl rfl (decide (0 < x_0)) rfl hq6 (.int .i64 y_1) (pu_move rfl) ?_
 refine gp rfl rfl (decide (0 < x_0)) rfl hq6 (.bool (decide (y_1 < 0))) (pu_lss (k := .i64) (a := y_1) (b := 0) rfl rfl) ?_
 refine gp rfl rfl false rfl rfl (.bool (decide (y_1 < 0))) (pu_pickT (q := (decide (0 < x_0))) rfl hq6 rfl) ?_
 refine lp (.bool (decide (y_1 < 0))) (pu_pickF (q := false) rfl rfl rfl) ?_
 refine lp (.bool (decide (y_1 < 0))) (pu_assign rfl) ?_
 refine ln ?_
 refine hK2 _ _ ?_
 obtain rfl := os hb
 refine Wc.ret ?_
 refine hKR _ _ ?_
 refine ⟨_, res1 Try.results45 (show RV _ _ _ (.tmp _) (.bool (decide (y_1 < 0))) from rfl), _, rfl, rfl, hC.sel [] (by decide)⟩
 replace hb := tf hq6 hb
 refine gs rfl rfl (decide (0 < x_0)) rfl hq6 ?_
 refine gs rfl rfl (decide (0 < x_0)) rfl hq6 ?_
 refine gp rfl rfl false rfl rfl (.bool false) (pu_pickF (q := (decide (0 < x_0))) rfl hq6 rfl) ?_
 refine lp (.bool false) (pu_pickF (q := false) rfl rfl rfl) ?_
 refine lp (.bool false) (pu_assign rfl) ?_
 refine ln ?_
 refine hK2 _ _ ?_
 obtain rfl := os hb
 refine Wc.ret ?_
 refine hKR _ _ ?_
 refine ⟨_, res1 Try.results45 (show RV _ _ _ (.tmp _) (.bool false) from rfl), _, rfl, rfl, hC.sel [] (by decide)⟩

set_option maxRecDepth 100000 in
set_option maxHeartbeats 4000000 in
theorem polygon_Cross_ok (n : Nat) {w : World} {O0 : List Nat} (hO : ∀ k ∈ O0, k < w.heap.size) {a_0_0 : Int} (ha_0_0 : I64 a_0_0) {a_0_1 : Int} (ha_0_1 : I64 a_0_1) {a_0_2 : Int} (ha_0_2 : I64 a_0_2) {b_1_0 : Int} (hb_1_0 : I64 b_1_0) {b_1_1 : Int} (hb_1_1 : I64 b_1_1) {b_1_2 : Int} (hb_1_2 : I64 b_1_2) {c_2_0 : Int} (hc_2_0 : I64 c_2_0) {c_2_1 : Int} (hc_2_1 : I64 c_2_1) {c_2_2 : Int} (hc_2_2 : I64 c_2_2) {d_3_0 : Int} (hd_3_0 : I64 d_3_0) {d_3_1 : Int} (hd_3_1 : I64 d_3_1) {d_3_2 : Int} (hd_3_2 : I64 d_3_2) {r : Int × Bool} (hb : F.polygon_Cross n a_0_0 a_0_1 a_0_2 b_1_0 b_1_1 b_1_2 c_2_0 c_2_1 c_2_2 d_3_0 d_3_1 d_3_2 = some r) :
    Calls Try.prog 12 #[.agg #[.int .i64 a_0_0, .int .i64 a_0_1, .int .i64 a_0_2], .agg #[.int .i64 b_1_0, .int .i64 b_1_1, .int .i64 b_1_2], .agg #[.int .i64 c_2_0, .int .i64 c_2_1, .int .i64 c_2_2], .agg #[.int .i64 d_3_0, .int .i64 d_3_1, .int .i64 d_3_2]] w fun e w' => ∃ v, e = .returned v ∧ v = .tuple #[.int .i64 r.1, .bool r.2] ∧ I64 r.1 ∧ Cx (fun _ => False) O0 w w' [] := by
 unfold F.polygon_Cross at hb
 have hC := Cx.start hO
 clear hO
 refine calls_of_Wc Try.func12 rfl (by rw [Try.ntmps12]; exact Nat.le_of_ble_eq_true rfl) fun KR hKR => ?_
 refine Wc.seq fun K1 hK1 => ?_
 refine rg ?_
 refine lex.op (hC.box (cs := [.int .i64 a_0_0, .int .i64 a_0_1, .int .i64 a_0_2]) rfl rfl) ?_
 rintro _ w3 ⟨g2, rfl, hC, hF, hG⟩
 clear hG
 refine lex.op (hC.box (cs := [.int .i64 b_1_0, .int .i64 b_1_1, .int .i64 b_1_2]) rfl rfl) ?_
 rintro _ w6 ⟨g5, rfl, hC, hF, hG⟩
 clear hG
 refine lex.op (hC.box (cs := [.int .i64 c_2_0, .int .i64 c_2_1, .int .i64 c_2_2]) rfl rfl) ?_
 rintro _ w9 ⟨g8, rfl, hC, hF, hG⟩
 clear hG
 refine lex.op (hC.box (cs := [.int .i64 d_3_0, .int .i64 d_3_1, .int .i64 d_3_2]) rfl rfl) ?_
 rintro _ w12 ⟨g11, rfl, hC, hF, hG⟩
 clear hG
 refine lp (.int .i64 0) (pu_assign rfl) ?_
 refine lp (.bool false) (pu_assign rfl) ?_
 refine ln ?_
 refine hK1 _ _ ?_
 refine Wc.seq fun K14 hK14 => ?_
 refine Wc.seq fun K15 hK15 => ?_
 refine rg ?_
 refine lv (.agg #[.int .i64 a_0_0, .int .i64 a_0_1, .int .i64 a_0_2]) (ld_blk (hC.bx (i := 3) rfl) Try.isAgg23 Try.sizeOf23 rfl) ?_
 refine lv (.agg #[.int .i64 b_1_0, .int .i64 b_1_1, .int .i64 b_1_2]) (ld_blk (hC.bx (i := 2) rfl) Try.isAgg23 Try.sizeOf23 rfl) ?_
 refine lv (.agg #[.int .i64 c_2_0, .int .i64 c_2_1, .int .i64 c_2_2]) (ld_blk (hC.bx (i := 1) rfl) Try.isAgg23 Try.sizeOf23 rfl) ?_
 refine lv (.agg #[.int .i64 d_3_0, .int .i64 d_3_1, .int .i64 d_3_2]) (ld_blk (hC.bx (i := 0) rfl) Try.isAgg23 Try.sizeOf23 rfl) ?_
 refine lp (.agg #[.int .i64 a_0_0, .int .i64 a_0_1, .int .i64 a_0_2, .int .i64 b_1_0, .int .i64 b_1_1, .int .i64 b_1_2, .int .i64 c_2_0, .int .i64 c_2_1, .int .i64 c_2_2, .int .i64 d_3_0, .int .i64 d_3_1, .int .i64 d_3_2]) (pu_builda (pv := [(0, .agg #[.int .i64 a_0_0, .int .i64 a_0_1, .int .i64 a_0_2]), (1, .agg #[.int .i64 b_1_0, .int .i64 b_1_1, .int .i64 b_1_2]), (2, .agg #[.int .i64 c_2_0, .int .i64 c_2_1, .int .i64 c_2_2]), (3, .agg #[.int .i64 d_3_0, .int .i64 d_3_1, .int .i64 d_3_2])]) (sz := 3) Try.type64 Try.underlying64 rfl Try.type23 rfl rfl (by simp [Instr.fill, Value.cells])) ?_
 refine lp (.int .i64 0) (pu_move rfl) ?_
 refine ln ?_
 refine hK15 _ _ ?_
 refine Wc.fresh fun E16 hE => ?_
 have e4 : E16 4 = .pointer (some ⟨g2, 0, none⟩) := (congrFun hE 4).trans rfl
 have e5 : E16 5 = .pointer (some ⟨g5, 0, none⟩) := (congrFun hE 5).trans rfl
 have e6 : E16 6 = .pointer (some ⟨g8, 0, none⟩) := (congrFun hE 6).trans rfl
 have e7 : E16 7 = .pointer (some ⟨g11, 0, none⟩) := (congrFun hE 7).trans rfl
 have e8 : E16 8 = .int .i64 0 := (congrFun hE 8).trans rfl
 have e9 : E16 9 = .bool false := (congrFun hE 9).trans rfl
 have e24 : E16 24 = .agg #[.int .i64 a_0_0, .int .i64 a_0_1, .int .i64 a_0_2, .int .i64 b_1_0, .int .i64 b_1_1, .int .i64 b_1_2, .int .i64 c_2_0, .int .i64 c_2_1, .int .i64 c_2_2, .int .i64 d_3_0, .int .i64 d_3_1, .int .i64 d_3_2] := (congrFun hE 24).trans rfl
 have e25 : E16 25 = .int .i64 0 := (congrFun hE 25).trans rfl
 clear hE
 obtain ⟨o17, hl0, hb⟩ := bd hb
 refine Wc.cut (fun E wv => ∃ (v25_0 : Int), E 4 = .pointer (some ⟨g2, 0, none⟩) ∧ E 5 = .pointer (some ⟨g5, 0, none⟩) ∧ E 6 = .pointer (some ⟨g8, 0, none⟩) ∧ E 7 = .pointer (some ⟨g11, 0, none⟩) ∧ E 8 = .int .i64 0 ∧ E 9 = .bool false ∧ I64 v25_0 ∧ Cx (fun _ => False) O0 w wv [.box g2 23 [.int .i64 a_0_0, .int .i64 a_0_1, .int .i64 a_0_2], .box g5 23 [.int .i64 b_1_0, .int .i64 b_1_1, .int .i64 b_1_2], .box g8 23 [.int .i64 c_2_0, .int .i64 c_2_1, .int .i64 c_2_2], .box g11 23 [.int .i64 d_3_0, .int .i64 d_3_1, .int .i64 d_3_2]] ∧ ((F.polygon_turn n a_0_0 a_0_1 a_0_2 b_1_0 b_1_1 b_1_2 c_2_0 c_2_1 c_2_2).bind fun y51 => (F.polygon_turn n a_0_0 a_0_1 a_0_2 b_1_0 b_1_1 b_1_2 d_3_0 d_3_1 d_3_2).bind fun y55 => (F.polygon_turn n c_2_0 c_2_1 c_2_2 d_3_0 d_3_1 d_3_2 a_0_0 a_0_1 a_0_2).bind fun y63 => (F.polygon_turn n c_2_0 c_2_1 c_2_2 d_3_0 d_3_1 d_3_2 b_1_0 b_1_1 b_1_2).bind fun y67 => (F.polygon_opposite n y51 y55).bind fun y74 => cond (!y74) (F.polygon_Cross_j1 n a_0_0 a_0_1 a_0_2 b_1_0 b_1_1 b_1_2 c_2_0 c_2_1 c_2_2 d_3_0 d_3_1 d_3_2 y51 y55 y63 y67 true) ((F.polygon_opposite n y63 y67).bind fun y78 => F.polygon_Cross_j1 n a_0_0 a_0_1 a_0_2 b_1_0 b_1_1 b_1_2 c_2_0 c_2_1 c_2_2 d_3_0 d_3_1 d_3_2 y51 y55 y63 y67 (!y78)) : Option (Int × Bool)) = some r) (fun K18 hK18 => ?_) ?_
 refine Wc.block ?_
 refine Wc.loop (fun m E wv => ∃ (v25_0 : Int), E 4 = .pointer (some ⟨g2, 0, none⟩) ∧ E 5 = .pointer (some ⟨g5, 0, none⟩) ∧ E 6 = .pointer (some ⟨g8, 0, none⟩) ∧ E 7 = .pointer (some ⟨g11, 0, none⟩) ∧ E 8 = .int .i64 0 ∧ E 9 = .bool false ∧ E 24 = .agg #[.int .i64 a_0_0, .int .i64 a_0_1, .int .i64 a_0_2, .int .i64 b_1_0, .int .i64 b_1_1, .int .i64 b_1_2, .int .i64 c_2_0, .int .i64 c_2_1, .int .i64 c_2_2, .int .i64 d_3_0, .int .i64 d_3_1, .int .i64 d_3_2] ∧ E 25 = .int .i64 v25_0 ∧ I64 v25_0 ∧ Cx (fun _ => False) O0 w wv [.box g2 23 [.int .i64 a_0_0, .int .i64 a_0_1, .int .i64 a_0_2], .box g5 23 [.int .i64 b_1_0, .int .i64 b_1_1, .int .i64 b_1_2], .box g8 23 [.int .i64 c_2_0, .int .i64 c_2_1, .int .i64 c_2_2], .box g11 23 [.int .i64 d_3_0, .int .i64 d_3_1, .int .i64 d_3_2]] ∧ loopN m (F.polygon_Cross_b0 n a_0_0 a_0_1 a_0_2 b_1_0 b_1_1 b_1_2 c_2_0 c_2_1 c_2_2 d_3_0 d_3_1 d_3_2) v25_0 = some o17) n ⟨0, e4, e5, e6, e7, e8, e9, e24, e25, (show I64 0 from by unfold I64; omega), hC.sel [3, 2, 1, 0] (by decide), hl0⟩ ?_
 have hbK0 := hb
 clear hb hC hl0
 rintro m20 E22 w21 ⟨v25_0, e4, e5, e6, e7, e8, e9, e24, e25, hrv25_0, hC, hl0⟩ K19 hK19
 obtain ⟨m20', o23, rfl, hb, hl0⟩ := loopN_some hl0
 unfold F.polygon_Cross_b0 at hb
 refine Wc.seq fun K24 hK24 => ?_
 refine rg ?_
 refine lp (.bool (decide (v25_0 < 4))) (pu_lss (k := .i64) (a := v25_0) (b := 4) e25 rfl) ?_
 refine ln ?_
 refine hK24 _ _ ?_
 refine Wc.seq fun K25 hK25 => ?_
 refine Wc.cond (t := (decide (v25_0 < 4))) (rfl) (fun hq26 => ?_) (fun hq26 => ?_)
 replace hb := tt hq26 hb
 refine Wc.skip ?_
 refine hK25 _ _ ?_
 refine Wc.seq fun K27 hK27 => ?_
 refine Wc.block ?_
 refine Wc.seq fun K28 hK28 => ?_
 refine rg ?_
 obtain ⟨x29, h30, hb⟩ := bd hb
 have hr31 : I64 x29.1 := all_get (p := fun d => I64 d.1) (List.forall_mem_cons.2 ⟨ha_0_0, List.forall_mem_cons.2 ⟨hb_1_0, List.forall_mem_cons.2 ⟨hc_2_0, List.forall_mem_cons.2 ⟨hd_3_0, fun _ h => absurd h List.not_mem_nil⟩⟩⟩⟩) h30
 have hr32 : I64 x29.2.1 := all_get (p := fun d => I64 d.2.1) (List.forall_mem_cons.2 ⟨ha_0_1, List.forall_mem_cons.2 ⟨hb_1_1, List.forall_mem_cons.2 ⟨hc_2_1, List.forall_mem_cons.2 ⟨hd_3_1, fun _ h => absurd h List.not_mem_nil⟩⟩⟩⟩) h30
 have hr33 : I64 x29.2.2 := all_get (p := fun d => I64 d.2.2) (List.forall_mem_cons.2 ⟨ha_0_2, List.forall_mem_cons.2 ⟨hb_1_2, List.forall_mem_cons.2 ⟨hc_2_2, List.forall_mem_cons.2 ⟨hd_3_2, fun _ h => absurd h List.not_mem_nil⟩⟩⟩⟩) h30
 refine lp (.agg #[.int .i64 x29.1, .int .i64 x29.2.1, .int .i64 x29.2.2]) (pu_ixs (a := v25_0) (ds := ([(a_0_0, (a_0_1, a_0_2)), (b_1_0, (b_1_1, b_1_2)), (c_2_0, (c_2_1, c_2_2)), (d_3_0, (d_3_1, d_3_2))] : List (Int × (Int × Int)))) (enc := (fun d : Int × (Int × Int) => [Value.int .i64 d.1, Value.int .i64 d.2.1, Value.int .i64 d.2.2])) (q := x29) Try.underlying64 Try.sizeOf23 Try.isAgg23 e24 e25 (by have h1 := (get_some h30).1; have h2 := (get_nn h30); simp at h1; omega) (by simp) (get_some h30).2 rfl) ?_
 refine lex.op (hC.alloc (cs := [.int .i64 0, .int .i64 0, .int .i64 0]) Try.zeroValue23 rfl) ?_
 rintro _ w35 ⟨g34, rfl, hC, hF, hG⟩
 clear hG
 refine lex.sk (hC.seta (i := 0) (ds := [.int .i64 x29.1, .int .i64 x29.2.1, .int .i64 x29.2.2]) rfl Try.type23 rfl rfl rfl rfl rfl) ?_
 rintro w37 ⟨hC, hF⟩
 refine ln ?_
 refine hK28 _ _ ?_
 refine Wc.seq fun K38 hK38 => ?_
 refine rg ?_
 refine lv (.agg #[.int .i64 x29.1, .int .i64 x29.2.1, .int .i64 x29.2.2]) (ld_blk (hC.bx (i := 0) rfl) Try.isAgg23 Try.sizeOf23 rfl) ?_
 obtain ⟨y39, h40, hb⟩ := bd hb
 refine lex.cl (⟨_, _, op_call (vs := [.agg #[.int .i64 x29.1, .int .i64 x29.2.1, .int .i64 x29.2.2]]) Try.call43 rfl rfl rfl, polygon_within_ok n hC.lt hr31 hr32 hr33 h40⟩) ?_
 rintro _ w41 ⟨rfl, hK⟩
 replace hC := hC.merge hK
 clear hK
 refine lp (.bool (!y39)) (pu_not (q := y39) rfl) ?_
 refine ln ?_
 refine hK38 _ _ ?_
 refine Wc.cond (t := (!y39)) (rfl) (fun hq42 => ?_) (fun hq42 => ?_)
 replace hb := tt hq42 hb
 refine Wc.seq fun K43 hK43 => ?_
 refine rg ?_
 refine lp (.int .i64 2) (pu_assign rfl) ?_
 refine lp (.bool false) (pu_assign rfl) ?_
 refine ln ?_
 refine hK43 _ _ ?_
 obtain rfl := os hb
 obtain rfl := (lX hl0).symm
 replace hb := hbK0
 obtain rfl := os hb
 refine Wc.ret ?_
 refine hKR _ _ ?_
 refine ⟨_, res2 Try.results12 (show RV _ _ _ (.tmp _) (.int .i64 2) from rfl) (show RV _ _ _ (.tmp _) (.bool false) from rfl), _, rfl, rfl, (show I64 2 from by unfold I64; omega), hC.sel [] (by decide)⟩
 replace hb := tf hq42 hb
 refine Wc.skip ?_
 refine hK27 _ _ ?_
 refine rg ?_
 obtain ⟨z44, h45, hb⟩ := bd hb
 refine lp (.int .i64 z44) (pu_addc (a := v25_0) (b := 1) e25 rfl h45) ?_
 refine lp (.int .i64 z44) (pu_move rfl) ?_
 refine ln ?_
 obtain rfl := os hb
 exact hK19 m20' _ _ (Nat.lt_succ_self _) ⟨z44, e4, e5, e6, e7, e8, e9, e24, rfl, (chk_rng h45), hC.sel [1, 2, 3, 4] (by decide), lN hl0⟩
 replace hb := tf hq26 hb
 refine Wc.exit rfl ?_
 obtain rfl := os hb
 obtain rfl := (lX hl0).symm
 exact hK18 _ _ ⟨v25_0, e4, e5, e6, e7, e8, e9, hrv25_0, hC.sel [0, 1, 2, 3] (by decide), hbK0⟩
 clear hb hC hl0
 rintro E47 w46 ⟨v25_0, e4, e5, e6, e7, e8, e9, hrv25_0, hC, hb⟩
 refine hK14 _ _ ?_
 refine Wc.seq fun K48 hK48 => ?_
 refine Wc.regionMix [] (frm [] ([] : List Fact) ([] : List Fact)) (fun _ => rfl) mixed (by decide +kernel) (by decide +kernel) fun w50 hw49 => ?_
 replace hC := hC.step (Fr.of_drew hw49)
 have hM := Fr.refl (fun k => k ∈ blocks ([] : List Fact)) w50
 clear hw49
 have hS := hC
 refine mixE.load hM (v := .agg #[.int .i64 a_0_0, .int .i64 a_0_1, .int .i64 a_0_2]) (fun _ hF => ld_blk (hS.bx2 (i := 0) rfl [] (by decide) hF) Try.isAgg23 Try.sizeOf23 e4) ?_
 refine mixE.load hM (v := .agg #[.int .i64 b_1_0, .int .i64 b_1_1, .int .i64 b_1_2]) (fun _ hF => ld_blk (hS.bx2 (i := 1) rfl [] (by decide) hF) Try.isAgg23 Try.sizeOf23 e5) ?_
 refine mixE.load hM (v := .agg #[.int .i64 c_2_0, .int .i64 c_2_1, .int .i64 c_2_2]) (fun _ hF => ld_blk (hS.bx2 (i := 2) rfl [] (by decide) hF) Try.isAgg23 Try.sizeOf23 e6) ?_
 obtain ⟨y51, h52, hb⟩ := bd hb
 refine mixE.cl hM (⟨_, _, op_call (vs := [.agg #[.int .i64 a_0_0, .int .i64 a_0_1, .int .i64 a_0_2], .agg #[.int .i64 b_1_0, .int .i64 b_1_1, .int .i64 b_1_2], .agg #[.int .i64 c_2_0, .int .i64 c_2_1, .int .i64 c_2_2]]) Try.call44 rfl rfl rfl, polygon_turn_ok n hC.lt ha_0_0 ha_0_1 ha_0_2 hb_1_0 hb_1_1 hb_1_2 hc_2_0 hc_2_1 hc_2_2 h52⟩) ?_
 rintro _ w54 ⟨rfl, hr53, hK⟩
 replace hM := hM.none hK.fr
 refine ⟨hM, ?_⟩
 replace hC := hC.merge hK
 clear hK
 refine mixE.load hM (v := .agg #[.int .i64 a_0_0, .int .i64 a_0_1, .int .i64 a_0_2]) (fun _ hF => ld_blk (hS.bx2 (i := 0) rfl [] (by decide) hF) Try.isAgg23 Try.sizeOf23 e4) ?_
 refine mixE.load hM (v := .agg #[.int .i64 b_1_0, .int .i64 b_1_1, .int .i64 b_1_2]) (fun _ hF => ld_blk (hS.bx2 (i := 1) rfl [] (by decide) hF) Try.isAgg23 Try.sizeOf23 e5) ?_
 refine mixE.load hM (v := .agg #[.int .i64 d_3_0, .int .i64 d_3_1, .int .i64 d_3_2]) (fun _ hF => ld_blk (hS.bx2 (i := 3) rfl [] (by decide) hF) Try.isAgg23 Try.sizeOf23 e7) ?_
 obtain ⟨y55, h56, hb⟩ := bd hb
 refine mixE.cl hM (⟨_, _, op_call (vs := [.agg #[.int .i64 a_0_0, .int .i64 a_0_1, .int .i64 a_0_2], .agg #[.int .i64 b_1_0, .int .i64 b_1_1, .int .i64 b_1_2], .agg #[.int .i64 d_3_0, .int .i64 d_3_1, .int .i64 d_3_2]]) Try.call44 rfl rfl rfl, polygon_turn_ok n hC.lt ha_0_0 ha_0_1 ha_0_2 hb_1_0 hb_1_1 hb_1_2 hd_3_0 hd_3_1 hd_3_2 h56⟩) ?_
 rintro _ w58 ⟨rfl, hr57, hK⟩
 replace hM := hM.none hK.fr
 refine ⟨hM, ?_⟩
 replace hC := hC.merge hK
 clear hK
 refine mp (.int .i64 y51) (pu_assign rfl) ?_
 refine mp (.int .i64 y55) (pu_assign rfl) ?_
 refine mixE.nil ?_
 clear hS hM
 refine hK48 _ _ ?_
 refine Wc.fresh fun E59 hE => ?_
 have e4 := (congrFun hE 4).trans e4
 have e5 := (congrFun hE 5).trans e5
 have e6 := (congrFun hE 6).trans e6
 have e7 := (congrFun hE 7).trans e7
 have e8 := (congrFun hE 8).trans e8
 have e9 := (congrFun hE 9).trans e9
 have e12 : E59 12 = .int .i64 y51 := (congrFun hE 12).trans rfl
 have e13 : E59 13 = .int .i64 y55 := (congrFun hE 13).trans rfl
 clear hE
 refine Wc.seq fun K60 hK60 => ?_
 refine Wc.regionMix [] (frm [] ([] : List Fact) ([] : List Fact)) (fun _ => rfl) mixed (by decide +kernel) (by decide +kernel) fun w62 hw61 => ?_
 replace hC := hC.step (Fr.of_drew hw61)
 have hM := Fr.refl (fun k => k ∈ blocks ([] : List Fact)) w62
 clear hw61
 have hS := hC
 refine mixE.load hM (v := .agg #[.int .i64 c_2_0, .int .i64 c_2_1, .int .i64 c_2_2]) (fun _ hF => ld_blk (hS.bx2 (i := 2) rfl [] (by decide) hF) Try.isAgg23 Try.sizeOf23 e6) ?_
 refine mixE.load hM (v := .agg #[.int .i64 d_3_0, .int .i64 d_3_1, .int .i64 d_3_2]) (fun _ hF => ld_blk (hS.bx2 (i := 3) rfl [] (by decide) hF) Try.isAgg23 Try.sizeOf23 e7) ?_
 refine mixE.load hM (v := .agg #[.int .i64 a_0_0, .int .i64 a_0_1, .int .i64 a_0_2]) (fun _ hF => ld_blk (hS.bx2 (i := 0) rfl [] (by decide) hF) Try.isAgg23 Try.sizeOf23 e4) ?_
 obtain ⟨y63, h64, hb⟩ := bd hb
 refine mixE.cl hM (⟨_, _, op_call (vs := [.agg #[.int .i64 c_2_0, .int .i64 c_2_1, .int .i64 c_2_2], .agg #[.int .i64 d_3_0, .int .i64 d_3_1, .int .i64 d_3_2], .agg #[.int .i64 a_0_0, .int .i64 a_0_1, .int .i64 a_0_2]]) Try.call44 rfl rfl rfl, polygon_turn_ok n hC.lt hc_2_0 hc_2_1 hc_2_2 hd_3_0 hd_3_1 hd_3_2 ha_0_0 ha_0_1 ha_0_2 h64⟩) ?_
 rintro _ w66 ⟨rfl, hr65, hK⟩
 replace hM := hM.none hK.fr
 refine ⟨hM, ?_⟩
 replace hC := hC.merge hK
 clear hK
 refine mixE.load hM (v := .agg #[.int .i64 c_2_0, .int .i64 c_2_1, .int .i64 c_2_2]) (fun _ hF => ld_blk (hS.bx2 (i := 2) rfl [] (by decide) hF) Try.isAgg23 Try.sizeOf23 e6) ?_
 refine mixE.load hM (v := .agg #[.int .i64 d_3_0, .int .i64 d_3_1, .int .i64 d_3_2]) (fun _ hF => ld_blk (hS.bx2 (i := 3) rfl [] (by decide) hF) Try.isAgg23 Try.sizeOf23 e7) ?_
 refine mixE.load hM (v := .agg #[.int .i64 b_1_0, .int .i64 b_1_1, .int .i64 b_1_2]) (fun _ hF => ld_blk (hS.bx2 (i := 1) rfl [] (by decide) hF) Try.isAgg23 Try.sizeOf23 e5) ?_
 obtain ⟨y67, h68, hb⟩ := bd hb
 refine mixE.cl hM (⟨_, _, op_call (vs := [.agg #[.int .i64 c_2_0, .int .i64 c_2_1, .int .i64 c_2_2], .agg #[.int .i64 d_3_0, .int .i64 d_3_1, .int .i64 d_3_2], .agg #[.int .i64 b_1_0, .int .i64 b_1_1, .int .i64 b_1_2]]) Try.call44 rfl rfl rfl, polygon_turn_ok n hC.lt hc_2_0 hc_2_1 hc_2_2 hd_3_0 hd_3_1 hd_3_2 hb_1_0 hb_1_1 hb_1_2 h68⟩) ?_
 rintro _ w70 ⟨rfl, hr69, hK⟩
 replace hM := hM.none hK.fr
 refine ⟨hM, ?_⟩
 replace hC := hC.merge hK
 clear hK
 refine mp (.int .i64 y63) (pu_assign rfl) ?_
 refine mp (.int .i64 y67) (pu_assign rfl) ?_
 refine mixE.nil ?_
 clear hS hM
 refine hK60 _ _ ?_
 refine Wc.fresh fun E71 hE => ?_
 have e4 := (congrFun hE 4).trans e4
 have e5 := (congrFun hE 5).trans e5
 have e6 := (congrFun hE 6).trans e6
 have e7 := (congrFun hE 7).trans e7
 have e8 := (congrFun hE 8).trans e8
 have e9 := (congrFun hE 9).trans e9
 have e12 := (congrFun hE 12).trans e12
 have e13 := (congrFun hE 13).trans e13
 have e14 : E71 14 = .int .i64 y63 := (congrFun hE 14).trans rfl
 have e15 : E71 15 = .int .i64 y67 := (congrFun hE 15).trans rfl
 clear hE
 refine Wc.seq fun K72 hK72 => ?_
 refine Wc.seqJ (fun E wv => ∃ (v57_1 : Bool), E 4 = .pointer (some ⟨g2, 0, none⟩) ∧ E 5 = .pointer (some ⟨g5, 0, none⟩) ∧ E 6 = .pointer (some ⟨g8, 0, none⟩) ∧ E 7 = .pointer (some ⟨g11, 0, none⟩) ∧ E 8 = .int .i64 0 ∧ E 9 = .bool false ∧ E 12 = .int .i64 y51 ∧ E 13 = .int .i64 y55 ∧ E 14 = .int .i64 y63 ∧ E 15 = .int .i64 y67 ∧ E 57 = .bool v57_1 ∧ Cx (fun _ => False) O0 w wv [.box g2 23 [.int .i64 a_0_0, .int .i64 a_0_1, .int .i64 a_0_2], .box g5 23 [.int .i64 b_1_0, .int .i64 b_1_1, .int .i64 b_1_2], .box g8 23 [.int .i64 c_2_0, .int .i64 c_2_1, .int .i64 c_2_2], .box g11 23 [.int .i64 d_3_0, .int .i64 d_3_1, .int .i64 d_3_2]] ∧ F.polygon_Cross_j1 n a_0_0 a_0_1 a_0_2 b_1_0 b_1_1 b_1_2 c_2_0 c_2_1 c_2_2 d_3_0 d_3_1 d_3_2 y51 y55 y63 y67 v57_1 = some r) (fun K73 hK73 => ?_) ?_
 refine rg ?_
 refine lp (.int .i64 y51) (pu_move e12) ?_
 refine lp (.int .i64 y55) (pu_move e13) ?_
 obtain ⟨y74, h75, hb⟩ := bd hb
 refine lex.cl (⟨_, _, op_call (vs := [.int .i64 y51, .int .i64 y55]) Try.call45 rfl rfl rfl, polygon_opposite_ok n hC.lt hr53 hr57 h75⟩) ?_
 rintro _ w76 ⟨rfl, hK⟩
 replace hC := hC.merge hK
 clear hK
 refine lp (.bool (!y74)) (pu_not (q := y74) rfl) ?_
 refine lp (.bool (!y74)) (pu_move rfl) ?_
 rcases bS (!y74) with hq77 | hq77
 replace hb := tt hq77 hb
 refine gs rfl rfl (!y74) rfl hq77 ?_
 refine gs rfl rfl (!y74) rfl hq77 ?_
 refine gs rfl rfl (!y74) rfl hq77 ?_
 refine gs rfl rfl (!y74) rfl hq77 ?_
 refine lp (.bool true) (pu_pickT (q := (!y74)) rfl hq77 rfl) ?_
 refine ln ?_
 exact hK73 _ _ ⟨true, e4, e5, e6, e7, e8, e9, e12, e13, e14, e15, rfl, hC.sel [0, 1, 2, 3] (by decide), hb⟩
 replace hb := tf hq77 hb
 refine gp rfl rfl (!y74) rfl hq77 (.int .i64 y63) (pu_move e14) ?_
 refine gp rfl rfl (!y74) rfl hq77 (.int .i64 y67) (pu_move e15) ?_
 obtain ⟨y78, h79, hb⟩ := bd hb
 refine lex.gcl (want_t rfl rfl (show _ = Value.bool (!y74) from rfl) hq77) (⟨_, _, op_call (vs := [.int .i64 y63, .int .i64 y67]) Try.call45 rfl rfl rfl, polygon_opposite_ok n hC.lt hr65 hr69 h79⟩) ?_
 rintro _ w80 ⟨rfl, hK⟩
 replace hC := hC.merge hK
 clear hK
 refine gp rfl rfl (!y74) rfl hq77 (.bool (!y78)) (pu_not (q := y78) rfl) ?_
 refine lp (.bool (!y78)) (pu_pickF (q := (!y74)) rfl hq77 rfl) ?_
 refine ln ?_
 exact hK73 _ _ ⟨(!y78), e4, e5, e6, e7, e8, e9, e12, e13, e14, e15, rfl, hC.sel [0, 1, 2, 3] (by decide), hb⟩
 clear hb hC
 rintro E82 w81 ⟨v57_1, e4, e5, e6, e7, e8, e9, e12, e13, e14, e15, e57, hC, hb⟩
 unfold F.polygon_Cross_j1 at hb
 refine Wc.cond (t := v57_1) (e57) (fun hq83 => ?_) (fun hq83 => ?_)
 replace hb := tt hq83 hb
 refine Wc.seq fun K84 hK84 => ?_
 refine Wc.seq fun K85 hK85 => ?_
 refine rg ?_
 refine lv (.agg #[.int .i64 a_0_0, .int .i64 a_0_1, .int .i64 a_0_2]) (ld_blk (hC.bx (i := 0) rfl) Try.isAgg23 Try.sizeOf23 e4) ?_
 refine lv (.agg #[.int .i64 b_1_0, .int .i64 b_1_1, .int .i64 b_1_2]) (ld_blk (hC.bx (i := 1) rfl) Try.isAgg23 Try.sizeOf23 e5) ?_
 refine lv (.agg #[.int .i64 c_2_0, .int .i64 c_2_1, .int .i64 c_2_2]) (ld_blk (hC.bx (i := 2) rfl) Try.isAgg23 Try.sizeOf23 e6) ?_
 obtain ⟨y86, h87, hb⟩ := bd hb
 refine lex.cl (⟨_, _, op_call (vs := [.agg #[.int .i64 a_0_0, .int .i64 a_0_1, .int .i64 a_0_2], .agg #[.int .i64 b_1_0, .int .i64 b_1_1, .int .i64 b_1_2], .agg #[.int .i64 c_2_0, .int .i64 c_2_1, .int .i64 c_2_2]]) Try.call46 rfl rfl rfl, polygon_on_ok n hC.lt ha_0_0 ha_0_1 ha_0_2 hb_1_0 hb_1_1 hb_1_2 hc_2_0 hc_2_1 hc_2_2 h87⟩) ?_
 rintro _ w88 ⟨rfl, hK⟩
 replace hC := hC.merge hK
 clear hK
 refine lp (.bool y86) (pu_move rfl) ?_
 rcases bS y86 with hq89 | hq89
 replace hb := tt hq89 hb
 refine gs rfl rfl y86 rfl hq89 ?_
 refine gs rfl rfl y86 rfl hq89 ?_
 refine gs rfl rfl y86 rfl hq89 ?_
 refine gs rfl rfl y86 rfl hq89 ?_
 refine lp (.bool true) (pu_pickT (q := y86) rfl hq89 rfl) ?_
 refine lp (.bool true) (pu_move rfl) ?_
 refine gs rfl rfl true rfl rfl ?_
 refine gs rfl rfl true rfl rfl ?_
 refine gs rfl rfl true rfl rfl ?_
 refine gs rfl rfl true rfl rfl ?_
 refine lp (.bool true) (pu_pickT (q := true) rfl rfl rfl) ?_
 refine lp (.bool true) (pu_move rfl) ?_
 refine gs rfl rfl true rfl rfl ?_
 refine gs rfl rfl true rfl rfl ?_
 refine gs rfl rfl true rfl rfl ?_
 refine gs rfl rfl true rfl rfl ?_
 refine lp (.bool true) (pu_pickT (q := true) rfl rfl rfl) ?_
 refine ln ?_
 refine hK85 _ _ ?_
 refine Wc.fresh fun E90 hE => ?_
 have e4 := (congrFun hE 4).trans e4
 have e5 := (congrFun hE 5).trans e5
 have e6 := (congrFun hE 6).trans e6
 have e7 := (congrFun hE 7).trans e7
 have e8 := (congrFun hE 8).trans e8
 have e9 := (congrFun hE 9).trans e9
 have e12 := (congrFun hE 12).trans e12
 have e13 := (congrFun hE 13).trans e13
 have e14 := (congrFun hE 14).trans e14
 have e15 := (congrFun hE 15).trans e15
 have e79 : E90 79 = .bool true := (congrFun hE 79).trans rfl
 clear hE
 refine Wc.cond_true (e79) ?_
 refine Wc.seq fun K91 hK91 => ?_
 refine rg ?_
 refine lp (.int .i64 2) (pu_assign rfl) ?_
 refine lp (.bool false) (pu_assign rfl) ?_
 refine ln ?_
 refine hK91 _ _ ?_
 obtain rfl := os hb
 refine Wc.ret ?_
 refine hKR _ _ ?_
 refine ⟨_, res2 Try.results12 (show RV _ _ _ (.tmp _) (.int .i64 2) from rfl) (show RV _ _ _ (.tmp _) (.bool false) from rfl), _, rfl, rfl, (show I64 2 from by unfold I64; omega), hC.sel [] (by decide)⟩
 replace hb := tf hq89 hb
 refine gv rfl rfl y86 rfl hq89 (.agg #[.int .i64 a_0_0, .int .i64 a_0_1, .int .i64 a_0_2]) (ld_blk (hC.bx (i := 0) rfl) Try.isAgg23 Try.sizeOf23 e4) ?_
 refine gv rfl rfl y86 rfl hq89 (.agg #[.int .i64 b_1_0, .int .i64 b_1_1, .int .i64 b_1_2]) (ld_blk (hC.bx (i := 1) rfl) Try.isAgg23 Try.sizeOf23 e5) ?_
 refine gv rfl rfl y86 rfl hq89 (.agg #[.int .i64 d_3_0, .int .i64 d_3_1, .int .i64 d_3_2]) (ld_blk (hC.bx (i := 3) rfl) Try.isAgg23 Try.sizeOf23 e7) ?_
 obtain ⟨y92, h93, hb⟩ := bd hb
 refine lex.gcl (want_t rfl rfl (show _ = Value.bool y86 from rfl) hq89) (⟨_, _, op_call (vs := [.agg #[.int .i64 a_0_0, .int .i64 a_0_1, .int .i64 a_0_2], .agg #[.int .i64 b_1_0, .int .i64 b_1_1, .int .i64 b_1_2], .agg #[.int .i64 d_3_0, .int .i64 d_3_1, .int .i64 d_3_2]]) Try.call46 rfl rfl rfl, polygon_on_ok n hC.lt ha_0_0 ha_0_1 ha_0_2 hb_1_0 hb_1_1 hb_1_2 hd_3_0 hd_3_1 hd_3_2 h93⟩) ?_
 rintro _ w94 ⟨rfl, hK⟩
 replace hC := hC.merge hK
 clear hK
 refine lp (.bool y92) (pu_pickF (q := y86) rfl hq89 rfl) ?_
 refine lp (.bool y92) (pu_move rfl) ?_
 rcases bS y92 with hq95 | hq95
 replace hb := tt hq95 hb
 refine gs rfl rfl y92 rfl hq95 ?_
 refine gs rfl rfl y92 rfl hq95 ?_
 refine gs rfl rfl y92 rfl hq95 ?_
 refine gs rfl rfl y92 rfl hq95 ?_
 refine lp (.bool true) (pu_pickT (q := y92) rfl hq95 rfl) ?_
 refine lp (.bool true) (pu_move rfl) ?_
 refine gs rfl rfl true rfl rfl ?_
 refine gs rfl rfl true rfl rfl ?_
 refine gs rfl rfl true rfl rfl ?_
 refine gs rfl rfl true rfl rfl ?_
 refine lp (.bool true) (pu_pickT (q := true) rfl rfl rfl) ?_
 refine ln ?_
 refine hK85 _ _ ?_
 refine Wc.fresh fun E96 hE => ?_
 have e4 := (congrFun hE 4).trans e4
 have e5 := (congrFun hE 5).trans e5
 have e6 := (congrFun hE 6).trans e6
 have e7 := (congrFun hE 7).trans e7
 have e8 := (congrFun hE 8).trans e8
 have e9 := (congrFun hE 9).trans e9
 have e12 := (congrFun hE 12).trans e12
 have e13 := (congrFun hE 13).trans e13
 have e14 := (congrFun hE 14).trans e14
 have e15 := (congrFun hE 15).trans e15
 have e79 : E96 79 = .bool true := (congrFun hE 79).trans rfl
 clear hE
 refine Wc.cond_true (e79) ?_
 refine Wc.seq fun K97 hK97 => ?_
 refine rg ?_
 refine lp (.int .i64 2) (pu_assign rfl) ?_
 refine lp (.bool false) (pu_assign rfl) ?_
 refine ln ?_
 refine hK97 _ _ ?_
 obtain rfl := os hb
 refine Wc.ret ?_
 refine hKR _ _ ?_
 refine ⟨_, res2 Try.results12 (show RV _ _ _ (.tmp _) (.int .i64 2) from rfl) (show RV _ _ _ (.tmp _) (.bool false) from rfl), _, rfl, rfl, (show I64 2 from by unfold I64; omega), hC.sel [] (by decide)⟩
 replace hb := tf hq95 hb
 refine gv rfl rfl y92 rfl hq95 (.agg #[.int .i64 c_2_0, .int .i64 c_2_1, .int .i64 c_2_2]) (ld_blk (hC.bx (i := 2) rfl) Try.isAgg23 Try.sizeOf23 e6) ?_
 refine gv rfl rfl y92 rfl hq95 (.agg #[.int .i64 d_3_0, .int .i64 d_3_1, .int .i64 d_3_2]) (ld_blk (hC.bx (i := 3) rfl) Try.isAgg23 Try.sizeOf23 e7) ?_
 refine gv rfl rfl y92 rfl hq95 (.agg #[.int .i64 a_0_0, .int .i64 a_0_1, .int .i64 a_0_2]) (ld_blk (hC.bx (i := 0) rfl) Try.isAgg23 Try.sizeOf23 e4) ?_
 obtain ⟨y98, h99, hb⟩ := bd hb
 refine lex.gcl (want_t rfl rfl (show _ = Value.bool y92 from rfl) hq95) (⟨_, _, op_call (vs := [.agg #[.int .i64 c_2_0, .int .i64 c_2_1, .int .i64 c_2_2], .agg #[.int .i64 d_3_0, .int .i64 d_3_1, .int .i64 d_3_2], .agg #[.int .i64 a_0_0, .int .i64 a_0_1, .int .i64 a_0_2]]) Try.call46 rfl rfl rfl, polygon_on_ok n hC.lt hc_2_0 hc_2_1 hc_2_2 hd_3_0 hd_3_1 hd_3_2 ha_0_0 ha_0_1 ha_0_2 h99⟩) ?_
 rintro _ w100 ⟨rfl, hK⟩
 replace hC := hC.merge hK
 clear hK
 refine lp (.bool y98) (pu_pickF (q := y92) rfl hq95 rfl) ?_
 refine lp (.bool y98) (pu_move rfl) ?_
 rcases bS y98 with hq101 | hq101
 replace hb := tt hq101 hb
 refine gs rfl rfl y98 rfl hq101 ?_
 refine gs rfl rfl y98 rfl hq101 ?_
 refine gs rfl rfl y98 rfl hq101 ?_
 refine gs rfl rfl y98 rfl hq101 ?_
 refine lp (.bool true) (pu_pickT (q := y98) rfl hq101 rfl) ?_
 refine ln ?_
 refine hK85 _ _ ?_
 refine Wc.fresh fun E102 hE => ?_
 have e4 := (congrFun hE 4).trans e4
 have e5 := (congrFun hE 5).trans e5
 have e6 := (congrFun hE 6).trans e6
 have e7 := (congrFun hE 7).trans e7
 have e8 := (congrFun hE 8).trans e8
 have e9 := (congrFun hE 9).trans e9
 have e12 := (congrFun hE 12).trans e12
 have e13 := (congrFun hE 13).trans e13
 have e14 := (congrFun hE 14).trans e14
 have e15 := (congrFun hE 15).trans e15
 have e79 : E102 79 = .bool true := (congrFun hE 79).trans rfl
 clear hE
 refine Wc.cond_true (e79) ?_
 refine Wc.seq fun K103 hK103 => ?_
 refine rg ?_
 refine lp (.int .i64 2) (pu_assign rfl) ?_
 refine lp (.bool false) (pu_assign rfl) ?_
 refine ln ?_
 refine hK103 _ _ ?_
 obtain rfl := os hb
 refine Wc.ret ?_
 refine hKR _ _ ?_
 refine ⟨_, res2 Try.results12 (show RV _ _ _ (.tmp _) (.int .i64 2) from rfl) (show RV _ _ _ (.tmp _) (.bool false) from rfl), _, rfl, rfl, (show I64 2 from by unfold I64; omega), hC.sel [] (by decide)⟩
 replace hb := tf hq101 hb
 refine gv rfl rfl y98 rfl hq101 (.agg #[.int .i64 c_2_0, .int .i64 c_2_1, .int .i64 c_2_2]) (ld_blk (hC.bx (i := 2) rfl) Try.isAgg23 Try.sizeOf23 e6) ?_
 refine gv rfl rfl y98 rfl hq101 (.agg #[.int .i64 d_3_0, .int .i64 d_3_1, .int .i64 d_3_2]) (ld_blk (hC.bx (i := 3) rfl) Try.isAgg23 Try.sizeOf23 e7) ?_
 refine gv rfl rfl y98 rfl hq101 (.agg #[.int .i64 b_1_0, .int .i64 b_1_1, .int .i64 b_1_2]) (ld_blk (hC.bx (i := 1) rfl) Try.isAgg23 Try.sizeOf23 e5) ?_
 obtain ⟨y104, h105, hb⟩ := bd hb
 refine lex.gcl (want_t rfl rfl (show _ = Value.bool y98 from rfl) hq101) (⟨_, _, op_call (vs := [.agg #[.int .i64 c_2_0, .int .i64 c_2_1, .int .i64 c_2_2], .agg #[.int .i64 d_3_0, .int .i64 d_3_1, .int .i64 d_3_2], .agg #[.int .i64 b_1_0, .int .i64 b_1_1, .int .i64 b_1_2]]) Try.call46 rfl rfl rfl, polygon_on_ok n hC.lt hc_2_0 hc_2_1 hc_2_2 hd_3_0 hd_3_1 hd_3_2 hb_1_0 hb_1_1 hb_1_2 h105⟩) ?_
 rintro _ w106 ⟨rfl, hK⟩
 replace hC := hC.merge hK
 clear hK
 refine lp (.bool y104) (pu_pickF (q := y98) rfl hq101 rfl) ?_
 refine ln ?_
 refine hK85 _ _ ?_
 refine Wc.fresh fun E107 hE => ?_
 have e4 := (congrFun hE 4).trans e4
 have e5 := (congrFun hE 5).trans e5
 have e6 := (congrFun hE 6).trans e6
 have e7 := (congrFun hE 7).trans e7
 have e8 := (congrFun hE 8).trans e8
 have e9 := (congrFun hE 9).trans e9
 have e12 := (congrFun hE 12).trans e12
 have e13 := (congrFun hE 13).trans e13
 have e14 := (congrFun hE 14).trans e14
 have e15 := (congrFun hE 15).trans e15
 have e79 : E107 79 = .bool y104 := (congrFun hE 79).trans rfl
 clear hE
 refine Wc.cond (t := y104) (e79) (fun hq108 => ?_) (fun hq108 => ?_)
 replace hb := tt hq108 hb
 refine Wc.seq fun K109 hK109 => ?_
 refine rg ?_
 refine lp (.int .i64 2) (pu_assign rfl) ?_
 refine lp (.bool false) (pu_assign rfl) ?_
 refine ln ?_
 refine hK109 _ _ ?_
 obtain rfl := os hb
 refine Wc.ret ?_
 refine hKR _ _ ?_
 refine ⟨_, res2 Try.results12 (show RV _ _ _ (.tmp _) (.int .i64 2) from rfl) (show RV _ _ _ (.tmp _) (.bool false) from rfl), _, rfl, rfl, (show I64 2 from by unfold I64; omega), hC.sel [] (by decide)⟩
 replace hb := tf hq108 hb
 refine Wc.skip ?_
 refine hK84 _ _ ?_
 refine Wc.seq fun K110 hK110 => ?_
 refine rg ?_
 refine lp (.int .i64 0) (pu_assign rfl) ?_
 refine lp (.bool false) (pu_assign rfl) ?_
 refine ln ?_
 refine hK110 _ _ ?_
 obtain rfl := os hb
 refine Wc.ret ?_
 refine hKR _ _ ?_
 refine ⟨_, res2 Try.results12 (show RV _ _ _ (.tmp _) (.int .i64 0) from rfl) (show RV _ _ _ (.tmp _) (.bool false) from rfl), _, rfl, rfl, (show I64 0 from by unfold I64; omega), hC.sel [] (by decide)⟩
 replace hb := tf hq83 hb
 refine Wc.skip ?_
 refine hK72 _ _ ?_
 refine Wc.seq fun K111 hK111 => ?_
 refine rg ?_
 refine lp (.int .i64 y63) (pu_move e14) ?_
 refine lp (.int .i64 y67) (pu_move e15) ?_
 obtain ⟨z112, h113, hb⟩ := bd hb
 refine lp (.int .i64 z112) (pu_subc (a := y63) (b := y67) rfl rfl h113) ?_
 refine lp (.int .i64 y51) (pu_move e12) ?_
 refine lp (.int .i64 y55) (pu_move e13) ?_
 obtain ⟨z114, h115, hb⟩ := bd hb
 refine lp (.int .i64 z114) (pu_subc (a := y51) (b := y55) rfl rfl h115) ?_
 refine lp (.int .i64 z112) (pu_assign rfl) ?_
 refine lp (.int .i64 z114) (pu_assign rfl) ?_
 refine ln ?_
 refine hK111 _ _ ?_
 refine Wc.seq fun K116 hK116 => ?_
 refine Wc.regionMix [] (frm [] ([] : List Fact) ([] : List Fact)) (fun _ => rfl) mixed (by decide +kernel) (by decide +kernel) fun w118 hw117 => ?_
 replace hC := hC.step (Fr.of_drew hw117)
 have hM := Fr.refl (fun k => k ∈ blocks ([] : List Fact)) w118
 clear hw117
 have hS := hC
 refine mp (.pointer (some ((⟨g5, 0, none⟩ : Addr).add 2))) (pu_field (sz := 1) Try.underlying23 rfl Try.sizeOf3 (by decide) rfl e5) ?_
 refine mixE.load hM (v := .int .i64 b_1_2) (fun _ hF => ld_fld (hS.bx2 (i := 1) rfl [] (by decide) hF) Try.isAgg3 rfl rfl) ?_
 refine mp (.int .i64 y63) (pu_move e14) ?_
 obtain ⟨z119, h120, hb⟩ := bd hb
 refine mp (.int .i64 z119) (pu_mulc (a := b_1_2) (b := y63) rfl rfl h120) ?_
 refine mp (.pointer (some ((⟨g2, 0, none⟩ : Addr).add 2))) (pu_field (sz := 1) Try.underlying23 rfl Try.sizeOf3 (by decide) rfl e4) ?_
 refine mixE.load hM (v := .int .i64 a_0_2) (fun _ hF => ld_fld (hS.bx2 (i := 0) rfl [] (by decide) hF) Try.isAgg3 rfl rfl) ?_
 refine mp (.int .i64 y67) (pu_move e15) ?_
 obtain ⟨z121, h122, hb⟩ := bd hb
 refine mp (.int .i64 z121) (pu_mulc (a := a_0_2) (b := y67) rfl rfl h122) ?_
 obtain ⟨z123, h124, hb⟩ := bd hb
 refine mp (.int .i64 z123) (pu_subc (a := z119) (b := z121) rfl rfl h124) ?_
 refine mp (.pointer (some ((⟨g11, 0, none⟩ : Addr).add 2))) (pu_field (sz := 1) Try.underlying23 rfl Try.sizeOf3 (by decide) rfl e7) ?_
 refine mixE.load hM (v := .int .i64 d_3_2) (fun _ hF => ld_fld (hS.bx2 (i := 3) rfl [] (by decide) hF) Try.isAgg3 rfl rfl) ?_
 refine mp (.int .i64 y51) (pu_move e12) ?_
 obtain ⟨z125, h126, hb⟩ := bd hb
 refine mp (.int .i64 z125) (pu_mulc (a := d_3_2) (b := y51) rfl rfl h126) ?_
 refine mp (.pointer (some ((⟨g8, 0, none⟩ : Addr).add 2))) (pu_field (sz := 1) Try.underlying23 rfl Try.sizeOf3 (by decide) rfl e6) ?_
 refine mixE.load hM (v := .int .i64 c_2_2) (fun _ hF => ld_fld (hS.bx2 (i := 2) rfl [] (by decide) hF) Try.isAgg3 rfl rfl) ?_
 refine mp (.int .i64 y55) (pu_move e13) ?_
 obtain ⟨z127, h128, hb⟩ := bd hb
 refine mp (.int .i64 z127) (pu_mulc (a := c_2_2) (b := y55) rfl rfl h128) ?_
 obtain ⟨z129, h130, hb⟩ := bd hb
 refine mp (.int .i64 z129) (pu_subc (a := z125) (b := z127) rfl rfl h130) ?_
 refine mp (.int .i64 z123) (pu_assign rfl) ?_
 refine mp (.int .i64 z129) (pu_assign rfl) ?_
 refine mixE.nil ?_
 clear hS hM
 refine hK116 _ _ ?_
 refine Wc.fresh fun E131 hE => ?_
 have e8 := (congrFun hE 8).trans e8
 have e9 := (congrFun hE 9).trans e9
 have e16 : E131 16 = .int .i64 z112 := (congrFun hE 16).trans rfl
 have e17 : E131 17 = .int .i64 z114 := (congrFun hE 17).trans rfl
 have e18 : E131 18 = .int .i64 z123 := (congrFun hE 18).trans rfl
 have e19 : E131 19 = .int .i64 z129 := (congrFun hE 19).trans rfl
 clear hE
 refine Wc.seqJ (fun E wv => ∃ (v16_2 : Int) (v18_2 : Int), E 8 = .int .i64 0 ∧ E 9 = .bool false ∧ E 16 = .int .i64 v16_2 ∧ E 17 = .int .i64 z114 ∧ E 18 = .int .i64 v18_2 ∧ E 19 = .int .i64 z129 ∧ I64 v16_2 ∧ I64 v18_2 ∧ Cx (fun _ => False) O0 w wv [] ∧ F.polygon_Cross_j2 n z114 z129 v16_2 v18_2 = some r) (fun K132 hK132 => ?_) ?_
 refine Wc.seq fun K133 hK133 => ?_
 refine rg ?_
 refine lp (.int .i64 z112) (pu_move e16) ?_
 refine lp (.bool (decide (z112 < 0))) (pu_lss (k := .i64) (a := z112) (b := 0) rfl rfl) ?_
 refine ln ?_
 refine hK133 _ _ ?_
 refine Wc.cond (t := (decide (z112 < 0))) (rfl) (fun hq134 => ?_) (fun hq134 => ?_)
 replace hb := tt hq134 hb
 refine rg ?_
 refine lp (.int .i64 z112) (pu_move e16) ?_
 obtain ⟨z135, h136, hb⟩ := bd hb
 refine lp (.int .i64 z135) (pu_negc (a := z112) rfl h136) ?_
 refine lp (.int .i64 z123) (pu_move e18) ?_
 obtain ⟨z137, h138, hb⟩ := bd hb
 refine lp (.int .i64 z137) (pu_negc (a := z123) rfl h138) ?_
 refine lp (.int .i64 z135) (pu_assign rfl) ?_
 refine lp (.int .i64 z137) (pu_assign rfl) ?_
 refine ln ?_
 exact hK132 _ _ ⟨z135, z137, e8, e9, rfl, e17, rfl, e19, (chk_rng h136), (chk_rng h138), hC.sel [] (by decide), hb⟩
 replace hb := tf hq134 hb
 refine Wc.skip ?_
 exact hK132 _ _ ⟨z112, z123, e8, e9, e16, e17, e18, e19, (chk_rng h113), (chk_rng h124), hC.sel [] (by decide), hb⟩
 clear hb hC
 rintro E140 w139 ⟨v16_2, v18_2, e8, e9, e16, e17, e18, e19, hrv16_2, hrv18_2, hC, hb⟩
 unfold F.polygon_Cross_j2 at hb
 refine Wc.seqJ (fun E wv => ∃ (v17_3 : Int) (v19_3 : Int), E 8 = .int .i64 0 ∧ E 9 = .bool false ∧ E 16 = .int .i64 v16_2 ∧ E 17 = .int .i64 v17_3 ∧ E 18 = .int .i64 v18_2 ∧ E 19 = .int .i64 v19_3 ∧ I64 v17_3 ∧ I64 v19_3 ∧ Cx (fun _ => False) O0 w wv [] ∧ F.polygon_Cross_j3 n v16_2 v18_2 v17_3 v19_3 = some r) (fun K141 hK141 => ?_) ?_
 refine Wc.seq fun K142 hK142 => ?_
 refine rg ?_
 refine lp (.int .i64 z114) (pu_move e17) ?_
 refine lp (.bool (decide (z114 < 0))) (pu_lss (k := .i64) (a := z114) (b := 0) rfl rfl) ?_
 refine ln ?_
 refine hK142 _ _ ?_
 refine Wc.cond (t := (decide (z114 < 0))) (rfl) (fun hq143 => ?_) (fun hq143 => ?_)
 replace hb := tt hq143 hb
 refine rg ?_
 refine lp (.int .i64 z114) (pu_move e17) ?_
 obtain ⟨z144, h145, hb⟩ := bd hb
 refine lp (.int .i64 z144) (pu_negc (a := z114) rfl h145) ?_
 refine lp (.int .i64 z129) (pu_move e19) ?_
 obtain ⟨z146, h147, hb⟩ := bd hb
 refine lp (.int .i64 z146) (pu_negc (a := z129) rfl h147) ?_
 refine lp (.int .i64 z144) (pu_assign rfl) ?_
 refine lp (.int .i64 z146) (pu_assign rfl) ?_
 refine ln ?_
 exact hK141 _ _ ⟨z144, z146, e8, e9, e16, rfl, e18, rfl, (chk_rng h145), (chk_rng h147), hC.sel [] (by decide), hb⟩
 replace hb := tf hq143 hb
 refine Wc.skip ?_
 exact hK141 _ _ ⟨z114, z129, e8, e9, e16, e17, e18, e19, (chk_rng h115), (chk_rng h130), hC.sel [] (by decide), hb⟩
 clear hb hC
 rintro E149 w148 ⟨v17_3, v19_3, e8, e9, e16, e17, e18, e19, hrv17_3, hrv19_3, hC, hb⟩
 unfold F.polygon_Cross_j3 at hb
 refine Wc.seq fun K150 hK150 => ?_
 refine Wc.seq fun K151 hK151 => ?_
 refine rg ?_
 refine lp (.int .i64 v18_2) (pu_move e18) ?_
 refine lp (.int .i64 v17_3) (pu_move e17) ?_
 obtain ⟨z152, h153, hb⟩ := bd hb
 refine lp (.int .i64 z152) (pu_mulc (a := v18_2) (b := v17_3) rfl rfl h153) ?_
 refine lp (.int .i64 v19_3) (pu_move e19) ?_
 refine lp (.int .i64 v16_2) (pu_move e16) ?_
 obtain ⟨z154, h155, hb⟩ := bd hb
 refine lp (.int .i64 z154) (pu_mulc (a := v19_3) (b := v16_2) rfl rfl h155) ?_
 refine lp (.bool (decide (z152 = z154))) (pu_eql (k := .i64) (a := z152) (b := z154) rfl rfl) ?_
 refine ln ?_
 refine hK151 _ _ ?_
 refine Wc.cond (t := (decide (z152 = z154))) (rfl) (fun hq156 => ?_) (fun hq156 => ?_)
 replace hb := tt hq156 hb
 refine Wc.seq fun K157 hK157 => ?_
 refine rg ?_
 refine lp (.int .i64 2) (pu_assign rfl) ?_
 refine lp (.bool false) (pu_assign rfl) ?_
 refine ln ?_
 refine hK157 _ _ ?_
 obtain rfl := os hb
 refine Wc.ret ?_
 refine hKR _ _ ?_
 refine ⟨_, res2 Try.results12 (show RV _ _ _ (.tmp _) (.int .i64 2) from rfl) (show RV _ _ _ (.tmp _) (.bool false) from rfl), _, rfl, rfl, (show I64 2 from by unfold I64; omega), hC.sel [] (by decide)⟩
 replace hb := tf hq156 hb
 refine Wc.skip ?_
 refine hK150 _ _ ?_
 refine Wc.seq fun K158 hK158 => ?_
 refine rg ?_
 refine lp (.int .i64 v18_2) (pu_move e18) ?_
 refine lp (.int .i64 v17_3) (pu_move e17) ?_
 obtain ⟨z159, h160, hb⟩ := bd hb
 refine lp (.int .i64 z159) (pu_mulc (a := v18_2) (b := v17_3) rfl rfl h160) ?_
 refine lp (.int .i64 v19_3) (pu_move e19) ?_
 refine lp (.int .i64 v16_2) (pu_move e16) ?_
 obtain ⟨z161, h162, hb⟩ := bd hb
 refine lp (.int .i64 z161) (pu_mulc (a := v19_3) (b := v16_2) rfl rfl h162) ?_
 refine lp (.bool (decide (z161 < z159))) (pu_gtr (k := .i64) (a := z159) (b := z161) rfl rfl) ?_
 refine lp (.int .i64 1) (pu_assign rfl) ?_
 refine lp (.bool (decide (z161 < z159))) (pu_assign rfl) ?_
 refine ln ?_
 refine hK158 _ _ ?_
 obtain rfl := os hb
 refine Wc.ret ?_
 refine hKR _ _ ?_
 refine ⟨_, res2 Try.results12 (show RV _ _ _ (.tmp _) (.int .i64 1) from rfl) (show RV _ _ _ (.tmp _) (.bool (decide (z161 < z159))) from rfl), _, rfl, rfl, (show I64 1 from by unfold I64; omega), hC.sel [] (by decide)⟩

set_option maxRecDepth 100000 in
set_option maxHeartbeats 4000000 in
theorem polygon_cross_c1_ok (n : Nat) {w : World} {O0 : List Nat} (hO : ∀ k ∈ O0, k < w.heap.size) {p_0_0 : Int} (hp_0_0 : I64 p_0_0) {p_0_1 : Bool} {gu_1 : Nat} {Au_1_0 : Option Addr} {mu_1_0 cu_1_0 : Nat} {u_1_0 : List ((Int × (Int × Int)) × ((Int × (Int × Int)) × (Int × Int)))} (hu_1_0 : Rep O0 w (.sl (.pr (.pr (.int .i64) (.pr (.int .i64) (.int .i64))) (.pr (.pr (.int .i64) (.pr (.int .i64) (.int .i64))) (.pr (.int .i64) (.int .i64))))) [.slice Au_1_0 mu_1_0 cu_1_0] u_1_0) {gu_2 : Nat} {u_2_0 : Int} (hu_2_0 : I64 u_2_0) {u_2_1 : Int} (hu_2_1 : I64 u_2_1) {u_2_2 : Int} (hu_2_2 : I64 u_2_2) {u_2_3 : Int} (hu_2_3 : I64 u_2_3) {u_2_4 : Int} (hu_2_4 : I64 u_2_4) {u_2_5 : Int} (hu_2_5 : I64 u_2_5) {u_2_6 : Int} (hu_2_6 : I64 u_2_6) {u_2_7 : Int} (hu_2_7 : I64 u_2_7) (hio : Tk O0 w [.box gu_1 68 [.slice Au_1_0 mu_1_0 cu_1_0], .box gu_2 105 [.int .i64 u_2_0, .int .i64 u_2_1, .int .i64 u_2_2, .int .i64 u_2_3, .int .i64 u_2_4, .int .i64 u_2_5, .int .i64 u_2_6, .int .i64 u_2_7]]) {r : Int × Int} (hb : F.polygon_cross_c1 n p_0_0 p_0_1 u_1_0 u_2_0 u_2_1 u_2_2 u_2_3 u_2_4 u_2_5 u_2_6 u_2_7 = some r) :
    Calls Try.prog 80 #[.agg #[.int .i64 p_0_0, .bool p_0_1], .pointer (some ⟨gu_1, 0, none⟩), .pointer (some ⟨gu_2, 0, none⟩)] w fun e w' => ∃ v, e = .returned v ∧ v = .tuple #[.int .i64 r.1, .int .i64 r.2] ∧ I64 r.1 ∧ I64 r.2 ∧ Cx (fun k => k ∈ blocks [.box gu_1 68 [.slice Au_1_0 mu_1_0 cu_1_0], .box gu_2 105 [.int .i64 u_2_0, .int .i64 u_2_1, .int .i64 u_2_2, .int .i64 u_2_3, .int .i64 u_2_4, .int .i64 u_2_5, .int .i64 u_2_6, .int .i64 u_2_7]]) O0 w w' [.box gu_1 68 [.slice Au_1_0 mu_1_0 cu_1_0], .box gu_2 105 [.int .i64 u_2_0, .int .i64 u_2_1, .int .i64 u_2_2, .int .i64 u_2_3, .int .i64 u_2_4, .int .i64 u_2_5, .int .i64 u_2_6, .int .i64 u_2_7]] := by
 unfold F.polygon_cross_c1 at hb
 have hC := Cx.startTk hO hio
 have hsub := hio.2.2
 replace hC := hC.argTk (by first | exact hsub | exact fun k hk => hsub k (by simpa [blocks, Fact.blk] using hk)) hu_1_0
 clear hO
 obtain ⟨rfl, hlu_1_0, hcu_1_0⟩ := hu_1_0.sl_len
 clear hio hsub
 obtain ⟨I, hI, hC⟩ : ∃ I : Nat → Prop, I = (fun k => k ∈ blocks [.box gu_1 68 [.slice Au_1_0 u_1_0.length cu_1_0], .box gu_2 105 [.int .i64 u_2_0, .int .i64 u_2_1, .int .i64 u_2_2, .int .i64 u_2_3, .int .i64 u_2_4, .int .i64 u_2_5, .int .i64 u_2_6, .int .i64 u_2_7]]) ∧ Cx I O0 w w ([.ro (.sl (.pr (.pr (.int .i64) (.pr (.int .i64) (.int .i64))) (.pr (.pr (.int .i64) (.pr (.int .i64) (.int .i64))) (.pr (.int .i64) (.int .i64))))) [.slice Au_1_0 u_1_0.length cu_1_0] u_1_0, .box gu_1 68 [.slice Au_1_0 u_1_0.length cu_1_0], .box gu_2 105 [.int .i64 u_2_0, .int .i64 u_2_1, .int .i64 u_2_2, .int .i64 u_2_3, .int .i64 u_2_4, .int .i64 u_2_5, .int .i64 u_2_6, .int .i64 u_2_7]]) := ⟨_, rfl, hC⟩
 refine calls_of_Wc Try.func80 rfl (by rw [Try.ntmps80]; exact Nat.le_of_ble_eq_true rfl) fun KR hKR => ?_
 refine Wc.seq fun K4 hK4 => ?_
 refine rg ?_
 refine lex.op (hC.box (cs := [.int .i64 p_0_0, .bool p_0_1]) rfl rfl) ?_
 rintro _ w6 ⟨g5, rfl, hC, hF, hG⟩
 clear hG
 refine lp (.int .i64 0) (pu_assign rfl) ?_
 refine lp (.int .i64 0) (pu_assign rfl) ?_
 refine ln ?_
 refine hK4 _ _ ?_
 refine Wc.seq fun K8 hK8 => ?_
 refine rg ?_
 refine lv (.slice Au_1_0 u_1_0.length cu_1_0) (ld_one Try.isAgg68 rfl ((hC.bx (i := 2) rfl).cell (j := 0) rfl)) ?_
 refine lp (.pointer (some ((⟨g5, 0, none⟩ : Addr).add 0))) (pu_field (sz := 1) Try.underlying107 rfl Try.sizeOf3 (by decide) rfl rfl) ?_
 refine lv (.int .i64 p_0_0) (ld_fld (hC.bx (i := 0) rfl) Try.isAgg3 rfl rfl) ?_
 obtain ⟨x9, h10, hb⟩ := bd hb
 obtain ⟨ad11, cs12, hA, hc13, hr14⟩ := hC.elr (i := 1) rfl (get_some h10).2
 subst hA
 refine lp (.pointer (some (ad11.add (p_0_0.toNat * 8)))) (pu_index (a := p_0_0) Try.underlying68 Try.sizeOf105 rfl rfl (get_some h10).1) ?_
 obtain ⟨k15, k16, rfl, hr17, hr18⟩ := hr14
 obtain ⟨k19, k20, rfl, hr21, hr22⟩ := hr17
 obtain ⟨rfl, hr21⟩ := hr21
 obtain ⟨k23, k24, rfl, hr25, hr26⟩ := hr22
 obtain ⟨rfl, hr25⟩ := hr25
 obtain ⟨rfl, hr26⟩ := hr26
 obtain ⟨k27, k28, rfl, hr29, hr30⟩ := hr18
 obtain ⟨k31, k32, rfl, hr33, hr34⟩ := hr29
 obtain ⟨rfl, hr33⟩ := hr33
 obtain ⟨k35, k36, rfl, hr37, hr38⟩ := hr34
 obtain ⟨rfl, hr37⟩ := hr37
 obtain ⟨rfl, hr38⟩ := hr38
 obtain ⟨k39, k40, rfl, hr41, hr42⟩ := hr30
 obtain ⟨rfl, hr41⟩ := hr41
 obtain ⟨rfl, hr42⟩ := hr42
 refine lv (.agg #[.int .i64 x9.1.1, .int .i64 x9.1.2.1, .int .i64 x9.1.2.2, .int .i64 x9.2.1.1, .int .i64 x9.2.1.2.1, .int .i64 x9.2.1.2.2, .int .i64 x9.2.2.1, .int .i64 x9.2.2.2]) (ld_agg Try.isAgg105 Try.sizeOf105 rfl rfl hc13) ?_
 refine lex.op (hC.alloc (cs := [.int .i64 0, .int .i64 0, .int .i64 0, .int .i64 0, .int .i64 0, .int .i64 0, .int .i64 0, .int .i64 0]) Try.zeroValue105 rfl) ?_
 rintro _ w44 ⟨g43, rfl, hC, hF, hG⟩
 clear hG
 refine lex.sk (hC.seta (i := 0) (ds := [.int .i64 x9.1.1, .int .i64 x9.1.2.1, .int .i64 x9.1.2.2, .int .i64 x9.2.1.1, .int .i64 x9.2.1.2.1, .int .i64 x9.2.1.2.2, .int .i64 x9.2.2.1, .int .i64 x9.2.2.2]) rfl Try.type105 rfl rfl rfl rfl rfl) ?_
 rintro w46 ⟨hC, hF⟩
 refine ln ?_
 refine hK8 _ _ ?_
 refine Wc.seq fun K47 hK47 => ?_
 refine Wc.regionMix [] (frm [] ([] : List Fact) ([] : List Fact)) (fun _ => rfl) mixed (by decide +kernel) (by decide +kernel) fun w49 hw48 => ?_
 replace hC := hC.step (Fr.of_drew hw48)
 have hM := Fr.refl (fun k => k ∈ blocks ([] : List Fact)) w49
 clear hw48
 have hS := hC
 refine mp (.pointer (some ((⟨g43, 0, none⟩ : Addr).add 0))) (pu_field (sz := 3) Try.underlying105 rfl Try.sizeOf23 (by decide) rfl rfl) ?_
 refine mixE.load hM (v := .agg #[.int .i64 x9.1.1, .int .i64 x9.1.2.1, .int .i64 x9.1.2.2]) (fun _ hF => ld_part (o := 0) (hS.bx2 (i := 0) rfl [] (by decide) hF) Try.isAgg23 Try.sizeOf23 rfl rfl rfl) ?_
 refine mp (.pointer (some ((⟨g43, 0, none⟩ : Addr).add 3))) (pu_field (sz := 3) Try.underlying105 rfl Try.sizeOf23 (by decide) rfl rfl) ?_
 refine mixE.load hM (v := .agg #[.int .i64 x9.2.1.1, .int .i64 x9.2.1.2.1, .int .i64 x9.2.1.2.2]) (fun _ hF => ld_part (o := 3) (hS.bx2 (i := 0) rfl [] (by decide) hF) Try.isAgg23 Try.sizeOf23 rfl rfl rfl) ?_
 refine mp (.pointer (some ((⟨gu_2, 0, none⟩ : Addr).add 0))) (pu_field (sz := 3) Try.underlying105 rfl Try.sizeOf23 (by decide) rfl rfl) ?_
 refine mixE.load hM (v := .agg #[.int .i64 u_2_0, .int .i64 u_2_1, .int .i64 u_2_2]) (fun _ hF => ld_part (o := 0) (hS.bx2 (i := 4) rfl [] (by decide) hF) Try.isAgg23 Try.sizeOf23 rfl rfl rfl) ?_
 obtain ⟨y50, h51, hb⟩ := bd hb
 refine mixE.cl hM (⟨_, _, op_call (vs := [.agg #[.int .i64 x9.1.1, .int .i64 x9.1.2.1, .int .i64 x9.1.2.2], .agg #[.int .i64 x9.2.1.1, .int .i64 x9.2.1.2.1, .int .i64 x9.2.1.2.2], .agg #[.int .i64 u_2_0, .int .i64 u_2_1, .int .i64 u_2_2]]) Try.call44 rfl rfl rfl, polygon_turn_ok n hC.lt (wrap_I64 hr21) (wrap_I64 hr25) (wrap_I64 hr26) (wrap_I64 hr33) (wrap_I64 hr37) (wrap_I64 hr38) hu_2_0 hu_2_1 hu_2_2 h51⟩) ?_
 rintro _ w53 ⟨rfl, hr52, hK⟩
 replace hM := hM.none hK.fr
 refine ⟨hM, ?_⟩
 replace hC := hC.merge hK
 clear hK
 refine mp (.pointer (some ((⟨g43, 0, none⟩ : Addr).add 0))) (pu_field (sz := 3) Try.underlying105 rfl Try.sizeOf23 (by decide) rfl rfl) ?_
 refine mixE.load hM (v := .agg #[.int .i64 x9.1.1, .int .i64 x9.1.2.1, .int .i64 x9.1.2.2]) (fun _ hF => ld_part (o := 0) (hS.bx2 (i := 0) rfl [] (by decide) hF) Try.isAgg23 Try.sizeOf23 rfl rfl rfl) ?_
 refine mp (.pointer (some ((⟨g43, 0, none⟩ : Addr).add 3))) (pu_field (sz := 3) Try.underlying105 rfl Try.sizeOf23 (by decide) rfl rfl) ?_
 refine mixE.load hM (v := .agg #[.int .i64 x9.2.1.1, .int .i64 x9.2.1.2.1, .int .i64 x9.2.1.2.2]) (fun _ hF => ld_part (o := 3) (hS.bx2 (i := 0) rfl [] (by decide) hF) Try.isAgg23 Try.sizeOf23 rfl rfl rfl) ?_
 refine mp (.pointer (some ((⟨gu_2, 0, none⟩ : Addr).add 3))) (pu_field (sz := 3) Try.underlying105 rfl Try.sizeOf23 (by decide) rfl rfl) ?_
 refine mixE.load hM (v := .agg #[.int .i64 u_2_3, .int .i64 u_2_4, .int .i64 u_2_5]) (fun _ hF => ld_part (o := 3) (hS.bx2 (i := 4) rfl [] (by decide) hF) Try.isAgg23 Try.sizeOf23 rfl rfl rfl) ?_
 obtain ⟨y54, h55, hb⟩ := bd hb
 refine mixE.cl hM (⟨_, _, op_call (vs := [.agg #[.int .i64 x9.1.1, .int .i64 x9.1.2.1, .int .i64 x9.1.2.2], .agg #[.int .i64 x9.2.1.1, .int .i64 x9.2.1.2.1, .int .i64 x9.2.1.2.2], .agg #[.int .i64 u_2_3, .int .i64 u_2_4, .int .i64 u_2_5]]) Try.call44 rfl rfl rfl, polygon_turn_ok n hC.lt (wrap_I64 hr21) (wrap_I64 hr25) (wrap_I64 hr26) (wrap_I64 hr33) (wrap_I64 hr37) (wrap_I64 hr38) hu_2_3 hu_2_4 hu_2_5 h55⟩) ?_
 rintro _ w57 ⟨rfl, hr56, hK⟩
 replace hM := hM.none hK.fr
 refine ⟨hM, ?_⟩
 replace hC := hC.merge hK
 clear hK
 refine mp (.int .i64 y50) (pu_assign rfl) ?_
 refine mp (.int .i64 y54) (pu_assign rfl) ?_
 refine mixE.nil ?_
 clear hS hM
 refine hK47 _ _ ?_
 refine Wc.fresh fun E58 hE => ?_
 have e4 : E58 4 = .int .i64 0 := (congrFun hE 4).trans rfl
 have e5 : E58 5 = .int .i64 0 := (congrFun hE 5).trans rfl
 have e7 : E58 7 = .int .i64 y50 := (congrFun hE 7).trans rfl
 have e8 : E58 8 = .int .i64 y54 := (congrFun hE 8).trans rfl
 clear hE
 refine Wc.seq fun K59 hK59 => ?_
 refine rg ?_
 refine lp (.int .i64 y50) (pu_move e7) ?_
 refine lp (.int .i64 y50) (pu_move e7) ?_
 obtain ⟨z60, h61, hb⟩ := bd hb
 refine lp (.int .i64 z60) (pu_negc (a := y50) rfl h61) ?_
 refine lp (.int .i64 (max y50 z60)) (pu_max (a := y50) (b := z60) rfl rfl) ?_
 refine lp (.int .i64 y50) (pu_move e7) ?_
 refine lp (.int .i64 y54) (pu_move e8) ?_
 obtain ⟨z62, h63, hb⟩ := bd hb
 refine lp (.int .i64 z62) (pu_subc (a := y50) (b := y54) rfl rfl h63) ?_
 refine lp (.int .i64 y54) (pu_move e8) ?_
 refine lp (.int .i64 y50) (pu_move e7) ?_
 obtain ⟨z64, h65, hb⟩ := bd hb
 refine lp (.int .i64 z64) (pu_subc (a := y54) (b := y50) rfl rfl h65) ?_
 refine lp (.int .i64 (max z62 z64)) (pu_max (a := z62) (b := z64) rfl rfl) ?_
 refine lp (.int .i64 (max y50 z60)) (pu_assign rfl) ?_
 refine lp (.int .i64 (max z62 z64)) (pu_assign rfl) ?_
 refine ln ?_
 refine hK59 _ _ ?_
 obtain rfl := os hb
 subst hI
 refine Wc.ret ?_
 refine hKR _ _ ?_
 refine ⟨_, res2 Try.results80 (show RV _ _ _ (.tmp _) (.int .i64 (max y50 z60)) from rfl) (show RV _ _ _ (.tmp _) (.int .i64 (max z62 z64)) from rfl), _, rfl, rfl, (I64.max hr52 (chk_rng h61)), (I64.max (chk_rng h63) (chk_rng h65)), hC.sel [3, 4] (by decide)⟩
end Go.Proofs.Yteajmbanlohncaa
