/- The walks: part 7. -/
import Derived.Test.YteajmbanlohncaaS
set_option linter.unusedVariables false
set_option linter.unusedSimpArgs false
namespace Go.Proofs.Yteajmbanlohncaa
open Ev
set_option maxRecDepth 100000 in
set_option maxHeartbeats 4000000 in
theorem ref46_fits_ok (n : Nat) {w : World} {O0 : List Nat} (hO : ∀ k ∈ O0, k < w.heap.size) {p_0_0 : Int} (hp_0_0 : I64 p_0_0) {p_0_1 : Int} (hp_0_1 : I64 p_0_1) {p_0_2 : Int} (hp_0_2 : I64 p_0_2) {r : Bool} (hb : F.ref46_fits n p_0_0 p_0_1 p_0_2 = some r) :
    Calls Try.prog 47 #[.agg #[.int .i64 p_0_0, .int .i64 p_0_1, .int .i64 p_0_2]] w fun e w' => ∃ v, e = .returned v ∧ v = .bool r ∧ Cx (fun _ => False) O0 w w' [] := by
  unfold F.ref46_fits at hb
  have hC := Cx.start hO
  clear hO
  refine calls_of_Wc Try.func47 rfl (by rw [Try.ntmps47]; exact Nat.le_of_ble_eq_true rfl) fun KR hKR => ?_
  refine Wc.seq fun K1 hK1 => ?_
  refine Wc.region (by decide +kernel) ?_
  refine lex.op (hC.box (cs := [.int .i64 p_0_0, .int .i64 p_0_1, .int .i64 p_0_2]) rfl rfl) ?_
  rintro _ w3 ⟨g2, rfl, hC, hF, hG⟩
  clear hG
  refine lex.pure (v := .bool false) (pu_assign rfl) ?_
  refine lex.nil ?_
  refine hK1 _ _ ?_
  refine Wc.seq fun K5 hK5 => ?_
  refine Wc.region (by decide +kernel) ?_
  refine lex.pure (v := .pointer (some ((⟨g2, 0, none⟩ : Addr).add 0))) (pu_field (sz := 1) Try.underlying23 rfl Try.sizeOf3 (by decide) rfl rfl) ?_
  refine lex.val (v := .int .i64 p_0_0) (ld_fld (hC.bx (i := 0) rfl) Try.isAgg3 rfl rfl) ?_
  refine lex.pure (v := .bool (decide ((-1000) ≤ p_0_0))) (pu_geq (k := .i64) (a := p_0_0) (b := (-1000)) rfl rfl) ?_
  refine lex.pure (v := .bool (decide ((-1000) ≤ p_0_0))) (pu_move rfl) ?_
  rcases bS (decide ((-1000) ≤ p_0_0)) with hq6 | hq6
  · replace hb := (cT hq6).symm.trans hb
    refine lex.gpure (want_t rfl rfl (show _ = Value.bool (decide ((-1000) ≤ p_0_0)) from rfl) hq6) (v := .pointer (some ((⟨g2, 0, none⟩ : Addr).add 0))) (pu_field (sz := 1) Try.underlying23 rfl Try.sizeOf3 (by decide) rfl rfl) ?_
    refine lex.gval (want_t rfl rfl (show _ = Value.bool (decide ((-1000) ≤ p_0_0)) from rfl) hq6) (v := .int .i64 p_0_0) (ld_fld (hC.bx (i := 0) rfl) Try.isAgg3 rfl rfl) ?_
    refine lex.gpure (want_t rfl rfl (show _ = Value.bool (decide ((-1000) ≤ p_0_0)) from rfl) hq6) (v := .bool (decide (p_0_0 ≤ 1000))) (pu_leq (k := .i64) (a := p_0_0) (b := 1000) rfl rfl) ?_
    refine lex.pure (v := .bool (decide (p_0_0 ≤ 1000))) (pu_pickT (q := (decide ((-1000) ≤ p_0_0))) rfl hq6 rfl) ?_
    refine lex.pure (v := .bool (decide (p_0_0 ≤ 1000))) (pu_move rfl) ?_
    rcases bS (decide (p_0_0 ≤ 1000)) with hq7 | hq7
    · replace hb := (cT hq7).symm.trans hb
      refine lex.gpure (want_t rfl rfl (show _ = Value.bool (decide (p_0_0 ≤ 1000)) from rfl) hq7) (v := .pointer (some ((⟨g2, 0, none⟩ : Addr).add 1))) (pu_field (sz := 1) Try.underlying23 rfl Try.sizeOf3 (by decide) rfl rfl) ?_
      refine lex.gval (want_t rfl rfl (show _ = Value.bool (decide (p_0_0 ≤ 1000)) from rfl) hq7) (v := .int .i64 p_0_1) (ld_fld (hC.bx (i := 0) rfl) Try.isAgg3 rfl rfl) ?_
      refine lex.gpure (want_t rfl rfl (show _ = Value.bool (decide (p_0_0 ≤ 1000)) from rfl) hq7) (v := .bool (decide ((-1000) ≤ p_0_1))) (pu_geq (k := .i64) (a := p_0_1) (b := (-1000)) rfl rfl) ?_
      refine lex.pure (v := .bool (decide ((-1000) ≤ p_0_1))) (pu_pickT (q := (decide (p_0_0 ≤ 1000))) rfl hq7 rfl) ?_
      refine lex.pure (v := .bool (decide ((-1000) ≤ p_0_1))) (pu_move rfl) ?_
      rcases bS (decide ((-1000) ≤ p_0_1)) with hq8 | hq8
      · replace hb := (cT hq8).symm.trans hb
        refine lex.gpure (want_t rfl rfl (show _ = Value.bool (decide ((-1000) ≤ p_0_1)) from rfl) hq8) (v := .pointer (some ((⟨g2, 0, none⟩ : Addr).add 1))) (pu_field (sz := 1) Try.underlying23 rfl Try.sizeOf3 (by decide) rfl rfl) ?_
        refine lex.gval (want_t rfl rfl (show _ = Value.bool (decide ((-1000) ≤ p_0_1)) from rfl) hq8) (v := .int .i64 p_0_1) (ld_fld (hC.bx (i := 0) rfl) Try.isAgg3 rfl rfl) ?_
        refine lex.gpure (want_t rfl rfl (show _ = Value.bool (decide ((-1000) ≤ p_0_1)) from rfl) hq8) (v := .bool (decide (p_0_1 ≤ 1000))) (pu_leq (k := .i64) (a := p_0_1) (b := 1000) rfl rfl) ?_
        refine lex.pure (v := .bool (decide (p_0_1 ≤ 1000))) (pu_pickT (q := (decide ((-1000) ≤ p_0_1))) rfl hq8 rfl) ?_
        refine lex.pure (v := .bool (decide (p_0_1 ≤ 1000))) (pu_move rfl) ?_
        rcases bS (decide (p_0_1 ≤ 1000)) with hq9 | hq9
        · replace hb := (cT hq9).symm.trans hb
          refine lex.gpure (want_t rfl rfl (show _ = Value.bool (decide (p_0_1 ≤ 1000)) from rfl) hq9) (v := .pointer (some ((⟨g2, 0, none⟩ : Addr).add 2))) (pu_field (sz := 1) Try.underlying23 rfl Try.sizeOf3 (by decide) rfl rfl) ?_
          refine lex.gval (want_t rfl rfl (show _ = Value.bool (decide (p_0_1 ≤ 1000)) from rfl) hq9) (v := .int .i64 p_0_2) (ld_fld (hC.bx (i := 0) rfl) Try.isAgg3 rfl rfl) ?_
          refine lex.gpure (want_t rfl rfl (show _ = Value.bool (decide (p_0_1 ≤ 1000)) from rfl) hq9) (v := .bool (decide ((-1000) ≤ p_0_2))) (pu_geq (k := .i64) (a := p_0_2) (b := (-1000)) rfl rfl) ?_
          refine lex.pure (v := .bool (decide ((-1000) ≤ p_0_2))) (pu_pickT (q := (decide (p_0_1 ≤ 1000))) rfl hq9 rfl) ?_
          refine lex.pure (v := .bool (decide ((-1000) ≤ p_0_2))) (pu_move rfl) ?_
          rcases bS (decide ((-1000) ≤ p_0_2)) with hq10 | hq10
          · replace hb := (cT hq10).symm.trans hb
            refine lex.gpure (want_t rfl rfl (show _ = Value.bool (decide ((-1000) ≤ p_0_2)) from rfl) hq10) (v := .pointer (some ((⟨g2, 0, none⟩ : Addr).add 2))) (pu_field (sz := 1) Try.underlying23 rfl Try.sizeOf3 (by decide) rfl rfl) ?_
            refine lex.gval (want_t rfl rfl (show _ = Value.bool (decide ((-1000) ≤ p_0_2)) from rfl) hq10) (v := .int .i64 p_0_2) (ld_fld (hC.bx (i := 0) rfl) Try.isAgg3 rfl rfl) ?_
            refine lex.gpure (want_t rfl rfl (show _ = Value.bool (decide ((-1000) ≤ p_0_2)) from rfl) hq10) (v := .bool (decide (p_0_2 ≤ 1000))) (pu_leq (k := .i64) (a := p_0_2) (b := 1000) rfl rfl) ?_
            refine lex.pure (v := .bool (decide (p_0_2 ≤ 1000))) (pu_pickT (q := (decide ((-1000) ≤ p_0_2))) rfl hq10 rfl) ?_
            refine lex.pure (v := .bool (decide (p_0_2 ≤ 1000))) (pu_assign rfl) ?_
            refine lex.nil ?_
            refine hK5 _ _ ?_
            obtain rfl := Option.some.inj hb
            refine Wc.ret ?_
            refine hKR _ _ ?_
            refine ⟨_, res1 Try.results47 (show RV _ _ _ (.tmp _) (.bool (decide (p_0_2 ≤ 1000))) from rfl), _, rfl, rfl, hC.sel [] (by decide)⟩
          · replace hb := (cF hq10).symm.trans hb
            refine lex.gskip (want_f rfl rfl (show _ = Value.bool (decide ((-1000) ≤ p_0_2)) from rfl) hq10) ?_
            refine lex.gskip (want_f rfl rfl (show _ = Value.bool (decide ((-1000) ≤ p_0_2)) from rfl) hq10) ?_
            refine lex.gskip (want_f rfl rfl (show _ = Value.bool (decide ((-1000) ≤ p_0_2)) from rfl) hq10) ?_
            refine lex.pure (v := .bool false) (pu_pickF (q := (decide ((-1000) ≤ p_0_2))) rfl hq10 rfl) ?_
            refine lex.pure (v := .bool false) (pu_assign rfl) ?_
            refine lex.nil ?_
            refine hK5 _ _ ?_
            obtain rfl := Option.some.inj hb
            refine Wc.ret ?_
            refine hKR _ _ ?_
            refine ⟨_, res1 Try.results47 (show RV _ _ _ (.tmp _) (.bool false) from rfl), _, rfl, rfl, hC.sel [] (by decide)⟩
        · replace hb := (cF hq9).symm.trans hb
          refine lex.gskip (want_f rfl rfl (show _ = Value.bool (decide (p_0_1 ≤ 1000)) from rfl) hq9) ?_
          refine lex.gskip (want_f rfl rfl (show _ = Value.bool (decide (p_0_1 ≤ 1000)) from rfl) hq9) ?_
          refine lex.gskip (want_f rfl rfl (show _ = Value.bool (decide (p_0_1 ≤ 1000)) from rfl) hq9) ?_
          refine lex.pure (v := .bool false) (pu_pickF (q := (decide (p_0_1 ≤ 1000))) rfl hq9 rfl) ?_
          refine lex.pure (v := .bool false) (pu_move rfl) ?_
          refine lex.gskip (want_f rfl rfl (show _ = Value.bool false from rfl) rfl) ?_
          refine lex.gskip (want_f rfl rfl (show _ = Value.bool false from rfl) rfl) ?_
          refine lex.gskip (want_f rfl rfl (show _ = Value.bool false from rfl) rfl) ?_
          refine lex.pure (v := .bool false) (pu_pickF (q := false) rfl rfl rfl) ?_
          refine lex.pure (v := .bool false) (pu_assign rfl) ?_
          refine lex.nil ?_
          refine hK5 _ _ ?_
          obtain rfl := Option.some.inj hb
          refine Wc.ret ?_
          refine hKR _ _ ?_
          refine ⟨_, res1 Try.results47 (show RV _ _ _ (.tmp _) (.bool false) from rfl), _, rfl, rfl, hC.sel [] (by decide)⟩
      · replace hb := (cF hq8).symm.trans hb
        refine lex.gskip (want_f rfl rfl (show _ = Value.bool (decide ((-1000) ≤ p_0_1)) from rfl) hq8) ?_
        refine lex.gskip (want_f rfl rfl (show _ = Value.bool (decide ((-1000) ≤ p_0_1)) from rfl) hq8) ?_
        refine lex.gskip (want_f rfl rfl (show _ = Value.bool (decide ((-1000) ≤ p_0_1)) from rfl) hq8) ?_
        refine lex.pure (v := .bool false) (pu_pickF (q := (decide ((-1000) ≤ p_0_1))) rfl hq8 rfl) ?_
        refine lex.pure (v := .bool false) (pu_move rfl) ?_
        refine lex.gskip (want_f rfl rfl (show _ = Value.bool false from rfl) rfl) ?_
        refine lex.gskip (want_f rfl rfl (show _ = Value.bool false from rfl) rfl) ?_
        refine lex.gskip (want_f rfl rfl (show _ = Value.bool false from rfl) rfl) ?_
        refine lex.pure (v := .bool false) (pu_pickF (q := false) rfl rfl rfl) ?_
        refine lex.pure (v := .bool false) (pu_move rfl) ?_
        refine lex.gskip (want_f rfl rfl (show _ = Value.bool false from rfl) rfl) ?_
        refine lex.gskip (want_f rfl rfl (show _ = Value.bool false from rfl) rfl) ?_
        refine lex.gskip (want_f rfl rfl (show _ = Value.bool false from rfl) rfl) ?_
        refine lex.pure (v := .bool false) (pu_pickF (q := false) rfl rfl rfl) ?_
        refine lex.pure (v := .bool false) (pu_assign rfl) ?_
        refine lex.nil ?_
        refine hK5 _ _ ?_
        obtain rfl := Option.some.inj hb
        refine Wc.ret ?_
        refine hKR _ _ ?_
        refine ⟨_, res1 Try.results47 (show RV _ _ _ (.tmp _) (.bool false) from rfl), _, rfl, rfl, hC.sel [] (by decide)⟩
    · replace hb := (cF hq7).symm.trans hb
      refine lex.gskip (want_f rfl rfl (show _ = Value.bool (decide (p_0_0 ≤ 1000)) from rfl) hq7) ?_
      refine lex.gskip (want_f rfl rfl (show _ = Value.bool (decide (p_0_0 ≤ 1000)) from rfl) hq7) ?_
      refine lex.gskip (want_f rfl rfl (show _ = Value.bool (decide (p_0_0 ≤ 1000)) from rfl) hq7) ?_
      refine lex.pure (v := .bool false) (pu_pickF (q := (decide (p_0_0 ≤ 1000))) rfl hq7 rfl) ?_
      refine lex.pure (v := .bool false) (pu_move rfl) ?_
      refine lex.gskip (want_f rfl rfl (show _ = Value.bool false from rfl) rfl) ?_
      refine lex.gskip (want_f rfl rfl (show _ = Value.bool false from rfl) rfl) ?_
      refine lex.gskip (want_f rfl rfl (show _ = Value.bool false from rfl) rfl) ?_
      refine lex.pure (v := .bool false) (pu_pickF (q := false) rfl rfl rfl) ?_
      refine lex.pure (v := .bool false) (pu_move rfl) ?_
      refine lex.gskip (want_f rfl rfl (show _ = Value.bool false from rfl) rfl) ?_
      refine lex.gskip (want_f rfl rfl (show _ = Value.bool false from rfl) rfl) ?_
      refine lex.gskip (want_f rfl rfl (show _ = Value.bool false from rfl) rfl) ?_
      refine lex.pure (v := .bool false) (pu_pickF (q := false) rfl rfl rfl) ?_
      refine lex.pure (v := .bool false) (pu_move rfl) ?_
      refine lex.gskip (want_f rfl rfl (show _ = Value.bool false from rfl) rfl) ?_
      refine lex.gskip (want_f rfl rfl (show _ = Value.bool false from rfl) rfl) ?_
      refine lex.gskip (want_f rfl rfl (show _ = Value.bool false from rfl) rfl) ?_
      refine lex.pure (v := .bool false) (pu_pickF (q := false) rfl rfl rfl) ?_
      refine lex.pure (v := .bool false) (pu_assign rfl) ?_
      refine lex.nil ?_
      refine hK5 _ _ ?_
      obtain rfl := Option.some.inj hb
      refine Wc.ret ?_
      refine hKR _ _ ?_
      refine ⟨_, res1 Try.results47 (show RV _ _ _ (.tmp _) (.bool false) from rfl), _, rfl, rfl, hC.sel [] (by decide)⟩
  · replace hb := (cF hq6).symm.trans hb
    refine lex.gskip (want_f rfl rfl (show _ = Value.bool (decide ((-1000) ≤ p_0_0)) from rfl) hq6) ?_
    refine lex.gskip (want_f rfl rfl (show _ = Value.bool (decide ((-1000) ≤ p_0_0)) from rfl) hq6) ?_
    refine lex.gskip (want_f rfl rfl (show _ = Value.bool (decide ((-1000) ≤ p_0_0)) from rfl) hq6) ?_
    refine lex.pure (v := .bool false) (pu_pickF (q := (decide ((-1000) ≤ p_0_0))) rfl hq6 rfl) ?_
    refine lex.pure (v := .bool false) (pu_move rfl) ?_
    refine lex.gskip (want_f rfl rfl (show _ = Value.bool false from rfl) rfl) ?_
    refine lex.gskip (want_f rfl rfl (show _ = Value.bool false from rfl) rfl) ?_
    refine lex.gskip (want_f rfl rfl (show _ = Value.bool false from rfl) rfl) ?_
    refine lex.pure (v := .bool false) (pu_pickF (q := false) rfl rfl rfl) ?_
    refine lex.pure (v := .bool false) (pu_move rfl) ?_
    refine lex.gskip (want_f rfl rfl (show _ = Value.bool false from rfl) rfl) ?_
    refine lex.gskip (want_f rfl rfl (show _ = Value.bool false from rfl) rfl) ?_
    refine lex.gskip (want_f rfl rfl (show _ = Value.bool false from rfl) rfl) ?_
    refine lex.pure (v := .bool false) (pu_pickF (q := false) rfl rfl rfl) ?_
    refine lex.pure (v := .bool false) (pu_move rfl) ?_
    refine lex.gskip (want_f rfl rfl (show _ = Value.bool false from rfl) rfl) ?_
    refine lex.gskip (want_f rfl rfl (show _ = Value.bool false from rfl) rfl) ?_
    refine lex.gskip (want_f rfl rfl (show _ = Value.bool false from rfl) rfl) ?_
    refine lex.pure (v := .bool false) (pu_pickF (q := false) rfl rfl rfl) ?_
    refine lex.pure (v := .bool false) (pu_move rfl) ?_
    refine lex.gskip (want_f rfl rfl (show _ = Value.bool false from rfl) rfl) ?_
    refine lex.gskip (want_f rfl rfl (show _ = Value.bool false from rfl) rfl) ?_
    refine lex.gskip (want_f rfl rfl (show _ = Value.bool false from rfl) rfl) ?_
    refine lex.pure (v := .bool false) (pu_pickF (q := false) rfl rfl rfl) ?_
    refine lex.pure (v := .bool false) (pu_assign rfl) ?_
    refine lex.nil ?_
    refine hK5 _ _ ?_
    obtain rfl := Option.some.inj hb
    refine Wc.ret ?_
    refine hKR _ _ ?_
    refine ⟨_, res1 Try.results47 (show RV _ _ _ (.tmp _) (.bool false) from rfl), _, rfl, rfl, hC.sel [] (by decide)⟩

set_option maxRecDepth 100000 in
set_option maxHeartbeats 4000000 in
theorem ref46_turn_ok (n : Nat) {w : World} {O0 : List Nat} (hO : ∀ k ∈ O0, k < w.heap.size) {a_0_0 : Int} (ha_0_0 : I64 a_0_0) {a_0_1 : Int} (ha_0_1 : I64 a_0_1) {a_0_2 : Int} (ha_0_2 : I64 a_0_2) {b_1_0 : Int} (hb_1_0 : I64 b_1_0) {b_1_1 : Int} (hb_1_1 : I64 b_1_1) {b_1_2 : Int} (hb_1_2 : I64 b_1_2) {c_2_0 : Int} (hc_2_0 : I64 c_2_0) {c_2_1 : Int} (hc_2_1 : I64 c_2_1) {c_2_2 : Int} (hc_2_2 : I64 c_2_2) {r : Int} (hb : F.ref46_turn n a_0_0 a_0_1 a_0_2 b_1_0 b_1_1 b_1_2 c_2_0 c_2_1 c_2_2 = some r) :
    Calls Try.prog 49 #[.agg #[.int .i64 a_0_0, .int .i64 a_0_1, .int .i64 a_0_2], .agg #[.int .i64 b_1_0, .int .i64 b_1_1, .int .i64 b_1_2], .agg #[.int .i64 c_2_0, .int .i64 c_2_1, .int .i64 c_2_2]] w fun e w' => ∃ v, e = .returned v ∧ v = .int .i64 r ∧ I64 r ∧ Cx (fun _ => False) O0 w w' [] := by
  unfold F.ref46_turn at hb
  have hC := Cx.start hO
  clear hO
  refine calls_of_Wc Try.func49 rfl (by rw [Try.ntmps49]; exact Nat.le_of_ble_eq_true rfl) fun KR hKR => ?_
  refine Wc.seq fun K1 hK1 => ?_
  refine Wc.region (by decide +kernel) ?_
  refine lex.op (hC.box (cs := [.int .i64 a_0_0, .int .i64 a_0_1, .int .i64 a_0_2]) rfl rfl) ?_
  rintro _ w3 ⟨g2, rfl, hC, hF, hG⟩
  clear hG
  refine lex.op (hC.box (cs := [.int .i64 b_1_0, .int .i64 b_1_1, .int .i64 b_1_2]) rfl rfl) ?_
  rintro _ w6 ⟨g5, rfl, hC, hF, hG⟩
  clear hG
  refine lex.op (hC.box (cs := [.int .i64 c_2_0, .int .i64 c_2_1, .int .i64 c_2_2]) rfl rfl) ?_
  rintro _ w9 ⟨g8, rfl, hC, hF, hG⟩
  clear hG
  refine lex.pure (v := .int .i64 0) (pu_assign rfl) ?_
  refine lex.nil ?_
  refine hK1 _ _ ?_
  refine Wc.seq fun K11 hK11 => ?_
  refine Wc.region (by decide +kernel) ?_
  refine lex.pure (v := .pointer (some ((⟨g5, 0, none⟩ : Addr).add 0))) (pu_field (sz := 1) Try.underlying23 rfl Try.sizeOf3 (by decide) rfl rfl) ?_
  refine lex.val (v := .int .i64 b_1_0) (ld_fld (hC.bx (i := 1) rfl) Try.isAgg3 rfl rfl) ?_
  refine lex.pure (v := .pointer (some ((⟨g2, 0, none⟩ : Addr).add 0))) (pu_field (sz := 1) Try.underlying23 rfl Try.sizeOf3 (by decide) rfl rfl) ?_
  refine lex.val (v := .int .i64 a_0_0) (ld_fld (hC.bx (i := 2) rfl) Try.isAgg3 rfl rfl) ?_
  obtain ⟨z12, h13, hb⟩ := bd hb
  refine lex.pure (v := .int .i64 z12) (pu_subc (a := b_1_0) (b := a_0_0) rfl rfl h13) ?_
  refine lex.pure (v := .pointer (some ((⟨g8, 0, none⟩ : Addr).add 1))) (pu_field (sz := 1) Try.underlying23 rfl Try.sizeOf3 (by decide) rfl rfl) ?_
  refine lex.val (v := .int .i64 c_2_1) (ld_fld (hC.bx (i := 0) rfl) Try.isAgg3 rfl rfl) ?_
  refine lex.pure (v := .pointer (some ((⟨g2, 0, none⟩ : Addr).add 1))) (pu_field (sz := 1) Try.underlying23 rfl Try.sizeOf3 (by decide) rfl rfl) ?_
  refine lex.val (v := .int .i64 a_0_1) (ld_fld (hC.bx (i := 2) rfl) Try.isAgg3 rfl rfl) ?_
  obtain ⟨z14, h15, hb⟩ := bd hb
  refine lex.pure (v := .int .i64 z14) (pu_subc (a := c_2_1) (b := a_0_1) rfl rfl h15) ?_
  obtain ⟨z16, h17, hb⟩ := bd hb
  refine lex.pure (v := .int .i64 z16) (pu_mulc (a := z12) (b := z14) rfl rfl h17) ?_
  refine lex.pure (v := .pointer (some ((⟨g5, 0, none⟩ : Addr).add 1))) (pu_field (sz := 1) Try.underlying23 rfl Try.sizeOf3 (by decide) rfl rfl) ?_
  refine lex.val (v := .int .i64 b_1_1) (ld_fld (hC.bx (i := 1) rfl) Try.isAgg3 rfl rfl) ?_
  refine lex.pure (v := .pointer (some ((⟨g2, 0, none⟩ : Addr).add 1))) (pu_field (sz := 1) Try.underlying23 rfl Try.sizeOf3 (by decide) rfl rfl) ?_
  refine lex.val (v := .int .i64 a_0_1) (ld_fld (hC.bx (i := 2) rfl) Try.isAgg3 rfl rfl) ?_
  obtain ⟨z18, h19, hb⟩ := bd hb
  refine lex.pure (v := .int .i64 z18) (pu_subc (a := b_1_1) (b := a_0_1) rfl rfl h19) ?_
  refine lex.pure (v := .pointer (some ((⟨g8, 0, none⟩ : Addr).add 0))) (pu_field (sz := 1) Try.underlying23 rfl Try.sizeOf3 (by decide) rfl rfl) ?_
  refine lex.val (v := .int .i64 c_2_0) (ld_fld (hC.bx (i := 0) rfl) Try.isAgg3 rfl rfl) ?_
  refine lex.pure (v := .pointer (some ((⟨g2, 0, none⟩ : Addr).add 0))) (pu_field (sz := 1) Try.underlying23 rfl Try.sizeOf3 (by decide) rfl rfl) ?_
  refine lex.val (v := .int .i64 a_0_0) (ld_fld (hC.bx (i := 2) rfl) Try.isAgg3 rfl rfl) ?_
  obtain ⟨z20, h21, hb⟩ := bd hb
  refine lex.pure (v := .int .i64 z20) (pu_subc (a := c_2_0) (b := a_0_0) rfl rfl h21) ?_
  obtain ⟨z22, h23, hb⟩ := bd hb
  refine lex.pure (v := .int .i64 z22) (pu_mulc (a := z18) (b := z20) rfl rfl h23) ?_
  obtain ⟨z24, h25, hb⟩ := bd hb
  refine lex.pure (v := .int .i64 z24) (pu_subc (a := z16) (b := z22) rfl rfl h25) ?_
  refine lex.pure (v := .int .i64 z24) (pu_assign rfl) ?_
  refine lex.nil ?_
  refine hK11 _ _ ?_
  obtain rfl := Option.some.inj hb
  refine Wc.ret ?_
  refine hKR _ _ ?_
  refine ⟨_, res1 Try.results49 (show RV _ _ _ (.tmp _) (.int .i64 z24) from rfl), _, rfl, rfl, (chk_rng h25), hC.sel [] (by decide)⟩

set_option maxRecDepth 100000 in
set_option maxHeartbeats 4000000 in
theorem ref46_on_ok (n : Nat) {w : World} {O0 : List Nat} (hO : ∀ k ∈ O0, k < w.heap.size) {p_0_0 : Int} (hp_0_0 : I64 p_0_0) {p_0_1 : Int} (hp_0_1 : I64 p_0_1) {p_0_2 : Int} (hp_0_2 : I64 p_0_2) {a_1_0 : Int} (ha_1_0 : I64 a_1_0) {a_1_1 : Int} (ha_1_1 : I64 a_1_1) {a_1_2 : Int} (ha_1_2 : I64 a_1_2) {b_2_0 : Int} (hb_2_0 : I64 b_2_0) {b_2_1 : Int} (hb_2_1 : I64 b_2_1) {b_2_2 : Int} (hb_2_2 : I64 b_2_2) {r : Bool} (hb : F.ref46_on n p_0_0 p_0_1 p_0_2 a_1_0 a_1_1 a_1_2 b_2_0 b_2_1 b_2_2 = some r) :
    Calls Try.prog 48 #[.agg #[.int .i64 p_0_0, .int .i64 p_0_1, .int .i64 p_0_2], .agg #[.int .i64 a_1_0, .int .i64 a_1_1, .int .i64 a_1_2], .agg #[.int .i64 b_2_0, .int .i64 b_2_1, .int .i64 b_2_2]] w fun e w' => ∃ v, e = .returned v ∧ v = .bool r ∧ Cx (fun _ => False) O0 w w' [] := by
  unfold F.ref46_on at hb
  have hC := Cx.start hO
  clear hO
  refine calls_of_Wc Try.func48 rfl (by rw [Try.ntmps48]; exact Nat.le_of_ble_eq_true rfl) fun KR hKR => ?_
  refine Wc.seq fun K1 hK1 => ?_
  refine Wc.region (by decide +kernel) ?_
  refine lex.op (hC.box (cs := [.int .i64 p_0_0, .int .i64 p_0_1, .int .i64 p_0_2]) rfl rfl) ?_
  rintro _ w3 ⟨g2, rfl, hC, hF, hG⟩
  clear hG
  refine lex.op (hC.box (cs := [.int .i64 a_1_0, .int .i64 a_1_1, .int .i64 a_1_2]) rfl rfl) ?_
  rintro _ w6 ⟨g5, rfl, hC, hF, hG⟩
  clear hG
  refine lex.op (hC.box (cs := [.int .i64 b_2_0, .int .i64 b_2_1, .int .i64 b_2_2]) rfl rfl) ?_
  rintro _ w9 ⟨g8, rfl, hC, hF, hG⟩
  clear hG
  refine lex.pure (v := .bool false) (pu_assign rfl) ?_
  refine lex.nil ?_
  refine hK1 _ _ ?_
  refine Wc.seq fun K11 hK11 => ?_
  refine Wc.region (by decide +kernel) ?_
  refine lex.val (v := .agg #[.int .i64 a_1_0, .int .i64 a_1_1, .int .i64 a_1_2]) (ld_blk (hC.bx (i := 1) rfl) Try.isAgg23 Try.sizeOf23 rfl) ?_
  refine lex.val (v := .agg #[.int .i64 b_2_0, .int .i64 b_2_1, .int .i64 b_2_2]) (ld_blk (hC.bx (i := 0) rfl) Try.isAgg23 Try.sizeOf23 rfl) ?_
  refine lex.val (v := .agg #[.int .i64 p_0_0, .int .i64 p_0_1, .int .i64 p_0_2]) (ld_blk (hC.bx (i := 2) rfl) Try.isAgg23 Try.sizeOf23 rfl) ?_
  obtain ⟨y12, h13, hb⟩ := bd hb
  refine lex.cl (⟨_, _, op_call (vs := [.agg #[.int .i64 a_1_0, .int .i64 a_1_1, .int .i64 a_1_2], .agg #[.int .i64 b_2_0, .int .i64 b_2_1, .int .i64 b_2_2], .agg #[.int .i64 p_0_0, .int .i64 p_0_1, .int .i64 p_0_2]]) Try.call49 rfl rfl rfl, ref46_turn_ok n hC.lt ha_1_0 ha_1_1 ha_1_2 hb_2_0 hb_2_1 hb_2_2 hp_0_0 hp_0_1 hp_0_2 h13⟩) ?_
  rintro _ w15 ⟨rfl, hr14, hK⟩
  replace hC := hC.merge hK
  clear hK
  refine lex.pure (v := .bool (decide (y12 = 0))) (pu_eql (k := .i64) (a := y12) (b := 0) rfl rfl) ?_
  refine lex.pure (v := .bool (decide (y12 = 0))) (pu_move rfl) ?_
  rcases bS (decide (y12 = 0)) with hq16 | hq16
  · replace hb := (cT hq16).symm.trans hb
    refine lex.gpure (want_t rfl rfl (show _ = Value.bool (decide (y12 = 0)) from rfl) hq16) (v := .pointer (some ((⟨g2, 0, none⟩ : Addr).add 0))) (pu_field (sz := 1) Try.underlying23 rfl Try.sizeOf3 (by decide) rfl rfl) ?_
    refine lex.gval (want_t rfl rfl (show _ = Value.bool (decide (y12 = 0)) from rfl) hq16) (v := .int .i64 p_0_0) (ld_fld (hC.bx (i := 2) rfl) Try.isAgg3 rfl rfl) ?_
    refine lex.gpure (want_t rfl rfl (show _ = Value.bool (decide (y12 = 0)) from rfl) hq16) (v := .pointer (some ((⟨g5, 0, none⟩ : Addr).add 0))) (pu_field (sz := 1) Try.underlying23 rfl Try.sizeOf3 (by decide) rfl rfl) ?_
    refine lex.gval (want_t rfl rfl (show _ = Value.bool (decide (y12 = 0)) from rfl) hq16) (v := .int .i64 a_1_0) (ld_fld (hC.bx (i := 1) rfl) Try.isAgg3 rfl rfl) ?_
    refine lex.gpure (want_t rfl rfl (show _ = Value.bool (decide (y12 = 0)) from rfl) hq16) (v := .pointer (some ((⟨g8, 0, none⟩ : Addr).add 0))) (pu_field (sz := 1) Try.underlying23 rfl Try.sizeOf3 (by decide) rfl rfl) ?_
    refine lex.gval (want_t rfl rfl (show _ = Value.bool (decide (y12 = 0)) from rfl) hq16) (v := .int .i64 b_2_0) (ld_fld (hC.bx (i := 0) rfl) Try.isAgg3 rfl rfl) ?_
    refine lex.gpure (want_t rfl rfl (show _ = Value.bool (decide (y12 = 0)) from rfl) hq16) (v := .int .i64 (min a_1_0 b_2_0)) (pu_min (a := a_1_0) (b := b_2_0) rfl rfl) ?_
    refine lex.gpure (want_t rfl rfl (show _ = Value.bool (decide (y12 = 0)) from rfl) hq16) (v := .bool (decide ((min a_1_0 b_2_0) ≤ p_0_0))) (pu_geq (k := .i64) (a := p_0_0) (b := (min a_1_0 b_2_0)) rfl rfl) ?_
    refine lex.pure (v := .bool (decide ((min a_1_0 b_2_0) ≤ p_0_0))) (pu_pickT (q := (decide (y12 = 0))) rfl hq16 rfl) ?_
    refine lex.pure (v := .bool (decide ((min a_1_0 b_2_0) ≤ p_0_0))) (pu_move rfl) ?_
    rcases bS (decide ((min a_1_0 b_2_0) ≤ p_0_0)) with hq17 | hq17
    · replace hb := (cT hq17).symm.trans hb
      refine lex.gpure (want_t rfl rfl (show _ = Value.bool (decide ((min a_1_0 b_2_0) ≤ p_0_0)) from rfl) hq17) (v := .pointer (some ((⟨g2, 0, none⟩ : Addr).add 0))) (pu_field (sz := 1) Try.underlying23 rfl Try.sizeOf3 (by decide) rfl rfl) ?_
      refine lex.gval (want_t rfl rfl (show _ = Value.bool (decide ((min a_1_0 b_2_0) ≤ p_0_0)) from rfl) hq17) (v := .int .i64 p_0_0) (ld_fld (hC.bx (i := 2) rfl) Try.isAgg3 rfl rfl) ?_
      refine lex.gpure (want_t rfl rfl (show _ = Value.bool (decide ((min a_1_0 b_2_0) ≤ p_0_0)) from rfl) hq17) (v := .pointer (some ((⟨g5, 0, none⟩ : Addr).add 0))) (pu_field (sz := 1) Try.underlying23 rfl Try.sizeOf3 (by decide) rfl rfl) ?_
      refine lex.gval (want_t rfl rfl (show _ = Value.bool (decide ((min a_1_0 b_2_0) ≤ p_0_0)) from rfl) hq17) (v := .int .i64 a_1_0) (ld_fld (hC.bx (i := 1) rfl) Try.isAgg3 rfl rfl) ?_
      refine lex.gpure (want_t rfl rfl (show _ = Value.bool (decide ((min a_1_0 b_2_0) ≤ p_0_0)) from rfl) hq17) (v := .pointer (some ((⟨g8, 0, none⟩ : Addr).add 0))) (pu_field (sz := 1) Try.underlying23 rfl Try.sizeOf3 (by decide) rfl rfl) ?_
      refine lex.gval (want_t rfl rfl (show _ = Value.bool (decide ((min a_1_0 b_2_0) ≤ p_0_0)) from rfl) hq17) (v := .int .i64 b_2_0) (ld_fld (hC.bx (i := 0) rfl) Try.isAgg3 rfl rfl) ?_
      refine lex.gpure (want_t rfl rfl (show _ = Value.bool (decide ((min a_1_0 b_2_0) ≤ p_0_0)) from rfl) hq17) (v := .int .i64 (max a_1_0 b_2_0)) (pu_max (a := a_1_0) (b := b_2_0) rfl rfl) ?_
      refine lex.gpure (want_t rfl rfl (show _ = Value.bool (decide ((min a_1_0 b_2_0) ≤ p_0_0)) from rfl) hq17) (v := .bool (decide (p_0_0 ≤ (max a_1_0 b_2_0)))) (pu_leq (k := .i64) (a := p_0_0) (b := (max a_1_0 b_2_0)) rfl rfl) ?_
      refine lex.pure (v := .bool (decide (p_0_0 ≤ (max a_1_0 b_2_0)))) (pu_pickT (q := (decide ((min a_1_0 b_2_0) ≤ p_0_0))) rfl hq17 rfl) ?_
      refine lex.pure (v := .bool (decide (p_0_0 ≤ (max a_1_0 b_2_0)))) (pu_move rfl) ?_
      rcases bS (decide (p_0_0 ≤ (max a_1_0 b_2_0))) with hq18 | hq18
      · replace hb := (cT hq18).symm.trans hb
        refine lex.gpure (want_t rfl rfl (show _ = Value.bool (decide (p_0_0 ≤ (max a_1_0 b_2_0))) from rfl) hq18) (v := .pointer (some ((⟨g2, 0, none⟩ : Addr).add 1))) (pu_field (sz := 1) Try.underlying23 rfl Try.sizeOf3 (by decide) rfl rfl) ?_
        refine lex.gval (want_t rfl rfl (show _ = Value.bool (decide (p_0_0 ≤ (max a_1_0 b_2_0))) from rfl) hq18) (v := .int .i64 p_0_1) (ld_fld (hC.bx (i := 2) rfl) Try.isAgg3 rfl rfl) ?_
        refine lex.gpure (want_t rfl rfl (show _ = Value.bool (decide (p_0_0 ≤ (max a_1_0 b_2_0))) from rfl) hq18) (v := .pointer (some ((⟨g5, 0, none⟩ : Addr).add 1))) (pu_field (sz := 1) Try.underlying23 rfl Try.sizeOf3 (by decide) rfl rfl) ?_
        refine lex.gval (want_t rfl rfl (show _ = Value.bool (decide (p_0_0 ≤ (max a_1_0 b_2_0))) from rfl) hq18) (v := .int .i64 a_1_1) (ld_fld (hC.bx (i := 1) rfl) Try.isAgg3 rfl rfl) ?_
        refine lex.gpure (want_t rfl rfl (show _ = Value.bool (decide (p_0_0 ≤ (max a_1_0 b_2_0))) from rfl) hq18) (v := .pointer (some ((⟨g8, 0, none⟩ : Addr).add 1))) (pu_field (sz := 1) Try.underlying23 rfl Try.sizeOf3 (by decide) rfl rfl) ?_
        refine lex.gval (want_t rfl rfl (show _ = Value.bool (decide (p_0_0 ≤ (max a_1_0 b_2_0))) from rfl) hq18) (v := .int .i64 b_2_1) (ld_fld (hC.bx (i := 0) rfl) Try.isAgg3 rfl rfl) ?_
        refine lex.gpure (want_t rfl rfl (show _ = Value.bool (decide (p_0_0 ≤ (max a_1_0 b_2_0))) from rfl) hq18) (v := .int .i64 (min a_1_1 b_2_1)) (pu_min (a := a_1_1) (b := b_2_1) rfl rfl) ?_
        refine lex.gpure (want_t rfl rfl (show _ = Value.bool (decide (p_0_0 ≤ (max a_1_0 b_2_0))) from rfl) hq18) (v := .bool (decide ((min a_1_1 b_2_1) ≤ p_0_1))) (pu_geq (k := .i64) (a := p_0_1) (b := (min a_1_1 b_2_1)) rfl rfl) ?_
        refine lex.pure (v := .bool (decide ((min a_1_1 b_2_1) ≤ p_0_1))) (pu_pickT (q := (decide (p_0_0 ≤ (max a_1_0 b_2_0)))) rfl hq18 rfl) ?_
        refine lex.pure (v := .bool (decide ((min a_1_1 b_2_1) ≤ p_0_1))) (pu_move rfl) ?_
        rcases bS (decide ((min a_1_1 b_2_1) ≤ p_0_1)) with hq19 | hq19
        · replace hb := (cT hq19).symm.trans hb
          refine lex.gpure (want_t rfl rfl (show _ = Value.bool (decide ((min a_1_1 b_2_1) ≤ p_0_1)) from rfl) hq19) (v := .pointer (some ((⟨g2, 0, none⟩ : Addr).add 1))) (pu_field (sz := 1) Try.underlying23 rfl Try.sizeOf3 (by decide) rfl rfl) ?_
          refine lex.gval (want_t rfl rfl (show _ = Value.bool (decide ((min a_1_1 b_2_1) ≤ p_0_1)) from rfl) hq19) (v := .int .i64 p_0_1) (ld_fld (hC.bx (i := 2) rfl) Try.isAgg3 rfl rfl) ?_
          refine lex.gpure (want_t rfl rfl (show _ = Value.bool (decide ((min a_1_1 b_2_1) ≤ p_0_1)) from rfl) hq19) (v := .pointer (some ((⟨g5, 0, none⟩ : Addr).add 1))) (pu_field (sz := 1) Try.underlying23 rfl Try.sizeOf3 (by decide) rfl rfl) ?_
          refine lex.gval (want_t rfl rfl (show _ = Value.bool (decide ((min a_1_1 b_2_1) ≤ p_0_1)) from rfl) hq19) (v := .int .i64 a_1_1) (ld_fld (hC.bx (i := 1) rfl) Try.isAgg3 rfl rfl) ?_
          refine lex.gpure (want_t rfl rfl (show _ = Value.bool (decide ((min a_1_1 b_2_1) ≤ p_0_1)) from rfl) hq19) (v := .pointer (some ((⟨g8, 0, none⟩ : Addr).add 1))) (pu_field (sz := 1) Try.underlying23 rfl Try.sizeOf3 (by decide) rfl rfl) ?_
          refine lex.gval (want_t rfl rfl (show _ = Value.bool (decide ((min a_1_1 b_2_1) ≤ p_0_1)) from rfl) hq19) (v := .int .i64 b_2_1) (ld_fld (hC.bx (i := 0) rfl) Try.isAgg3 rfl rfl) ?_
          refine lex.gpure (want_t rfl rfl (show _ = Value.bool (decide ((min a_1_1 b_2_1) ≤ p_0_1)) from rfl) hq19) (v := .int .i64 (max a_1_1 b_2_1)) (pu_max (a := a_1_1) (b := b_2_1) rfl rfl) ?_
          refine lex.gpure (want_t rfl rfl (show _ = Value.bool (decide ((min a_1_1 b_2_1) ≤ p_0_1)) from rfl) hq19) (v := .bool (decide (p_0_1 ≤ (max a_1_1 b_2_1)))) (pu_leq (k := .i64) (a := p_0_1) (b := (max a_1_1 b_2_1)) rfl rfl) ?_
          refine lex.pure (v := .bool (decide (p_0_1 ≤ (max a_1_1 b_2_1)))) (pu_pickT (q := (decide ((min a_1_1 b_2_1) ≤ p_0_1))) rfl hq19 rfl) ?_
          refine lex.pure (v := .bool (decide (p_0_1 ≤ (max a_1_1 b_2_1)))) (pu_assign rfl) ?_
          refine lex.nil ?_
          refine hK11 _ _ ?_
          obtain rfl := Option.some.inj hb
          refine Wc.ret ?_
          refine hKR _ _ ?_
          refine ⟨_, res1 Try.results48 (show RV _ _ _ (.tmp _) (.bool (decide (p_0_1 ≤ (max a_1_1 b_2_1)))) from rfl), _, rfl, rfl, hC.sel [] (by decide)⟩
        · replace hb := (cF hq19).symm.trans hb
          refine lex.gskip (want_f rfl rfl (show _ = Value.bool (decide ((min a_1_1 b_2_1) ≤ p_0_1)) from rfl) hq19) ?_
          refine lex.gskip (want_f rfl rfl (show _ = Value.bool (decide ((min a_1_1 b_2_1) ≤ p_0_1)) from rfl) hq19) ?_
          refine lex.gskip (want_f rfl rfl (show _ = Value.bool (decide ((min a_1_1 b_2_1) ≤ p_0_1)) from rfl) hq19) ?_
          refine lex.gskip (want_f rfl rfl (show _ = Value.bool (decide ((min a_1_1 b_2_1) ≤ p_0_1)) from rfl) hq19) ?_
          refine lex.gskip (want_f rfl rfl (show _ = Value.bool (decide ((min a_1_1 b_2_1) ≤ p_0_1)) from rfl) hq19) ?_
          refine lex.gskip (want_f rfl rfl (show _ = Value.bool (decide ((min a_1_1 b_2_1) ≤ p_0_1)) from rfl) hq19) ?_
          refine lex.gskip (want_f rfl rfl (show _ = Value.bool (decide ((min a_1_1 b_2_1) ≤ p_0_1)) from rfl) hq19) ?_
          refine lex.gskip (want_f rfl rfl (show _ = Value.bool (decide ((min a_1_1 b_2_1) ≤ p_0_1)) from rfl) hq19) ?_
          refine lex.pure (v := .bool false) (pu_pickF (q := (decide ((min a_1_1 b_2_1) ≤ p_0_1))) rfl hq19 rfl) ?_
          refine lex.pure (v := .bool false) (pu_assign rfl) ?_
          refine lex.nil ?_
          refine hK11 _ _ ?_
          obtain rfl := Option.some.inj hb
          refine Wc.ret ?_
          refine hKR _ _ ?_
          refine ⟨_, res1 Try.results48 (show RV _ _ _ (.tmp _) (.bool false) from rfl), _, rfl, rfl, hC.sel [] (by decide)⟩
      · replace hb := (cF hq18).symm.trans hb
        refine lex.gskip (want_f rfl rfl (show _ = Value.bool (decide (p_0_0 ≤ (max a_1_0 b_2_0))) from rfl) hq18) ?_
        refine lex.gskip (want_f rfl rfl (show _ = Value.bool (decide (p_0_0 ≤ (max a_1_0 b_2_0))) from rfl) hq18) ?_
        refine lex.gskip (want_f rfl rfl (show _ = Value.bool (decide (p_0_0 ≤ (max a_1_0 b_2_0))) from rfl) hq18) ?_
        refine lex.gskip (want_f rfl rfl (show _ = Value.bool (decide (p_0_0 ≤ (max a_1_0 b_2_0))) from rfl) hq18) ?_
        refine lex.gskip (want_f rfl rfl (show _ = Value.bool (decide (p_0_0 ≤ (max a_1_0 b_2_0))) from rfl) hq18) ?_
        refine lex.gskip (want_f rfl rfl (show _ = Value.bool (decide (p_0_0 ≤ (max a_1_0 b_2_0))) from rfl) hq18) ?_
        refine lex.gskip (want_f rfl rfl (show _ = Value.bool (decide (p_0_0 ≤ (max a_1_0 b_2_0))) from rfl) hq18) ?_
        refine lex.gskip (want_f rfl rfl (show _ = Value.bool (decide (p_0_0 ≤ (max a_1_0 b_2_0))) from rfl) hq18) ?_
        refine lex.pure (v := .bool false) (pu_pickF (q := (decide (p_0_0 ≤ (max a_1_0 b_2_0)))) rfl hq18 rfl) ?_
        refine lex.pure (v := .bool false) (pu_move rfl) ?_
        refine lex.gskip (want_f rfl rfl (show _ = Value.bool false from rfl) rfl) ?_
        refine lex.gskip (want_f rfl rfl (show _ = Value.bool false from rfl) rfl) ?_
        refine lex.gskip (want_f rfl rfl (show _ = Value.bool false from rfl) rfl) ?_
        refine lex.gskip (want_f rfl rfl (show _ = Value.bool false from rfl) rfl) ?_
        refine lex.gskip (want_f rfl rfl (show _ = Value.bool false from rfl) rfl) ?_
        refine lex.gskip (want_f rfl rfl (show _ = Value.bool false from rfl) rfl) ?_
        refine lex.gskip (want_f rfl rfl (show _ = Value.bool false from rfl) rfl) ?_
        refine lex.gskip (want_f rfl rfl (show _ = Value.bool false from rfl) rfl) ?_
        refine lex.pure (v := .bool false) (pu_pickF (q := false) rfl rfl rfl) ?_
        refine lex.pure (v := .bool false) (pu_assign rfl) ?_
        refine lex.nil ?_
        refine hK11 _ _ ?_
        obtain rfl := Option.some.inj hb
        refine Wc.ret ?_
        refine hKR _ _ ?_
        refine ⟨_, res1 Try.results48 (show RV _ _ _ (.tmp _) (.bool false) from rfl), _, rfl, rfl, hC.sel [] (by decide)⟩
    · replace hb := (cF hq17).symm.trans hb
      refine lex.gskip (want_f rfl rfl (show _ = Value.bool (decide ((min a_1_0 b_2_0) ≤ p_0_0)) from rfl) hq17) ?_
      refine lex.gskip (want_f rfl rfl (show _ = Value.bool (decide ((min a_1_0 b_2_0) ≤ p_0_0)) from rfl) hq17) ?_
      refine lex.gskip (want_f rfl rfl (show _ = Value.bool (decide ((min a_1_0 b_2_0) ≤ p_0_0)) from rfl) hq17) ?_
      refine lex.gskip (want_f rfl rfl (show _ = Value.bool (decide ((min a_1_0 b_2_0) ≤ p_0_0)) from rfl) hq17) ?_
      refine lex.gskip (want_f rfl rfl (show _ = Value.bool (decide ((min a_1_0 b_2_0) ≤ p_0_0)) from rfl) hq17) ?_
      refine lex.gskip (want_f rfl rfl (show _ = Value.bool (decide ((min a_1_0 b_2_0) ≤ p_0_0)) from rfl) hq17) ?_
      refine lex.gskip (want_f rfl rfl (show _ = Value.bool (decide ((min a_1_0 b_2_0) ≤ p_0_0)) from rfl) hq17) ?_
      refine lex.gskip (want_f rfl rfl (show _ = Value.bool (decide ((min a_1_0 b_2_0) ≤ p_0_0)) from rfl) hq17) ?_
      refine lex.pure (v := .bool false) (pu_pickF (q := (decide ((min a_1_0 b_2_0) ≤ p_0_0))) rfl hq17 rfl) ?_
      refine lex.pure (v := .bool false) (pu_move rfl) ?_
      refine lex.gskip (want_f rfl rfl (show _ = Value.bool false from rfl) rfl) ?_
      refine lex.gskip (want_f rfl rfl (show _ = Value.bool false from rfl) rfl) ?_
      refine lex.gskip (want_f rfl rfl (show _ = Value.bool false from rfl) rfl) ?_
      refine lex.gskip (want_f rfl rfl (show _ = Value.bool false from rfl) rfl) ?_
      refine lex.gskip (want_f rfl rfl (show _ = Value.bool false from rfl) rfl) ?_
      refine lex.gskip (want_f rfl rfl (show _ = Value.bool false from rfl) rfl) ?_
      refine lex.gskip (want_f rfl rfl (show _ = Value.bool false from rfl) rfl) ?_
      refine lex.gskip (want_f rfl rfl (show _ = Value.bool false from rfl) rfl) ?_
      refine lex.pure (v := .bool false) (pu_pickF (q := false) rfl rfl rfl) ?_
      refine lex.pure (v := .bool false) (pu_move rfl) ?_
      refine lex.gskip (want_f rfl rfl (show _ = Value.bool false from rfl) rfl) ?_
      refine lex.gskip (want_f rfl rfl (show _ = Value.bool false from rfl) rfl) ?_
      refine lex.gskip (want_f rfl rfl (show _ = Value.bool false from rfl) rfl) ?_
      refine lex.gskip (want_f rfl rfl (show _ = Value.bool false from rfl) rfl) ?_
      refine lex.gskip (want_f rfl rfl (show _ = Value.bool false from rfl) rfl) ?_
      refine lex.gskip (want_f rfl rfl (show _ = Value.bool false from rfl) rfl) ?_
      refine lex.gskip (want_f rfl rfl (show _ = Value.bool false from rfl) rfl) ?_
      refine lex.gskip (want_f rfl rfl (show _ = Value.bool false from rfl) rfl) ?_
      refine lex.pure (v := .bool false) (pu_pickF (q := false) rfl rfl rfl) ?_
      refine lex.pure (v := .bool false) (pu_assign rfl) ?_
      refine lex.nil ?_
      refine hK11 _ _ ?_
      obtain rfl := Option.some.inj hb
      refine Wc.ret ?_
      refine hKR _ _ ?_
      refine ⟨_, res1 Try.results48 (show RV _ _ _ (.tmp _) (.bool false) from rfl), _, rfl, rfl, hC.sel [] (by decide)⟩
  · replace hb := (cF hq16).symm.trans hb
    refine lex.gskip (want_f rfl rfl (show _ = Value.bool (decide (y12 = 0)) from rfl) hq16) ?_
    refine lex.gskip (want_f rfl rfl (show _ = Value.bool (decide (y12 = 0)) from rfl) hq16) ?_
    refine lex.gskip (want_f rfl rfl (show _ = Value.bool (decide (y12 = 0)) from rfl) hq16) ?_
    refine lex.gskip (want_f rfl rfl (show _ = Value.bool (decide (y12 = 0)) from rfl) hq16) ?_
    refine lex.gskip (want_f rfl rfl (show _ = Value.bool (decide (y12 = 0)) from rfl) hq16) ?_
    refine lex.gskip (want_f rfl rfl (show _ = Value.bool (decide (y12 = 0)) from rfl) hq16) ?_
    refine lex.gskip (want_f rfl rfl (show _ = Value.bool (decide (y12 = 0)) from rfl) hq16) ?_
    refine lex.gskip (want_f rfl rfl (show _ = Value.bool (decide (y12 = 0)) from rfl) hq16) ?_
    refine lex.pure (v := .bool false) (pu_pickF (q := (decide (y12 = 0))) rfl hq16 rfl) ?_
    refine lex.pure (v := .bool false) (pu_move rfl) ?_
    refine lex.gskip (want_f rfl rfl (show _ = Value.bool false from rfl) rfl) ?_
    refine lex.gskip (want_f rfl rfl (show _ = Value.bool false from rfl) rfl) ?_
    refine lex.gskip (want_f rfl rfl (show _ = Value.bool false from rfl) rfl) ?_
    refine lex.gskip (want_f rfl rfl (show _ = Value.bool false from rfl) rfl) ?_
    refine lex.gskip (want_f rfl rfl (show _ = Value.bool false from rfl) rfl) ?_
    refine lex.gskip (want_f rfl rfl (show _ = Value.bool false from rfl) rfl) ?_
    refine lex.gskip (want_f rfl rfl (show _ = Value.bool false from rfl) rfl) ?_
    refine lex.gskip (want_f rfl rfl (show _ = Value.bool false from rfl) rfl) ?_
    refine lex.pure (v := .bool false) (pu_pickF (q := false) rfl rfl rfl) ?_
    refine lex.pure (v := .bool false) (pu_move rfl) ?_
    refine lex.gskip (want_f rfl rfl (show _ = Value.bool false from rfl) rfl) ?_
    refine lex.gskip (want_f rfl rfl (show _ = Value.bool false from rfl) rfl) ?_
    refine lex.gskip (want_f rfl rfl (show _ = Value.bool false from rfl) rfl) ?_
    refine lex.gskip (want_f rfl rfl (show _ = Value.bool false from rfl) rfl) ?_
    refine lex.gskip (want_f rfl rfl (show _ = Value.bool false from rfl) rfl) ?_
    refine lex.gskip (want_f rfl rfl (show _ = Value.bool false from rfl) rfl) ?_
    refine lex.gskip (want_f rfl rfl (show _ = Value.bool false from rfl) rfl) ?_
    refine lex.gskip (want_f rfl rfl (show _ = Value.bool false from rfl) rfl) ?_
    refine lex.pure (v := .bool false) (pu_pickF (q := false) rfl rfl rfl) ?_
    refine lex.pure (v := .bool false) (pu_move rfl) ?_
    refine lex.gskip (want_f rfl rfl (show _ = Value.bool false from rfl) rfl) ?_
    refine lex.gskip (want_f rfl rfl (show _ = Value.bool false from rfl) rfl) ?_
    refine lex.gskip (want_f rfl rfl (show _ = Value.bool false from rfl) rfl) ?_
    refine lex.gskip (want_f rfl rfl (show _ = Value.bool false from rfl) rfl) ?_
    refine lex.gskip (want_f rfl rfl (show _ = Value.bool false from rfl) rfl) ?_
    refine lex.gskip (want_f rfl rfl (show _ = Value.bool false from rfl) rfl) ?_
    refine lex.gskip (want_f rfl rfl (show _ = Value.bool false from rfl) rfl) ?_
    refine lex.gskip (want_f rfl rfl (show _ = Value.bool false from rfl) rfl) ?_
    refine lex.pure (v := .bool false) (pu_pickF (q := false) rfl rfl rfl) ?_
    refine lex.pure (v := .bool false) (pu_assign rfl) ?_
    refine lex.nil ?_
    refine hK11 _ _ ?_
    obtain rfl := Option.some.inj hb
    refine Wc.ret ?_
    refine hKR _ _ ?_
    refine ⟨_, res1 Try.results48 (show RV _ _ _ (.tmp _) (.bool false) from rfl), _, rfl, rfl, hC.sel [] (by decide)⟩

set_option maxRecDepth 100000 in
set_option maxHeartbeats 4000000 in
theorem ref46_opposite_ok (n : Nat) {w : World} {O0 : List Nat} (hO : ∀ k ∈ O0, k < w.heap.size) {x_0 : Int} (hx_0 : I64 x_0) {y_1 : Int} (hy_1 : I64 y_1) {r : Bool} (hb : F.ref46_opposite n x_0 y_1 = some r) :
    Calls Try.prog 50 #[.int .i64 x_0, .int .i64 y_1] w fun e w' => ∃ v, e = .returned v ∧ v = .bool r ∧ Cx (fun _ => False) O0 w w' [] := by
  unfold F.ref46_opposite at hb
  have hC := Cx.start hO
  clear hO
  refine calls_of_Wc Try.func50 rfl (by rw [Try.ntmps50]; exact Nat.le_of_ble_eq_true rfl) fun KR hKR => ?_
  refine Wc.seq fun K1 hK1 => ?_
  refine Wc.region (by decide +kernel) ?_
  refine lex.pure (v := .bool false) (pu_assign rfl) ?_
  refine lex.nil ?_
  refine hK1 _ _ ?_
  refine Wc.seq fun K2 hK2 => ?_
  refine Wc.region (by decide +kernel) ?_
  refine lex.pure (v := .int .i64 x_0) (pu_move rfl) ?_
  refine lex.pure (v := .bool (decide (x_0 < 0))) (pu_lss (k := .i64) (a := x_0) (b := 0) rfl rfl) ?_
  refine lex.pure (v := .bool (decide (x_0 < 0))) (pu_move rfl) ?_
  rcases bS (decide (x_0 < 0)) with hq3 | hq3
  · replace hb := (cT hq3).symm.trans hb
    refine lex.gpure (want_t rfl rfl (show _ = Value.bool (decide (x_0 < 0)) from rfl) hq3) (v := .int .i64 y_1) (pu_move rfl) ?_
    refine lex.gpure (want_t rfl rfl (show _ = Value.bool (decide (x_0 < 0)) from rfl) hq3) (v := .bool (decide (0 < y_1))) (pu_gtr (k := .i64) (a := y_1) (b := 0) rfl rfl) ?_
    refine lex.pure (v := .bool (decide (0 < y_1))) (pu_pickT (q := (decide (x_0 < 0))) rfl hq3 rfl) ?_
    refine lex.pure (v := .bool (decide (0 < y_1))) (pu_move rfl) ?_
    rcases bS (decide (0 < y_1)) with hq4 | hq4
    · replace hb := (cT hq4).symm.trans hb
      refine lex.gskip (want_f rfl rfl (show _ = Value.bool (decide (0 < y_1)) from rfl) hq4) ?_
      refine lex.gskip (want_f rfl rfl (show _ = Value.bool (decide (0 < y_1)) from rfl) hq4) ?_
      refine lex.gskip (want_f rfl rfl (show _ = Value.bool (decide (0 < y_1)) from rfl) hq4) ?_
      refine lex.gskip (want_n rfl rfl rfl) ?_
      refine lex.gskip (want_n rfl rfl rfl) ?_
      refine lex.gskip (want_f rfl rfl (show _ = Value.bool (decide (0 < y_1)) from rfl) hq4) ?_
      refine lex.pure (v := .bool true) (pu_pickT (q := (decide (0 < y_1))) rfl hq4 rfl) ?_
      refine lex.pure (v := .bool true) (pu_assign rfl) ?_
      refine lex.nil ?_
      refine hK2 _ _ ?_
      obtain rfl := Option.some.inj hb
      refine Wc.ret ?_
      refine hKR _ _ ?_
      refine ⟨_, res1 Try.results50 (show RV _ _ _ (.tmp _) (.bool true) from rfl), _, rfl, rfl, hC.sel [] (by decide)⟩
    · replace hb := (cF hq4).symm.trans hb
      refine lex.gpure (want_t rfl rfl (show _ = Value.bool (decide (0 < y_1)) from rfl) hq4) (v := .int .i64 x_0) (pu_move rfl) ?_
      refine lex.gpure (want_t rfl rfl (show _ = Value.bool (decide (0 < y_1)) from rfl) hq4) (v := .bool (decide (0 < x_0))) (pu_gtr (k := .i64) (a := x_0) (b := 0) rfl rfl) ?_
      refine lex.gpure (want_t rfl rfl (show _ = Value.bool (decide (0 < y_1)) from rfl) hq4) (v := .bool (decide (0 < x_0))) (pu_move rfl) ?_
      rcases bS (decide (0 < x_0)) with hq5 | hq5
      · replace hb := (cT hq5).symm.trans hb
        refine lex.gpure (want_t rfl rfl (show _ = Value.bool (decide (0 < x_0)) from rfl) hq5) (v := .int .i64 y_1) (pu_move rfl) ?_
        refine lex.gpure (want_t rfl rfl (show _ = Value.bool (decide (0 < x_0)) from rfl) hq5) (v := .bool (decide (y_1 < 0))) (pu_lss (k := .i64) (a := y_1) (b := 0) rfl rfl) ?_
        refine lex.gpure (want_t rfl rfl (show _ = Value.bool (decide (0 < y_1)) from rfl) hq4) (v := .bool (decide (y_1 < 0))) (pu_pickT (q := (decide (0 < x_0))) rfl hq5 rfl) ?_
        refine lex.pure (v := .bool (decide (y_1 < 0))) (pu_pickF (q := (decide (0 < y_1))) rfl hq4 rfl) ?_
        refine lex.pure (v := .bool (decide (y_1 < 0))) (pu_assign rfl) ?_
        refine lex.nil ?_
        refine hK2 _ _ ?_
        obtain rfl := Option.some.inj hb
        refine Wc.ret ?_
        refine hKR _ _ ?_
        refine ⟨_, res1 Try.results50 (show RV _ _ _ (.tmp _) (.bool (decide (y_1 < 0))) from rfl), _, rfl, rfl, hC.sel [] (by decide)⟩
      · replace hb := (cF hq5).symm.trans hb
        refine lex.gskip (want_f rfl rfl (show _ = Value.bool (decide (0 < x_0)) from rfl) hq5) ?_
        refine lex.gskip (want_f rfl rfl (show _ = Value.bool (decide (0 < x_0)) from rfl) hq5) ?_
        refine lex.gpure (want_t rfl rfl (show _ = Value.bool (decide (0 < y_1)) from rfl) hq4) (v := .bool false) (pu_pickF (q := (decide (0 < x_0))) rfl hq5 rfl) ?_
        refine lex.pure (v := .bool false) (pu_pickF (q := (decide (0 < y_1))) rfl hq4 rfl) ?_
        refine lex.pure (v := .bool false) (pu_assign rfl) ?_
        refine lex.nil ?_
        refine hK2 _ _ ?_
        obtain rfl := Option.some.inj hb
        refine Wc.ret ?_
        refine hKR _ _ ?_
        refine ⟨_, res1 Try.results50 (show RV _ _ _ (.tmp _) (.bool false) from rfl), _, rfl, rfl, hC.sel [] (by decide)⟩
  · replace hb := (cF hq3).symm.trans hb
    refine lex.gskip (want_f rfl rfl (show _ = Value.bool (decide (x_0 < 0)) from rfl) hq3) ?_
    refine lex.gskip (want_f rfl rfl (show _ = Value.bool (decide (x_0 < 0)) from rfl) hq3) ?_
    refine lex.pure (v := .bool false) (pu_pickF (q := (decide (x_0 < 0))) rfl hq3 rfl) ?_
    refine lex.pure (v := .bool false) (pu_move rfl) ?_
    refine lex.gpure (want_t rfl rfl (show _ = Value.bool false from rfl) rfl) (v := .int .i64 x_0) (pu_move rfl) ?_
    refine lex.gpure (want_t rfl rfl (show _ = Value.bool false from rfl) rfl) (v := .bool (decide (0 < x_0))) (pu_gtr (k := .i64) (a := x_0) (b := 0) rfl rfl) ?_
    refine lex.gpure (want_t rfl rfl (show _ = Value.bool false from rfl) rfl) (v := .bool (decide (0 < x_0))) (pu_move rfl) ?_
    rcases bS (decide (0 < x_0)) with hq6 | hq6
    · replace hb := (cT hq6).symm.trans hb
      refine lex.gpure (want_t rfl rfl (show _ = Value.bool (decide (0 < x_0)) from rfl) hq6) (v := .int .i64 y_1) (pu_move rfl) ?_
      refine lex.gpure (want_t rfl rfl (show _ = Value.bool (decide (0 < x_0)) from rfl) hq6) (v := .bool (decide (y_1 < 0))) (pu_lss (k := .i64) (a := y_1) (b := 0) rfl rfl) ?_
      refine lex.gpure (want_t rfl rfl (show _ = Value.bool false from rfl) rfl) (v := .bool (decide (y_1 < 0))) (pu_pickT (q := (decide (0 < x_0))) rfl hq6 rfl) ?_
      refine lex.pure (v := .bool (decide (y_1 < 0))) (pu_pickF (q := false) rfl rfl rfl) ?_
      refine lex.pure (v := .bool (decide (y_1 < 0))) (pu_assign rfl) ?_
      refine lex.nil ?_
      refine hK2 _ _ ?_
      obtain rfl := Option.some.inj hb
      refine Wc.ret ?_
      refine hKR _ _ ?_
      refine ⟨_, res1 Try.results50 (show RV _ _ _ (.tmp _) (.bool (decide (y_1 < 0))) from rfl), _, rfl, rfl, hC.sel [] (by decide)⟩
    · replace hb := (cF hq6).symm.trans hb
      refine lex.gskip (want_f rfl rfl (show _ = Value.bool (decide (0 < x_0)) from rfl) hq6) ?_
      refine lex.gskip (want_f rfl rfl (show _ = Value.bool (decide (0 < x_0)) from rfl) hq6) ?_
      refine lex.gpure (want_t rfl rfl (show _ = Value.bool false from rfl) rfl) (v := .bool false) (pu_pickF (q := (decide (0 < x_0))) rfl hq6 rfl) ?_
      refine lex.pure (v := .bool false) (pu_pickF (q := false) rfl rfl rfl) ?_
      refine lex.pure (v := .bool false) (pu_assign rfl) ?_
      refine lex.nil ?_
      refine hK2 _ _ ?_
      obtain rfl := Option.some.inj hb
      refine Wc.ret ?_
      refine hKR _ _ ?_
      refine ⟨_, res1 Try.results50 (show RV _ _ _ (.tmp _) (.bool false) from rfl), _, rfl, rfl, hC.sel [] (by decide)⟩

set_option maxRecDepth 100000 in
set_option maxHeartbeats 4000000 in
theorem ref46_Cross_ok (n : Nat) {w : World} {O0 : List Nat} (hO : ∀ k ∈ O0, k < w.heap.size) {a_0_0 : Int} (ha_0_0 : I64 a_0_0) {a_0_1 : Int} (ha_0_1 : I64 a_0_1) {a_0_2 : Int} (ha_0_2 : I64 a_0_2) {b_1_0 : Int} (hb_1_0 : I64 b_1_0) {b_1_1 : Int} (hb_1_1 : I64 b_1_1) {b_1_2 : Int} (hb_1_2 : I64 b_1_2) {c_2_0 : Int} (hc_2_0 : I64 c_2_0) {c_2_1 : Int} (hc_2_1 : I64 c_2_1) {c_2_2 : Int} (hc_2_2 : I64 c_2_2) {d_3_0 : Int} (hd_3_0 : I64 d_3_0) {d_3_1 : Int} (hd_3_1 : I64 d_3_1) {d_3_2 : Int} (hd_3_2 : I64 d_3_2) {r : Int × Bool} (hb : F.ref46_Cross n a_0_0 a_0_1 a_0_2 b_1_0 b_1_1 b_1_2 c_2_0 c_2_1 c_2_2 d_3_0 d_3_1 d_3_2 = some r) :
    Calls Try.prog 13 #[.agg #[.int .i64 a_0_0, .int .i64 a_0_1, .int .i64 a_0_2], .agg #[.int .i64 b_1_0, .int .i64 b_1_1, .int .i64 b_1_2], .agg #[.int .i64 c_2_0, .int .i64 c_2_1, .int .i64 c_2_2], .agg #[.int .i64 d_3_0, .int .i64 d_3_1, .int .i64 d_3_2]] w fun e w' => ∃ v, e = .returned v ∧ v = .tuple #[.int .i64 r.1, .bool r.2] ∧ I64 r.1 ∧ Cx (fun _ => False) O0 w w' [] := by
  unfold F.ref46_Cross at hb
  have hC := Cx.start hO
  clear hO
  refine calls_of_Wc Try.func13 rfl (by rw [Try.ntmps13]; exact Nat.le_of_ble_eq_true rfl) fun KR hKR => ?_
  refine Wc.seq fun K1 hK1 => ?_
  refine Wc.region (by decide +kernel) ?_
  refine lex.op (hC.box (cs := [.int .i64 a_0_0, .int .i64 a_0_1, .int .i64 a_0_2]) rfl rfl) ?_
  rintro _ w3 ⟨g2, rfl, hC, hF, hG⟩
  clear hG
  refine lex.op (hC.box (cs := [.int .i64 b_1_0, .int .i64 b_1_1, .int .i64 b_1_2]) rfl rfl) ?_
  rintro _ w6 ⟨g5, rfl, hC, hF, hG⟩
  clear hG
  refine lex.op (hC.box (cs := [.int .i64 c_2_0, .int .i64 c_2_1, .int .i64 c_2_2]) rfl rfl) ?_
  rintro _ w9 ⟨g8, rfl, hC, hF, hG⟩
  clear hG
  refine lex.op (hC.box (cs := [.int .i64 d_3_0, .int .i64 d_3_1, .int .i64 d_3_2]) rfl rfl) ?_
  rintro _ w12 ⟨g11, rfl, hC, hF, hG⟩
  clear hG
  refine lex.pure (v := .int .i64 0) (pu_assign rfl) ?_
  refine lex.pure (v := .bool false) (pu_assign rfl) ?_
  refine lex.nil ?_
  refine hK1 _ _ ?_
  refine Wc.seq fun K14 hK14 => ?_
  refine Wc.seq fun K15 hK15 => ?_
  refine Wc.region (by decide +kernel) ?_
  refine lex.val (v := .agg #[.int .i64 a_0_0, .int .i64 a_0_1, .int .i64 a_0_2]) (ld_blk (hC.bx (i := 3) rfl) Try.isAgg23 Try.sizeOf23 rfl) ?_
  obtain ⟨y16, h17, hb⟩ := bd hb
  refine lex.cl (⟨_, _, op_call (vs := [.agg #[.int .i64 a_0_0, .int .i64 a_0_1, .int .i64 a_0_2]]) Try.call47 rfl rfl rfl, ref46_fits_ok n hC.lt ha_0_0 ha_0_1 ha_0_2 h17⟩) ?_
  rintro _ w18 ⟨rfl, hK⟩
  replace hC := hC.merge hK
  clear hK
  refine lex.pure (v := .bool (!y16)) (pu_not (q := y16) rfl) ?_
  refine lex.pure (v := .bool (!y16)) (pu_move rfl) ?_
  rcases bS (!y16) with hq19 | hq19
  · replace hb := (cT hq19).symm.trans hb
    refine lex.gskip (want_f rfl rfl (show _ = Value.bool (!y16) from rfl) hq19) ?_
    refine lex.gskip (want_f rfl rfl (show _ = Value.bool (!y16) from rfl) hq19) ?_
    refine lex.gskip (want_f rfl rfl (show _ = Value.bool (!y16) from rfl) hq19) ?_
    refine lex.pure (v := .bool true) (pu_pickT (q := (!y16)) rfl hq19 rfl) ?_
    refine lex.pure (v := .bool true) (pu_move rfl) ?_
    refine lex.gskip (want_f rfl rfl (show _ = Value.bool true from rfl) rfl) ?_
    refine lex.gskip (want_f rfl rfl (show _ = Value.bool true from rfl) rfl) ?_
    refine lex.gskip (want_f rfl rfl (show _ = Value.bool true from rfl) rfl) ?_
    refine lex.pure (v := .bool true) (pu_pickT (q := true) rfl rfl rfl) ?_
    refine lex.pure (v := .bool true) (pu_move rfl) ?_
    refine lex.gskip (want_f rfl rfl (show _ = Value.bool true from rfl) rfl) ?_
    refine lex.gskip (want_f rfl rfl (show _ = Value.bool true from rfl) rfl) ?_
    refine lex.gskip (want_f rfl rfl (show _ = Value.bool true from rfl) rfl) ?_
    refine lex.pure (v := .bool true) (pu_pickT (q := true) rfl rfl rfl) ?_
    refine lex.nil ?_
    refine hK15 _ _ ?_
    refine Wc.fresh fun E20 hE => ?_
    have e4 : E20 4 = .pointer (some ⟨g2, 0, none⟩) := (congrFun hE 4).trans rfl
    have e5 : E20 5 = .pointer (some ⟨g5, 0, none⟩) := (congrFun hE 5).trans rfl
    have e6 : E20 6 = .pointer (some ⟨g8, 0, none⟩) := (congrFun hE 6).trans rfl
    have e7 : E20 7 = .pointer (some ⟨g11, 0, none⟩) := (congrFun hE 7).trans rfl
    have e8 : E20 8 = .int .i64 0 := (congrFun hE 8).trans rfl
    have e9 : E20 9 = .bool false := (congrFun hE 9).trans rfl
    have e33 : E20 33 = .bool true := (congrFun hE 33).trans rfl
    clear hE
    refine Wc.cond_true (e33) ?_
    refine Wc.seq fun K21 hK21 => ?_
    refine Wc.region (by decide +kernel) ?_
    refine lex.pure (v := .int .i64 2) (pu_assign rfl) ?_
    refine lex.pure (v := .bool false) (pu_assign rfl) ?_
    refine lex.nil ?_
    refine hK21 _ _ ?_
    obtain rfl := Option.some.inj hb
    refine Wc.ret ?_
    refine hKR _ _ ?_
    refine ⟨_, res2 Try.results13 (show RV _ _ _ (.tmp _) (.int .i64 2) from rfl) (show RV _ _ _ (.tmp _) (.bool false) from rfl), _, rfl, rfl, (show I64 2 from by unfold I64; omega), hC.sel [] (by decide)⟩
  · replace hb := (cF hq19).symm.trans hb
    refine lex.gval (want_t rfl rfl (show _ = Value.bool (!y16) from rfl) hq19) (v := .agg #[.int .i64 b_1_0, .int .i64 b_1_1, .int .i64 b_1_2]) (ld_blk (hC.bx (i := 2) rfl) Try.isAgg23 Try.sizeOf23 rfl) ?_
    obtain ⟨y22, h23, hb⟩ := bd hb
    refine lex.gcl (want_t rfl rfl (show _ = Value.bool (!y16) from rfl) hq19) (⟨_, _, op_call (vs := [.agg #[.int .i64 b_1_0, .int .i64 b_1_1, .int .i64 b_1_2]]) Try.call47 rfl rfl rfl, ref46_fits_ok n hC.lt hb_1_0 hb_1_1 hb_1_2 h23⟩) ?_
    rintro _ w24 ⟨rfl, hK⟩
    replace hC := hC.merge hK
    clear hK
    refine lex.gpure (want_t rfl rfl (show _ = Value.bool (!y16) from rfl) hq19) (v := .bool (!y22)) (pu_not (q := y22) rfl) ?_
    refine lex.pure (v := .bool (!y22)) (pu_pickF (q := (!y16)) rfl hq19 rfl) ?_
    refine lex.pure (v := .bool (!y22)) (pu_move rfl) ?_
    rcases bS (!y22) with hq25 | hq25
    · replace hb := (cT hq25).symm.trans hb
      refine lex.gskip (want_f rfl rfl (show _ = Value.bool (!y22) from rfl) hq25) ?_
      refine lex.gskip (want_f rfl rfl (show _ = Value.bool (!y22) from rfl) hq25) ?_
      refine lex.gskip (want_f rfl rfl (show _ = Value.bool (!y22) from rfl) hq25) ?_
      refine lex.pure (v := .bool true) (pu_pickT (q := (!y22)) rfl hq25 rfl) ?_
      refine lex.pure (v := .bool true) (pu_move rfl) ?_
      refine lex.gskip (want_f rfl rfl (show _ = Value.bool true from rfl) rfl) ?_
      refine lex.gskip (want_f rfl rfl (show _ = Value.bool true from rfl) rfl) ?_
      refine lex.gskip (want_f rfl rfl (show _ = Value.bool true from rfl) rfl) ?_
      refine lex.pure (v := .bool true) (pu_pickT (q := true) rfl rfl rfl) ?_
      refine lex.nil ?_
      refine hK15 _ _ ?_
      refine Wc.fresh fun E26 hE => ?_
      have e4 : E26 4 = .pointer (some ⟨g2, 0, none⟩) := (congrFun hE 4).trans rfl
      have e5 : E26 5 = .pointer (some ⟨g5, 0, none⟩) := (congrFun hE 5).trans rfl
      have e6 : E26 6 = .pointer (some ⟨g8, 0, none⟩) := (congrFun hE 6).trans rfl
      have e7 : E26 7 = .pointer (some ⟨g11, 0, none⟩) := (congrFun hE 7).trans rfl
      have e8 : E26 8 = .int .i64 0 := (congrFun hE 8).trans rfl
      have e9 : E26 9 = .bool false := (congrFun hE 9).trans rfl
      have e33 : E26 33 = .bool true := (congrFun hE 33).trans rfl
      clear hE
      refine Wc.cond_true (e33) ?_
      refine Wc.seq fun K27 hK27 => ?_
      refine Wc.region (by decide +kernel) ?_
      refine lex.pure (v := .int .i64 2) (pu_assign rfl) ?_
      refine lex.pure (v := .bool false) (pu_assign rfl) ?_
      refine lex.nil ?_
      refine hK27 _ _ ?_
      obtain rfl := Option.some.inj hb
      refine Wc.ret ?_
      refine hKR _ _ ?_
      refine ⟨_, res2 Try.results13 (show RV _ _ _ (.tmp _) (.int .i64 2) from rfl) (show RV _ _ _ (.tmp _) (.bool false) from rfl), _, rfl, rfl, (show I64 2 from by unfold I64; omega), hC.sel [] (by decide)⟩
    · replace hb := (cF hq25).symm.trans hb
      refine lex.gval (want_t rfl rfl (show _ = Value.bool (!y22) from rfl) hq25) (v := .agg #[.int .i64 c_2_0, .int .i64 c_2_1, .int .i64 c_2_2]) (ld_blk (hC.bx (i := 1) rfl) Try.isAgg23 Try.sizeOf23 rfl) ?_
      obtain ⟨y28, h29, hb⟩ := bd hb
      refine lex.gcl (want_t rfl rfl (show _ = Value.bool (!y22) from rfl) hq25) (⟨_, _, op_call (vs := [.agg #[.int .i64 c_2_0, .int .i64 c_2_1, .int .i64 c_2_2]]) Try.call47 rfl rfl rfl, ref46_fits_ok n hC.lt hc_2_0 hc_2_1 hc_2_2 h29⟩) ?_
      rintro _ w30 ⟨rfl, hK⟩
      replace hC := hC.merge hK
      clear hK
      refine lex.gpure (want_t rfl rfl (show _ = Value.bool (!y22) from rfl) hq25) (v := .bool (!y28)) (pu_not (q := y28) rfl) ?_
      refine lex.pure (v := .bool (!y28)) (pu_pickF (q := (!y22)) rfl hq25 rfl) ?_
      refine lex.pure (v := .bool (!y28)) (pu_move rfl) ?_
      rcases bS (!y28) with hq31 | hq31
      · replace hb := (cT hq31).symm.trans hb
        refine lex.gskip (want_f rfl rfl (show _ = Value.bool (!y28) from rfl) hq31) ?_
        refine lex.gskip (want_f rfl rfl (show _ = Value.bool (!y28) from rfl) hq31) ?_
        refine lex.gskip (want_f rfl rfl (show _ = Value.bool (!y28) from rfl) hq31) ?_
        refine lex.pure (v := .bool true) (pu_pickT (q := (!y28)) rfl hq31 rfl) ?_
        refine lex.nil ?_
        refine hK15 _ _ ?_
        refine Wc.fresh fun E32 hE => ?_
        have e4 : E32 4 = .pointer (some ⟨g2, 0, none⟩) := (congrFun hE 4).trans rfl
        have e5 : E32 5 = .pointer (some ⟨g5, 0, none⟩) := (congrFun hE 5).trans rfl
        have e6 : E32 6 = .pointer (some ⟨g8, 0, none⟩) := (congrFun hE 6).trans rfl
        have e7 : E32 7 = .pointer (some ⟨g11, 0, none⟩) := (congrFun hE 7).trans rfl
        have e8 : E32 8 = .int .i64 0 := (congrFun hE 8).trans rfl
        have e9 : E32 9 = .bool false := (congrFun hE 9).trans rfl
        have e33 : E32 33 = .bool true := (congrFun hE 33).trans rfl
        clear hE
        refine Wc.cond_true (e33) ?_
        refine Wc.seq fun K33 hK33 => ?_
        refine Wc.region (by decide +kernel) ?_
        refine lex.pure (v := .int .i64 2) (pu_assign rfl) ?_
        refine lex.pure (v := .bool false) (pu_assign rfl) ?_
        refine lex.nil ?_
        refine hK33 _ _ ?_
        obtain rfl := Option.some.inj hb
        refine Wc.ret ?_
        refine hKR _ _ ?_
        refine ⟨_, res2 Try.results13 (show RV _ _ _ (.tmp _) (.int .i64 2) from rfl) (show RV _ _ _ (.tmp _) (.bool false) from rfl), _, rfl, rfl, (show I64 2 from by unfold I64; omega), hC.sel [] (by decide)⟩
      · replace hb := (cF hq31).symm.trans hb
        refine lex.gval (want_t rfl rfl (show _ = Value.bool (!y28) from rfl) hq31) (v := .agg #[.int .i64 d_3_0, .int .i64 d_3_1, .int .i64 d_3_2]) (ld_blk (hC.bx (i := 0) rfl) Try.isAgg23 Try.sizeOf23 rfl) ?_
        obtain ⟨y34, h35, hb⟩ := bd hb
        refine lex.gcl (want_t rfl rfl (show _ = Value.bool (!y28) from rfl) hq31) (⟨_, _, op_call (vs := [.agg #[.int .i64 d_3_0, .int .i64 d_3_1, .int .i64 d_3_2]]) Try.call47 rfl rfl rfl, ref46_fits_ok n hC.lt hd_3_0 hd_3_1 hd_3_2 h35⟩) ?_
        rintro _ w36 ⟨rfl, hK⟩
        replace hC := hC.merge hK
        clear hK
        refine lex.gpure (want_t rfl rfl (show _ = Value.bool (!y28) from rfl) hq31) (v := .bool (!y34)) (pu_not (q := y34) rfl) ?_
        refine lex.pure (v := .bool (!y34)) (pu_pickF (q := (!y28)) rfl hq31 rfl) ?_
        refine lex.nil ?_
        refine hK15 _ _ ?_
        refine Wc.fresh fun E37 hE => ?_
        have e4 : E37 4 = .pointer (some ⟨g2, 0, none⟩) := (congrFun hE 4).trans rfl
        have e5 : E37 5 = .pointer (some ⟨g5, 0, none⟩) := (congrFun hE 5).trans rfl
        have e6 : E37 6 = .pointer (some ⟨g8, 0, none⟩) := (congrFun hE 6).trans rfl
        have e7 : E37 7 = .pointer (some ⟨g11, 0, none⟩) := (congrFun hE 7).trans rfl
        have e8 : E37 8 = .int .i64 0 := (congrFun hE 8).trans rfl
        have e9 : E37 9 = .bool false := (congrFun hE 9).trans rfl
        have e33 : E37 33 = .bool (!y34) := (congrFun hE 33).trans rfl
        clear hE
        refine Wc.cond (t := (!y34)) (e33) (fun hq38 => ?_) (fun hq38 => ?_)
        · replace hb := (cT hq38).symm.trans hb
          refine Wc.seq fun K39 hK39 => ?_
          refine Wc.region (by decide +kernel) ?_
          refine lex.pure (v := .int .i64 2) (pu_assign rfl) ?_
          refine lex.pure (v := .bool false) (pu_assign rfl) ?_
          refine lex.nil ?_
          refine hK39 _ _ ?_
          obtain rfl := Option.some.inj hb
          refine Wc.ret ?_
          refine hKR _ _ ?_
          refine ⟨_, res2 Try.results13 (show RV _ _ _ (.tmp _) (.int .i64 2) from rfl) (show RV _ _ _ (.tmp _) (.bool false) from rfl), _, rfl, rfl, (show I64 2 from by unfold I64; omega), hC.sel [] (by decide)⟩
        · replace hb := (cF hq38).symm.trans hb
          refine Wc.skip ?_
          refine hK14 _ _ ?_
          refine Wc.seq fun K40 hK40 => ?_
          refine Wc.seq fun K41 hK41 => ?_
          refine Wc.region (by decide +kernel) ?_
          refine lex.val (v := .agg #[.int .i64 a_0_0, .int .i64 a_0_1, .int .i64 a_0_2]) (ld_blk (hC.bx (i := 3) rfl) Try.isAgg23 Try.sizeOf23 e4) ?_
          refine lex.val (v := .agg #[.int .i64 c_2_0, .int .i64 c_2_1, .int .i64 c_2_2]) (ld_blk (hC.bx (i := 1) rfl) Try.isAgg23 Try.sizeOf23 e6) ?_
          refine lex.val (v := .agg #[.int .i64 d_3_0, .int .i64 d_3_1, .int .i64 d_3_2]) (ld_blk (hC.bx (i := 0) rfl) Try.isAgg23 Try.sizeOf23 e7) ?_
          obtain ⟨y42, h43, hb⟩ := bd hb
          refine lex.cl (⟨_, _, op_call (vs := [.agg #[.int .i64 a_0_0, .int .i64 a_0_1, .int .i64 a_0_2], .agg #[.int .i64 c_2_0, .int .i64 c_2_1, .int .i64 c_2_2], .agg #[.int .i64 d_3_0, .int .i64 d_3_1, .int .i64 d_3_2]]) Try.call48 rfl rfl rfl, ref46_on_ok n hC.lt ha_0_0 ha_0_1 ha_0_2 hc_2_0 hc_2_1 hc_2_2 hd_3_0 hd_3_1 hd_3_2 h43⟩) ?_
          rintro _ w44 ⟨rfl, hK⟩
          replace hC := hC.merge hK
          clear hK
          refine lex.pure (v := .bool y42) (pu_move rfl) ?_
          rcases bS y42 with hq45 | hq45
          · replace hb := (cT hq45).symm.trans hb
            refine lex.gskip (want_f rfl rfl (show _ = Value.bool y42 from rfl) hq45) ?_
            refine lex.gskip (want_f rfl rfl (show _ = Value.bool y42 from rfl) hq45) ?_
            refine lex.gskip (want_f rfl rfl (show _ = Value.bool y42 from rfl) hq45) ?_
            refine lex.gskip (want_f rfl rfl (show _ = Value.bool y42 from rfl) hq45) ?_
            refine lex.pure (v := .bool true) (pu_pickT (q := y42) rfl hq45 rfl) ?_
            refine lex.pure (v := .bool true) (pu_move rfl) ?_
            refine lex.gskip (want_f rfl rfl (show _ = Value.bool true from rfl) rfl) ?_
            refine lex.gskip (want_f rfl rfl (show _ = Value.bool true from rfl) rfl) ?_
            refine lex.gskip (want_f rfl rfl (show _ = Value.bool true from rfl) rfl) ?_
            refine lex.gskip (want_f rfl rfl (show _ = Value.bool true from rfl) rfl) ?_
            refine lex.pure (v := .bool true) (pu_pickT (q := true) rfl rfl rfl) ?_
            refine lex.pure (v := .bool true) (pu_move rfl) ?_
            refine lex.gskip (want_f rfl rfl (show _ = Value.bool true from rfl) rfl) ?_
            refine lex.gskip (want_f rfl rfl (show _ = Value.bool true from rfl) rfl) ?_
            refine lex.gskip (want_f rfl rfl (show _ = Value.bool true from rfl) rfl) ?_
            refine lex.gskip (want_f rfl rfl (show _ = Value.bool true from rfl) rfl) ?_
            refine lex.pure (v := .bool true) (pu_pickT (q := true) rfl rfl rfl) ?_
            refine lex.nil ?_
            refine hK41 _ _ ?_
            refine Wc.fresh fun E46 hE => ?_
            have e4 : E46 4 = .pointer (some ⟨g2, 0, none⟩) := (congrFun hE 4).trans e4
            have e5 : E46 5 = .pointer (some ⟨g5, 0, none⟩) := (congrFun hE 5).trans e5
            have e6 : E46 6 = .pointer (some ⟨g8, 0, none⟩) := (congrFun hE 6).trans e6
            have e7 : E46 7 = .pointer (some ⟨g11, 0, none⟩) := (congrFun hE 7).trans e7
            have e8 : E46 8 = .int .i64 0 := (congrFun hE 8).trans e8
            have e9 : E46 9 = .bool false := (congrFun hE 9).trans e9
            have e55 : E46 55 = .bool true := (congrFun hE 55).trans rfl
            clear hE
            refine Wc.cond_true (e55) ?_
            refine Wc.seq fun K47 hK47 => ?_
            refine Wc.region (by decide +kernel) ?_
            refine lex.pure (v := .int .i64 2) (pu_assign rfl) ?_
            refine lex.pure (v := .bool false) (pu_assign rfl) ?_
            refine lex.nil ?_
            refine hK47 _ _ ?_
            obtain rfl := Option.some.inj hb
            refine Wc.ret ?_
            refine hKR _ _ ?_
            refine ⟨_, res2 Try.results13 (show RV _ _ _ (.tmp _) (.int .i64 2) from rfl) (show RV _ _ _ (.tmp _) (.bool false) from rfl), _, rfl, rfl, (show I64 2 from by unfold I64; omega), hC.sel [] (by decide)⟩
          · replace hb := (cF hq45).symm.trans hb
            refine lex.gval (want_t rfl rfl (show _ = Value.bool y42 from rfl) hq45) (v := .agg #[.int .i64 b_1_0, .int .i64 b_1_1, .int .i64 b_1_2]) (ld_blk (hC.bx (i := 2) rfl) Try.isAgg23 Try.sizeOf23 e5) ?_
            refine lex.gval (want_t rfl rfl (show _ = Value.bool y42 from rfl) hq45) (v := .agg #[.int .i64 c_2_0, .int .i64 c_2_1, .int .i64 c_2_2]) (ld_blk (hC.bx (i := 1) rfl) Try.isAgg23 Try.sizeOf23 e6) ?_
            refine lex.gval (want_t rfl rfl (show _ = Value.bool y42 from rfl) hq45) (v := .agg #[.int .i64 d_3_0, .int .i64 d_3_1, .int .i64 d_3_2]) (ld_blk (hC.bx (i := 0) rfl) Try.isAgg23 Try.sizeOf23 e7) ?_
            obtain ⟨y48, h49, hb⟩ := bd hb
            refine lex.gcl (want_t rfl rfl (show _ = Value.bool y42 from rfl) hq45) (⟨_, _, op_call (vs := [.agg #[.int .i64 b_1_0, .int .i64 b_1_1, .int .i64 b_1_2], .agg #[.int .i64 c_2_0, .int .i64 c_2_1, .int .i64 c_2_2], .agg #[.int .i64 d_3_0, .int .i64 d_3_1, .int .i64 d_3_2]]) Try.call48 rfl rfl rfl, ref46_on_ok n hC.lt hb_1_0 hb_1_1 hb_1_2 hc_2_0 hc_2_1 hc_2_2 hd_3_0 hd_3_1 hd_3_2 h49⟩) ?_
            rintro _ w50 ⟨rfl, hK⟩
            replace hC := hC.merge hK
            clear hK
            refine lex.pure (v := .bool y48) (pu_pickF (q := y42) rfl hq45 rfl) ?_
            refine lex.pure (v := .bool y48) (pu_move rfl) ?_
            rcases bS y48 with hq51 | hq51
            · replace hb := (cT hq51).symm.trans hb
              refine lex.gskip (want_f rfl rfl (show _ = Value.bool y48 from rfl) hq51) ?_
              refine lex.gskip (want_f rfl rfl (show _ = Value.bool y48 from rfl) hq51) ?_
              refine lex.gskip (want_f rfl rfl (show _ = Value.bool y48 from rfl) hq51) ?_
              refine lex.gskip (want_f rfl rfl (show _ = Value.bool y48 from rfl) hq51) ?_
              refine lex.pure (v := .bool true) (pu_pickT (q := y48) rfl hq51 rfl) ?_
              refine lex.pure (v := .bool true) (pu_move rfl) ?_
              refine lex.gskip (want_f rfl rfl (show _ = Value.bool true from rfl) rfl) ?_
              refine lex.gskip (want_f rfl rfl (show _ = Value.bool true from rfl) rfl) ?_
              refine lex.gskip (want_f rfl rfl (show _ = Value.bool true from rfl) rfl) ?_
              refine lex.gskip (want_f rfl rfl (show _ = Value.bool true from rfl) rfl) ?_
              refine lex.pure (v := .bool true) (pu_pickT (q := true) rfl rfl rfl) ?_
              refine lex.nil ?_
              refine hK41 _ _ ?_
              refine Wc.fresh fun E52 hE => ?_
              have e4 : E52 4 = .pointer (some ⟨g2, 0, none⟩) := (congrFun hE 4).trans e4
              have e5 : E52 5 = .pointer (some ⟨g5, 0, none⟩) := (congrFun hE 5).trans e5
              have e6 : E52 6 = .pointer (some ⟨g8, 0, none⟩) := (congrFun hE 6).trans e6
              have e7 : E52 7 = .pointer (some ⟨g11, 0, none⟩) := (congrFun hE 7).trans e7
              have e8 : E52 8 = .int .i64 0 := (congrFun hE 8).trans e8
              have e9 : E52 9 = .bool false := (congrFun hE 9).trans e9
              have e55 : E52 55 = .bool true := (congrFun hE 55).trans rfl
              clear hE
              refine Wc.cond_true (e55) ?_
              refine Wc.seq fun K53 hK53 => ?_
              refine Wc.region (by decide +kernel) ?_
              refine lex.pure (v := .int .i64 2) (pu_assign rfl) ?_
              refine lex.pure (v := .bool false) (pu_assign rfl) ?_
              refine lex.nil ?_
              refine hK53 _ _ ?_
              obtain rfl := Option.some.inj hb
              refine Wc.ret ?_
              refine hKR _ _ ?_
              refine ⟨_, res2 Try.results13 (show RV _ _ _ (.tmp _) (.int .i64 2) from rfl) (show RV _ _ _ (.tmp _) (.bool false) from rfl), _, rfl, rfl, (show I64 2 from by unfold I64; omega), hC.sel [] (by decide)⟩
            · replace hb := (cF hq51).symm.trans hb
              refine lex.gval (want_t rfl rfl (show _ = Value.bool y48 from rfl) hq51) (v := .agg #[.int .i64 c_2_0, .int .i64 c_2_1, .int .i64 c_2_2]) (ld_blk (hC.bx (i := 1) rfl) Try.isAgg23 Try.sizeOf23 e6) ?_
              refine lex.gval (want_t rfl rfl (show _ = Value.bool y48 from rfl) hq51) (v := .agg #[.int .i64 a_0_0, .int .i64 a_0_1, .int .i64 a_0_2]) (ld_blk (hC.bx (i := 3) rfl) Try.isAgg23 Try.sizeOf23 e4) ?_
              refine lex.gval (want_t rfl rfl (show _ = Value.bool y48 from rfl) hq51) (v := .agg #[.int .i64 b_1_0, .int .i64 b_1_1, .int .i64 b_1_2]) (ld_blk (hC.bx (i := 2) rfl) Try.isAgg23 Try.sizeOf23 e5) ?_
              obtain ⟨y54, h55, hb⟩ := bd hb
              refine lex.gcl (want_t rfl rfl (show _ = Value.bool y48 from rfl) hq51) (⟨_, _, op_call (vs := [.agg #[.int .i64 c_2_0, .int .i64 c_2_1, .int .i64 c_2_2], .agg #[.int .i64 a_0_0, .int .i64 a_0_1, .int .i64 a_0_2], .agg #[.int .i64 b_1_0, .int .i64 b_1_1, .int .i64 b_1_2]]) Try.call48 rfl rfl rfl, ref46_on_ok n hC.lt hc_2_0 hc_2_1 hc_2_2 ha_0_0 ha_0_1 ha_0_2 hb_1_0 hb_1_1 hb_1_2 h55⟩) ?_
              rintro _ w56 ⟨rfl, hK⟩
              replace hC := hC.merge hK
              clear hK
              refine lex.pure (v := .bool y54) (pu_pickF (q := y48) rfl hq51 rfl) ?_
              refine lex.pure (v := .bool y54) (pu_move rfl) ?_
              rcases bS y54 with hq57 | hq57
              · replace hb := (cT hq57).symm.trans hb
                refine lex.gskip (want_f rfl rfl (show _ = Value.bool y54 from rfl) hq57) ?_
                refine lex.gskip (want_f rfl rfl (show _ = Value.bool y54 from rfl) hq57) ?_
                refine lex.gskip (want_f rfl rfl (show _ = Value.bool y54 from rfl) hq57) ?_
                refine lex.gskip (want_f rfl rfl (show _ = Value.bool y54 from rfl) hq57) ?_
                refine lex.pure (v := .bool true) (pu_pickT (q := y54) rfl hq57 rfl) ?_
                refine lex.nil ?_
                refine hK41 _ _ ?_
                refine Wc.fresh fun E58 hE => ?_
                have e4 : E58 4 = .pointer (some ⟨g2, 0, none⟩) := (congrFun hE 4).trans e4
                have e5 : E58 5 = .pointer (some ⟨g5, 0, none⟩) := (congrFun hE 5).trans e5
                have e6 : E58 6 = .pointer (some ⟨g8, 0, none⟩) := (congrFun hE 6).trans e6
                have e7 : E58 7 = .pointer (some ⟨g11, 0, none⟩) := (congrFun hE 7).trans e7
                have e8 : E58 8 = .int .i64 0 := (congrFun hE 8).trans e8
                have e9 : E58 9 = .bool false := (congrFun hE 9).trans e9
                have e55 : E58 55 = .bool true := (congrFun hE 55).trans rfl
                clear hE
                refine Wc.cond_true (e55) ?_
                refine Wc.seq fun K59 hK59 => ?_
                refine Wc.region (by decide +kernel) ?_
                refine lex.pure (v := .int .i64 2) (pu_assign rfl) ?_
                refine lex.pure (v := .bool false) (pu_assign rfl) ?_
                refine lex.nil ?_
                refine hK59 _ _ ?_
                obtain rfl := Option.some.inj hb
                refine Wc.ret ?_
                refine hKR _ _ ?_
                refine ⟨_, res2 Try.results13 (show RV _ _ _ (.tmp _) (.int .i64 2) from rfl) (show RV _ _ _ (.tmp _) (.bool false) from rfl), _, rfl, rfl, (show I64 2 from by unfold I64; omega), hC.sel [] (by decide)⟩
              · replace hb := (cF hq57).symm.trans hb
                refine lex.gval (want_t rfl rfl (show _ = Value.bool y54 from rfl) hq57) (v := .agg #[.int .i64 d_3_0, .int .i64 d_3_1, .int .i64 d_3_2]) (ld_blk (hC.bx (i := 0) rfl) Try.isAgg23 Try.sizeOf23 e7) ?_
                refine lex.gval (want_t rfl rfl (show _ = Value.bool y54 from rfl) hq57) (v := .agg #[.int .i64 a_0_0, .int .i64 a_0_1, .int .i64 a_0_2]) (ld_blk (hC.bx (i := 3) rfl) Try.isAgg23 Try.sizeOf23 e4) ?_
                refine lex.gval (want_t rfl rfl (show _ = Value.bool y54 from rfl) hq57) (v := .agg #[.int .i64 b_1_0, .int .i64 b_1_1, .int .i64 b_1_2]) (ld_blk (hC.bx (i := 2) rfl) Try.isAgg23 Try.sizeOf23 e5) ?_
                obtain ⟨y60, h61, hb⟩ := bd hb
                refine lex.gcl (want_t rfl rfl (show _ = Value.bool y54 from rfl) hq57) (⟨_, _, op_call (vs := [.agg #[.int .i64 d_3_0, .int .i64 d_3_1, .int .i64 d_3_2], .agg #[.int .i64 a_0_0, .int .i64 a_0_1, .int .i64 a_0_2], .agg #[.int .i64 b_1_0, .int .i64 b_1_1, .int .i64 b_1_2]]) Try.call48 rfl rfl rfl, ref46_on_ok n hC.lt hd_3_0 hd_3_1 hd_3_2 ha_0_0 ha_0_1 ha_0_2 hb_1_0 hb_1_1 hb_1_2 h61⟩) ?_
                rintro _ w62 ⟨rfl, hK⟩
                replace hC := hC.merge hK
                clear hK
                refine lex.pure (v := .bool y60) (pu_pickF (q := y54) rfl hq57 rfl) ?_
                refine lex.nil ?_
                refine hK41 _ _ ?_
                refine Wc.fresh fun E63 hE => ?_
                have e4 : E63 4 = .pointer (some ⟨g2, 0, none⟩) := (congrFun hE 4).trans e4
                have e5 : E63 5 = .pointer (some ⟨g5, 0, none⟩) := (congrFun hE 5).trans e5
                have e6 : E63 6 = .pointer (some ⟨g8, 0, none⟩) := (congrFun hE 6).trans e6
                have e7 : E63 7 = .pointer (some ⟨g11, 0, none⟩) := (congrFun hE 7).trans e7
                have e8 : E63 8 = .int .i64 0 := (congrFun hE 8).trans e8
                have e9 : E63 9 = .bool false := (congrFun hE 9).trans e9
                have e55 : E63 55 = .bool y60 := (congrFun hE 55).trans rfl
                clear hE
                refine Wc.cond (t := y60) (e55) (fun hq64 => ?_) (fun hq64 => ?_)
                · replace hb := (cT hq64).symm.trans hb
                  refine Wc.seq fun K65 hK65 => ?_
                  refine Wc.region (by decide +kernel) ?_
                  refine lex.pure (v := .int .i64 2) (pu_assign rfl) ?_
                  refine lex.pure (v := .bool false) (pu_assign rfl) ?_
                  refine lex.nil ?_
                  refine hK65 _ _ ?_
                  obtain rfl := Option.some.inj hb
                  refine Wc.ret ?_
                  refine hKR _ _ ?_
                  refine ⟨_, res2 Try.results13 (show RV _ _ _ (.tmp _) (.int .i64 2) from rfl) (show RV _ _ _ (.tmp _) (.bool false) from rfl), _, rfl, rfl, (show I64 2 from by unfold I64; omega), hC.sel [] (by decide)⟩
                · replace hb := (cF hq64).symm.trans hb
                  refine Wc.skip ?_
                  refine hK40 _ _ ?_
                  refine Wc.seq fun K66 hK66 => ?_
                  refine Wc.regionMix [] (frm [] ([] : List Fact) ([] : List Fact)) (fun _ => rfl) mixed (by decide +kernel) (by decide +kernel) fun w68 hw67 => ?_
                  replace hC := hC.step (Fr.of_drew hw67)
                  have hM := Fr.refl (fun k => k ∈ blocks ([] : List Fact)) w68
                  clear hw67
                  have hS := hC
                  refine mixE.load hM (v := .agg #[.int .i64 a_0_0, .int .i64 a_0_1, .int .i64 a_0_2]) (fun _ hF => ld_blk (hS.bx2 (i := 3) rfl [] (by decide) hF) Try.isAgg23 Try.sizeOf23 e4) ?_
                  refine mixE.load hM (v := .agg #[.int .i64 b_1_0, .int .i64 b_1_1, .int .i64 b_1_2]) (fun _ hF => ld_blk (hS.bx2 (i := 2) rfl [] (by decide) hF) Try.isAgg23 Try.sizeOf23 e5) ?_
                  refine mixE.load hM (v := .agg #[.int .i64 c_2_0, .int .i64 c_2_1, .int .i64 c_2_2]) (fun _ hF => ld_blk (hS.bx2 (i := 1) rfl [] (by decide) hF) Try.isAgg23 Try.sizeOf23 e6) ?_
                  obtain ⟨y69, h70, hb⟩ := bd hb
                  refine mixE.cl hM (⟨_, _, op_call (vs := [.agg #[.int .i64 a_0_0, .int .i64 a_0_1, .int .i64 a_0_2], .agg #[.int .i64 b_1_0, .int .i64 b_1_1, .int .i64 b_1_2], .agg #[.int .i64 c_2_0, .int .i64 c_2_1, .int .i64 c_2_2]]) Try.call49 rfl rfl rfl, ref46_turn_ok n hC.lt ha_0_0 ha_0_1 ha_0_2 hb_1_0 hb_1_1 hb_1_2 hc_2_0 hc_2_1 hc_2_2 h70⟩) ?_
                  rintro _ w72 ⟨rfl, hr71, hK⟩
                  replace hM := hM.none hK.fr
                  refine ⟨hM, ?_⟩
                  replace hC := hC.merge hK
                  clear hK
                  refine mixE.load hM (v := .agg #[.int .i64 a_0_0, .int .i64 a_0_1, .int .i64 a_0_2]) (fun _ hF => ld_blk (hS.bx2 (i := 3) rfl [] (by decide) hF) Try.isAgg23 Try.sizeOf23 e4) ?_
                  refine mixE.load hM (v := .agg #[.int .i64 b_1_0, .int .i64 b_1_1, .int .i64 b_1_2]) (fun _ hF => ld_blk (hS.bx2 (i := 2) rfl [] (by decide) hF) Try.isAgg23 Try.sizeOf23 e5) ?_
                  refine mixE.load hM (v := .agg #[.int .i64 d_3_0, .int .i64 d_3_1, .int .i64 d_3_2]) (fun _ hF => ld_blk (hS.bx2 (i := 0) rfl [] (by decide) hF) Try.isAgg23 Try.sizeOf23 e7) ?_
                  obtain ⟨y73, h74, hb⟩ := bd hb
                  refine mixE.cl hM (⟨_, _, op_call (vs := [.agg #[.int .i64 a_0_0, .int .i64 a_0_1, .int .i64 a_0_2], .agg #[.int .i64 b_1_0, .int .i64 b_1_1, .int .i64 b_1_2], .agg #[.int .i64 d_3_0, .int .i64 d_3_1, .int .i64 d_3_2]]) Try.call49 rfl rfl rfl, ref46_turn_ok n hC.lt ha_0_0 ha_0_1 ha_0_2 hb_1_0 hb_1_1 hb_1_2 hd_3_0 hd_3_1 hd_3_2 h74⟩) ?_
                  rintro _ w76 ⟨rfl, hr75, hK⟩
                  replace hM := hM.none hK.fr
                  refine ⟨hM, ?_⟩
                  replace hC := hC.merge hK
                  clear hK
                  refine mixE.load hM (v := .agg #[.int .i64 c_2_0, .int .i64 c_2_1, .int .i64 c_2_2]) (fun _ hF => ld_blk (hS.bx2 (i := 1) rfl [] (by decide) hF) Try.isAgg23 Try.sizeOf23 e6) ?_
                  refine mixE.load hM (v := .agg #[.int .i64 d_3_0, .int .i64 d_3_1, .int .i64 d_3_2]) (fun _ hF => ld_blk (hS.bx2 (i := 0) rfl [] (by decide) hF) Try.isAgg23 Try.sizeOf23 e7) ?_
                  refine mixE.load hM (v := .agg #[.int .i64 a_0_0, .int .i64 a_0_1, .int .i64 a_0_2]) (fun _ hF => ld_blk (hS.bx2 (i := 3) rfl [] (by decide) hF) Try.isAgg23 Try.sizeOf23 e4) ?_
                  obtain ⟨y77, h78, hb⟩ := bd hb
                  refine mixE.cl hM (⟨_, _, op_call (vs := [.agg #[.int .i64 c_2_0, .int .i64 c_2_1, .int .i64 c_2_2], .agg #[.int .i64 d_3_0, .int .i64 d_3_1, .int .i64 d_3_2], .agg #[.int .i64 a_0_0, .int .i64 a_0_1, .int .i64 a_0_2]]) Try.call49 rfl rfl rfl, ref46_turn_ok n hC.lt hc_2_0 hc_2_1 hc_2_2 hd_3_0 hd_3_1 hd_3_2 ha_0_0 ha_0_1 ha_0_2 h78⟩) ?_
                  rintro _ w80 ⟨rfl, hr79, hK⟩
                  replace hM := hM.none hK.fr
                  refine ⟨hM, ?_⟩
                  replace hC := hC.merge hK
                  clear hK
                  refine mixE.load hM (v := .agg #[.int .i64 c_2_0, .int .i64 c_2_1, .int .i64 c_2_2]) (fun _ hF => ld_blk (hS.bx2 (i := 1) rfl [] (by decide) hF) Try.isAgg23 Try.sizeOf23 e6) ?_
                  refine mixE.load hM (v := .agg #[.int .i64 d_3_0, .int .i64 d_3_1, .int .i64 d_3_2]) (fun _ hF => ld_blk (hS.bx2 (i := 0) rfl [] (by decide) hF) Try.isAgg23 Try.sizeOf23 e7) ?_
                  refine mixE.load hM (v := .agg #[.int .i64 b_1_0, .int .i64 b_1_1, .int .i64 b_1_2]) (fun _ hF => ld_blk (hS.bx2 (i := 2) rfl [] (by decide) hF) Try.isAgg23 Try.sizeOf23 e5) ?_
                  obtain ⟨y81, h82, hb⟩ := bd hb
                  refine mixE.cl hM (⟨_, _, op_call (vs := [.agg #[.int .i64 c_2_0, .int .i64 c_2_1, .int .i64 c_2_2], .agg #[.int .i64 d_3_0, .int .i64 d_3_1, .int .i64 d_3_2], .agg #[.int .i64 b_1_0, .int .i64 b_1_1, .int .i64 b_1_2]]) Try.call49 rfl rfl rfl, ref46_turn_ok n hC.lt hc_2_0 hc_2_1 hc_2_2 hd_3_0 hd_3_1 hd_3_2 hb_1_0 hb_1_1 hb_1_2 h82⟩) ?_
                  rintro _ w84 ⟨rfl, hr83, hK⟩
                  replace hM := hM.none hK.fr
                  refine ⟨hM, ?_⟩
                  replace hC := hC.merge hK
                  clear hK
                  refine mixE.pure (v := .int .i64 y69) (pu_assign rfl) ?_
                  refine mixE.pure (v := .int .i64 y73) (pu_assign rfl) ?_
                  refine mixE.pure (v := .int .i64 y77) (pu_assign rfl) ?_
                  refine mixE.pure (v := .int .i64 y81) (pu_assign rfl) ?_
                  refine mixE.nil ?_
                  clear hS hM
                  refine hK66 _ _ ?_
                  refine Wc.fresh fun E85 hE => ?_
                  have e4 : E85 4 = .pointer (some ⟨g2, 0, none⟩) := (congrFun hE 4).trans e4
                  have e5 : E85 5 = .pointer (some ⟨g5, 0, none⟩) := (congrFun hE 5).trans e5
                  have e6 : E85 6 = .pointer (some ⟨g8, 0, none⟩) := (congrFun hE 6).trans e6
                  have e7 : E85 7 = .pointer (some ⟨g11, 0, none⟩) := (congrFun hE 7).trans e7
                  have e8 : E85 8 = .int .i64 0 := (congrFun hE 8).trans e8
                  have e9 : E85 9 = .bool false := (congrFun hE 9).trans e9
                  have e10 : E85 10 = .int .i64 y69 := (congrFun hE 10).trans rfl
                  have e11 : E85 11 = .int .i64 y73 := (congrFun hE 11).trans rfl
                  have e12 : E85 12 = .int .i64 y77 := (congrFun hE 12).trans rfl
                  have e13 : E85 13 = .int .i64 y81 := (congrFun hE 13).trans rfl
                  clear hE
                  refine Wc.seq fun K86 hK86 => ?_
                  refine Wc.seq fun K87 hK87 => ?_
                  refine Wc.region (by decide +kernel) ?_
                  refine lex.pure (v := .int .i64 y69) (pu_move e10) ?_
                  refine lex.pure (v := .int .i64 y73) (pu_move e11) ?_
                  obtain ⟨y88, h89, hb⟩ := bd hb
                  refine lex.cl (⟨_, _, op_call (vs := [.int .i64 y69, .int .i64 y73]) Try.call50 rfl rfl rfl, ref46_opposite_ok n hC.lt hr71 hr75 h89⟩) ?_
                  rintro _ w90 ⟨rfl, hK⟩
                  replace hC := hC.merge hK
                  clear hK
                  refine lex.pure (v := .bool (!y88)) (pu_not (q := y88) rfl) ?_
                  refine lex.pure (v := .bool (!y88)) (pu_move rfl) ?_
                  rcases bS (!y88) with hq91 | hq91
                  · replace hb := (cT hq91).symm.trans hb
                    refine lex.gskip (want_f rfl rfl (show _ = Value.bool (!y88) from rfl) hq91) ?_
                    refine lex.gskip (want_f rfl rfl (show _ = Value.bool (!y88) from rfl) hq91) ?_
                    refine lex.gskip (want_f rfl rfl (show _ = Value.bool (!y88) from rfl) hq91) ?_
                    refine lex.gskip (want_f rfl rfl (show _ = Value.bool (!y88) from rfl) hq91) ?_
                    refine lex.pure (v := .bool true) (pu_pickT (q := (!y88)) rfl hq91 rfl) ?_
                    refine lex.nil ?_
                    refine hK87 _ _ ?_
                    refine Wc.cond_true (rfl) ?_
                    refine Wc.seq fun K92 hK92 => ?_
                    refine Wc.region (by decide +kernel) ?_
                    refine lex.pure (v := .int .i64 0) (pu_assign rfl) ?_
                    refine lex.pure (v := .bool false) (pu_assign rfl) ?_
                    refine lex.nil ?_
                    refine hK92 _ _ ?_
                    obtain rfl := Option.some.inj hb
                    refine Wc.ret ?_
                    refine hKR _ _ ?_
                    refine ⟨_, res2 Try.results13 (show RV _ _ _ (.tmp _) (.int .i64 0) from rfl) (show RV _ _ _ (.tmp _) (.bool false) from rfl), _, rfl, rfl, (show I64 0 from by unfold I64; omega), hC.sel [] (by decide)⟩
                  · replace hb := (cF hq91).symm.trans hb
                    refine lex.gpure (want_t rfl rfl (show _ = Value.bool (!y88) from rfl) hq91) (v := .int .i64 y77) (pu_move e12) ?_
                    refine lex.gpure (want_t rfl rfl (show _ = Value.bool (!y88) from rfl) hq91) (v := .int .i64 y81) (pu_move e13) ?_
                    obtain ⟨y93, h94, hb⟩ := bd hb
                    refine lex.gcl (want_t rfl rfl (show _ = Value.bool (!y88) from rfl) hq91) (⟨_, _, op_call (vs := [.int .i64 y77, .int .i64 y81]) Try.call50 rfl rfl rfl, ref46_opposite_ok n hC.lt hr79 hr83 h94⟩) ?_
                    rintro _ w95 ⟨rfl, hK⟩
                    replace hC := hC.merge hK
                    clear hK
                    refine lex.gpure (want_t rfl rfl (show _ = Value.bool (!y88) from rfl) hq91) (v := .bool (!y93)) (pu_not (q := y93) rfl) ?_
                    refine lex.pure (v := .bool (!y93)) (pu_pickF (q := (!y88)) rfl hq91 rfl) ?_
                    refine lex.nil ?_
                    refine hK87 _ _ ?_
                    refine Wc.fresh fun E96 hE => ?_
                    have e4 : E96 4 = .pointer (some ⟨g2, 0, none⟩) := (congrFun hE 4).trans e4
                    have e5 : E96 5 = .pointer (some ⟨g5, 0, none⟩) := (congrFun hE 5).trans e5
                    have e6 : E96 6 = .pointer (some ⟨g8, 0, none⟩) := (congrFun hE 6).trans e6
                    have e7 : E96 7 = .pointer (some ⟨g11, 0, none⟩) := (congrFun hE 7).trans e7
                    have e8 : E96 8 = .int .i64 0 := (congrFun hE 8).trans e8
                    have e9 : E96 9 = .bool false := (congrFun hE 9).trans e9
                    have e10 : E96 10 = .int .i64 y69 := (congrFun hE 10).trans e10
                    have e11 : E96 11 = .int .i64 y73 := (congrFun hE 11).trans e11
                    have e12 : E96 12 = .int .i64 y77 := (congrFun hE 12).trans e12
                    have e13 : E96 13 = .int .i64 y81 := (congrFun hE 13).trans e13
                    have e81 : E96 81 = .bool (!y93) := (congrFun hE 81).trans rfl
                    clear hE
                    refine Wc.cond (t := (!y93)) (e81) (fun hq97 => ?_) (fun hq97 => ?_)
                    · replace hb := (cT hq97).symm.trans hb
                      refine Wc.seq fun K98 hK98 => ?_
                      refine Wc.region (by decide +kernel) ?_
                      refine lex.pure (v := .int .i64 0) (pu_assign rfl) ?_
                      refine lex.pure (v := .bool false) (pu_assign rfl) ?_
                      refine lex.nil ?_
                      refine hK98 _ _ ?_
                      obtain rfl := Option.some.inj hb
                      refine Wc.ret ?_
                      refine hKR _ _ ?_
                      refine ⟨_, res2 Try.results13 (show RV _ _ _ (.tmp _) (.int .i64 0) from rfl) (show RV _ _ _ (.tmp _) (.bool false) from rfl), _, rfl, rfl, (show I64 0 from by unfold I64; omega), hC.sel [] (by decide)⟩
                    · replace hb := (cF hq97).symm.trans hb
                      refine Wc.skip ?_
                      refine hK86 _ _ ?_
                      refine Wc.seq fun K99 hK99 => ?_
                      refine Wc.region (by decide +kernel) ?_
                      refine lex.pure (v := .pointer (some ((⟨g2, 0, none⟩ : Addr).add 2))) (pu_field (sz := 1) Try.underlying23 rfl Try.sizeOf3 (by decide) rfl e4) ?_
                      refine lex.val (v := .int .i64 a_0_2) (ld_fld (hC.bx (i := 3) rfl) Try.isAgg3 rfl rfl) ?_
                      refine lex.pure (v := .int .i64 y77) (pu_move e12) ?_
                      refine lex.pure (v := .int .i64 y81) (pu_move e13) ?_
                      obtain ⟨z100, h101, hb⟩ := bd hb
                      refine lex.pure (v := .int .i64 z100) (pu_subc (a := y77) (b := y81) rfl rfl h101) ?_
                      obtain ⟨z102, h103, hb⟩ := bd hb
                      refine lex.pure (v := .int .i64 z102) (pu_mulc (a := a_0_2) (b := z100) rfl rfl h103) ?_
                      refine lex.pure (v := .pointer (some ((⟨g5, 0, none⟩ : Addr).add 2))) (pu_field (sz := 1) Try.underlying23 rfl Try.sizeOf3 (by decide) rfl e5) ?_
                      refine lex.val (v := .int .i64 b_1_2) (ld_fld (hC.bx (i := 2) rfl) Try.isAgg3 rfl rfl) ?_
                      refine lex.pure (v := .pointer (some ((⟨g2, 0, none⟩ : Addr).add 2))) (pu_field (sz := 1) Try.underlying23 rfl Try.sizeOf3 (by decide) rfl e4) ?_
                      refine lex.val (v := .int .i64 a_0_2) (ld_fld (hC.bx (i := 3) rfl) Try.isAgg3 rfl rfl) ?_
                      obtain ⟨z104, h105, hb⟩ := bd hb
                      refine lex.pure (v := .int .i64 z104) (pu_subc (a := b_1_2) (b := a_0_2) rfl rfl h105) ?_
                      refine lex.pure (v := .int .i64 y77) (pu_move e12) ?_
                      obtain ⟨z106, h107, hb⟩ := bd hb
                      refine lex.pure (v := .int .i64 z106) (pu_mulc (a := z104) (b := y77) rfl rfl h107) ?_
                      obtain ⟨z108, h109, hb⟩ := bd hb
                      refine lex.pure (v := .int .i64 z108) (pu_addc (a := z102) (b := z106) rfl rfl h109) ?_
                      refine lex.pure (v := .int .i64 y69) (pu_move e10) ?_
                      refine lex.pure (v := .int .i64 y73) (pu_move e11) ?_
                      obtain ⟨z110, h111, hb⟩ := bd hb
                      refine lex.pure (v := .int .i64 z110) (pu_subc (a := y69) (b := y73) rfl rfl h111) ?_
                      obtain ⟨z112, h113, hb⟩ := bd hb
                      refine lex.pure (v := .int .i64 z112) (pu_mulc (a := z108) (b := z110) rfl rfl h113) ?_
                      refine lex.pure (v := .int .i64 z112) (pu_assign rfl) ?_
                      refine lex.nil ?_
                      refine hK99 _ _ ?_
                      refine Wc.fresh fun E114 hE => ?_
                      have e6 : E114 6 = .pointer (some ⟨g8, 0, none⟩) := (congrFun hE 6).trans e6
                      have e7 : E114 7 = .pointer (some ⟨g11, 0, none⟩) := (congrFun hE 7).trans e7
                      have e8 : E114 8 = .int .i64 0 := (congrFun hE 8).trans e8
                      have e9 : E114 9 = .bool false := (congrFun hE 9).trans e9
                      have e10 : E114 10 = .int .i64 y69 := (congrFun hE 10).trans e10
                      have e11 : E114 11 = .int .i64 y73 := (congrFun hE 11).trans e11
                      have e12 : E114 12 = .int .i64 y77 := (congrFun hE 12).trans e12
                      have e13 : E114 13 = .int .i64 y81 := (congrFun hE 13).trans e13
                      have e14 : E114 14 = .int .i64 z112 := (congrFun hE 14).trans rfl
                      clear hE
                      refine Wc.seq fun K115 hK115 => ?_
                      refine Wc.region (by decide +kernel) ?_
                      refine lex.pure (v := .pointer (some ((⟨g8, 0, none⟩ : Addr).add 2))) (pu_field (sz := 1) Try.underlying23 rfl Try.sizeOf3 (by decide) rfl e6) ?_
                      refine lex.val (v := .int .i64 c_2_2) (ld_fld (hC.bx (i := 1) rfl) Try.isAgg3 rfl rfl) ?_
                      refine lex.pure (v := .int .i64 y69) (pu_move e10) ?_
                      refine lex.pure (v := .int .i64 y73) (pu_move e11) ?_
                      obtain ⟨z116, h117, hb⟩ := bd hb
                      refine lex.pure (v := .int .i64 z116) (pu_subc (a := y69) (b := y73) rfl rfl h117) ?_
                      obtain ⟨z118, h119, hb⟩ := bd hb
                      refine lex.pure (v := .int .i64 z118) (pu_mulc (a := c_2_2) (b := z116) rfl rfl h119) ?_
                      refine lex.pure (v := .pointer (some ((⟨g11, 0, none⟩ : Addr).add 2))) (pu_field (sz := 1) Try.underlying23 rfl Try.sizeOf3 (by decide) rfl e7) ?_
                      refine lex.val (v := .int .i64 d_3_2) (ld_fld (hC.bx (i := 0) rfl) Try.isAgg3 rfl rfl) ?_
                      refine lex.pure (v := .pointer (some ((⟨g8, 0, none⟩ : Addr).add 2))) (pu_field (sz := 1) Try.underlying23 rfl Try.sizeOf3 (by decide) rfl e6) ?_
                      refine lex.val (v := .int .i64 c_2_2) (ld_fld (hC.bx (i := 1) rfl) Try.isAgg3 rfl rfl) ?_
                      obtain ⟨z120, h121, hb⟩ := bd hb
                      refine lex.pure (v := .int .i64 z120) (pu_subc (a := d_3_2) (b := c_2_2) rfl rfl h121) ?_
                      refine lex.pure (v := .int .i64 y69) (pu_move e10) ?_
                      obtain ⟨z122, h123, hb⟩ := bd hb
                      refine lex.pure (v := .int .i64 z122) (pu_mulc (a := z120) (b := y69) rfl rfl h123) ?_
                      obtain ⟨z124, h125, hb⟩ := bd hb
                      refine lex.pure (v := .int .i64 z124) (pu_addc (a := z118) (b := z122) rfl rfl h125) ?_
                      refine lex.pure (v := .int .i64 y77) (pu_move e12) ?_
                      refine lex.pure (v := .int .i64 y81) (pu_move e13) ?_
                      obtain ⟨z126, h127, hb⟩ := bd hb
                      refine lex.pure (v := .int .i64 z126) (pu_subc (a := y77) (b := y81) rfl rfl h127) ?_
                      obtain ⟨z128, h129, hb⟩ := bd hb
                      refine lex.pure (v := .int .i64 z128) (pu_mulc (a := z124) (b := z126) rfl rfl h129) ?_
                      refine lex.pure (v := .int .i64 z128) (pu_assign rfl) ?_
                      refine lex.nil ?_
                      refine hK115 _ _ ?_
                      refine Wc.fresh fun E130 hE => ?_
                      have e8 : E130 8 = .int .i64 0 := (congrFun hE 8).trans e8
                      have e9 : E130 9 = .bool false := (congrFun hE 9).trans e9
                      have e10 : E130 10 = .int .i64 y69 := (congrFun hE 10).trans e10
                      have e11 : E130 11 = .int .i64 y73 := (congrFun hE 11).trans e11
                      have e12 : E130 12 = .int .i64 y77 := (congrFun hE 12).trans e12
                      have e13 : E130 13 = .int .i64 y81 := (congrFun hE 13).trans e13
                      have e14 : E130 14 = .int .i64 z112 := (congrFun hE 14).trans e14
                      have e15 : E130 15 = .int .i64 z128 := (congrFun hE 15).trans rfl
                      clear hE
                      refine Wc.seqJ (fun E wv => ∃ (v14_0 : Int) (v15_0 : Int), E 8 = .int .i64 0 ∧ E 9 = .bool false ∧ E 14 = .int .i64 v14_0 ∧ E 15 = .int .i64 v15_0 ∧ I64 v14_0 ∧ I64 v15_0 ∧ Cx (fun _ => False) O0 w wv [] ∧ F.ref46_Cross_j0 n v14_0 v15_0 = some r) (fun K131 hK131 => ?_) ?_
                      ·
                        skip
                        refine Wc.seq fun K132 hK132 => ?_
                        refine Wc.region (by decide +kernel) ?_
                        refine lex.pure (v := .int .i64 y77) (pu_move e12) ?_
                        refine lex.pure (v := .int .i64 y81) (pu_move e13) ?_
                        obtain ⟨z133, h134, hb⟩ := bd hb
                        refine lex.pure (v := .int .i64 z133) (pu_subc (a := y77) (b := y81) rfl rfl h134) ?_
                        obtain ⟨y135, h136, hb⟩ := bd hb
                        refine lex.cl (⟨_, _, op_call (vs := [.int .i64 z133, .int .i64 1]) Try.call50 rfl rfl rfl, ref46_opposite_ok n hC.lt (chk_rng h134) (show I64 1 from by unfold I64; omega) h136⟩) ?_
                        rintro _ w137 ⟨rfl, hK⟩
                        replace hC := hC.merge hK
                        clear hK
                        refine lex.pure (v := .int .i64 y69) (pu_move e10) ?_
                        refine lex.pure (v := .int .i64 y73) (pu_move e11) ?_
                        obtain ⟨z138, h139, hb⟩ := bd hb
                        refine lex.pure (v := .int .i64 z138) (pu_subc (a := y69) (b := y73) rfl rfl h139) ?_
                        obtain ⟨y140, h141, hb⟩ := bd hb
                        refine lex.cl (⟨_, _, op_call (vs := [.int .i64 z138, .int .i64 1]) Try.call50 rfl rfl rfl, ref46_opposite_ok n hC.lt (chk_rng h139) (show I64 1 from by unfold I64; omega) h141⟩) ?_
                        rintro _ w142 ⟨rfl, hK⟩
                        replace hC := hC.merge hK
                        clear hK
                        refine lex.pure (v := .bool (!(y135 == y140))) (pu_neqb (p := y135) (q := y140) Try.underlying4 rfl rfl) ?_
                        refine lex.nil ?_
                        refine hK132 _ _ ?_
                        refine Wc.cond (t := (!(y135 == y140))) (rfl) (fun hq143 => ?_) (fun hq143 => ?_)
                        · replace hb := (cT hq143).symm.trans hb
                          refine Wc.region (by decide +kernel) ?_
                          refine lex.pure (v := .int .i64 z112) (pu_move e14) ?_
                          obtain ⟨z144, h145, hb⟩ := bd hb
                          refine lex.pure (v := .int .i64 z144) (pu_subc (a := 0) (b := z112) rfl rfl h145) ?_
                          refine lex.pure (v := .int .i64 z128) (pu_move e15) ?_
                          obtain ⟨z146, h147, hb⟩ := bd hb
                          refine lex.pure (v := .int .i64 z146) (pu_subc (a := 0) (b := z128) rfl rfl h147) ?_
                          refine lex.pure (v := .int .i64 z144) (pu_assign rfl) ?_
                          refine lex.pure (v := .int .i64 z146) (pu_assign rfl) ?_
                          refine lex.nil ?_
                          exact hK131 _ _ ⟨z144, z146, e8, e9, rfl, rfl, (chk_rng h145), (chk_rng h147), hC.sel [] (by decide), hb⟩
                        · replace hb := (cF hq143).symm.trans hb
                          refine Wc.skip ?_
                          exact hK131 _ _ ⟨z112, z128, e8, e9, e14, e15, (chk_rng h113), (chk_rng h129), hC.sel [] (by decide), hb⟩
                      · clear hb hC
                        rintro E149 w148 ⟨v14_0, v15_0, e8, e9, e14, e15, hrv14_0, hrv15_0, hC, hb⟩
                        unfold F.ref46_Cross_j0 at hb
                        refine Wc.seq fun K150 hK150 => ?_
                        refine Wc.seq fun K151 hK151 => ?_
                        refine Wc.region (by decide +kernel) ?_
                        refine lex.pure (v := .int .i64 v14_0) (pu_move e14) ?_
                        refine lex.pure (v := .int .i64 v15_0) (pu_move e15) ?_
                        refine lex.pure (v := .bool (decide (v14_0 = v15_0))) (pu_eql (k := .i64) (a := v14_0) (b := v15_0) rfl rfl) ?_
                        refine lex.nil ?_
                        refine hK151 _ _ ?_
                        refine Wc.cond (t := (decide (v14_0 = v15_0))) (rfl) (fun hq152 => ?_) (fun hq152 => ?_)
                        · replace hb := (cT hq152).symm.trans hb
                          refine Wc.seq fun K153 hK153 => ?_
                          refine Wc.region (by decide +kernel) ?_
                          refine lex.pure (v := .int .i64 2) (pu_assign rfl) ?_
                          refine lex.pure (v := .bool false) (pu_assign rfl) ?_
                          refine lex.nil ?_
                          refine hK153 _ _ ?_
                          obtain rfl := Option.some.inj hb
                          refine Wc.ret ?_
                          refine hKR _ _ ?_
                          refine ⟨_, res2 Try.results13 (show RV _ _ _ (.tmp _) (.int .i64 2) from rfl) (show RV _ _ _ (.tmp _) (.bool false) from rfl), _, rfl, rfl, (show I64 2 from by unfold I64; omega), hC.sel [] (by decide)⟩
                        · replace hb := (cF hq152).symm.trans hb
                          refine Wc.skip ?_
                          refine hK150 _ _ ?_
                          refine Wc.seq fun K154 hK154 => ?_
                          refine Wc.region (by decide +kernel) ?_
                          refine lex.pure (v := .int .i64 v14_0) (pu_move e14) ?_
                          refine lex.pure (v := .int .i64 v15_0) (pu_move e15) ?_
                          refine lex.pure (v := .bool (decide (v15_0 < v14_0))) (pu_gtr (k := .i64) (a := v14_0) (b := v15_0) rfl rfl) ?_
                          refine lex.pure (v := .int .i64 1) (pu_assign rfl) ?_
                          refine lex.pure (v := .bool (decide (v15_0 < v14_0))) (pu_assign rfl) ?_
                          refine lex.nil ?_
                          refine hK154 _ _ ?_
                          obtain rfl := Option.some.inj hb
                          refine Wc.ret ?_
                          refine hKR _ _ ?_
                          refine ⟨_, res2 Try.results13 (show RV _ _ _ (.tmp _) (.int .i64 1) from rfl) (show RV _ _ _ (.tmp _) (.bool (decide (v15_0 < v14_0))) from rfl), _, rfl, rfl, (show I64 1 from by unfold I64; omega), hC.sel [] (by decide)⟩
end Go.Proofs.Yteajmbanlohncaa
