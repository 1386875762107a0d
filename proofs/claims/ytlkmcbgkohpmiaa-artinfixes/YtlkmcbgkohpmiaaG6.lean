/- The walks: part 6. -/
import Derived.Test.YtlkmcbgkohpmiaaS
set_option linter.unusedVariables false
set_option linter.unusedSimpArgs false
namespace Go.Proofs.Ytlkmcbgkohpmiaa
open Ev
set_option maxRecDepth 100000 in
set_option maxHeartbeats 4000000 in
theorem law35_great_ok (n : Nat) {w : World} {O0 : List Nat} (hO : ∀ k ∈ O0, k < w.heap.size) {b_0_0 : Int} (hb_0_0 : I64 b_0_0) {Ab_0_1 : Option Addr} {mb_0_1 cb_0_1 : Nat} {b_0_1 : List Int} (hb_0_1 : Rep O0 w (.sl (.int .i64)) [.slice Ab_0_1 mb_0_1 cb_0_1] b_0_1) {r : Bool} (hb : F.law35_great n b_0_0 b_0_1 = some r) :
    Calls Try.prog 10 #[.agg #[.int .i64 b_0_0, .slice Ab_0_1 mb_0_1 cb_0_1]] w fun e w' => ∃ v, e = .returned v ∧ v = .bool r ∧ Cx (fun _ => False) O0 w w' [] := by
  unfold F.law35_great at hb
  have hC := Cx.start hO
  replace hC := hC.arg rfl hb_0_1
  clear hO
  obtain ⟨rfl, hlb_0_1, hcb_0_1⟩ := hb_0_1.sl_len
  refine calls_of_Wc Try.func10 rfl (by rw [Try.ntmps10]; exact Nat.le_of_ble_eq_true rfl) fun KR hKR => ?_
  refine Wc.seq fun K2 hK2 => ?_
  refine Wc.region (by decide +kernel) ?_
  refine lex.op (hC.box (cs := [.int .i64 b_0_0, .slice Ab_0_1 b_0_1.length cb_0_1]) rfl rfl) ?_
  rintro _ w4 ⟨g3, rfl, hC, hF, hG⟩
  clear hG
  refine lex.pure (v := .bool false) (pu_assign rfl) ?_
  refine lex.nil ?_
  refine hK2 _ _ ?_
  refine Wc.seq fun K6 hK6 => ?_
  refine Wc.region (by decide +kernel) ?_
  refine lex.pure (v := .pointer (some ((⟨g3, 0, none⟩ : Addr).add 1))) (pu_field (sz := 1) Try.underlying24 rfl Try.sizeOf22 (by decide) rfl rfl) ?_
  refine lex.val (v := .slice Ab_0_1 b_0_1.length cb_0_1) (ld_fld (hC.bx (i := 0) rfl) Try.isAgg22 rfl rfl) ?_
  refine lex.pure (v := .int .i64 (b_0_1.length : Int)) (pu_len (A := Ab_0_1) (n := b_0_1.length) (m := cb_0_1) Try.underlying22 rfl) ?_
  refine lex.pure (v := .bool (decide (14 < (b_0_1.length : Int)))) (pu_gtr (k := .i64) (a := (b_0_1.length : Int)) (b := 14) rfl rfl) ?_
  refine lex.pure (v := .bool (decide (14 < (b_0_1.length : Int)))) (pu_move rfl) ?_
  rcases bS (decide (14 < (b_0_1.length : Int))) with hq7 | hq7
  · replace hb := (cT hq7).symm.trans hb
    refine lex.gskip (want_f rfl rfl (show _ = Value.bool (decide (14 < (b_0_1.length : Int))) from rfl) hq7) ?_
    refine lex.gskip (want_f rfl rfl (show _ = Value.bool (decide (14 < (b_0_1.length : Int))) from rfl) hq7) ?_
    refine lex.gskip (want_f rfl rfl (show _ = Value.bool (decide (14 < (b_0_1.length : Int))) from rfl) hq7) ?_
    refine lex.gskip (want_f rfl rfl (show _ = Value.bool (decide (14 < (b_0_1.length : Int))) from rfl) hq7) ?_
    refine lex.gskip (want_n rfl rfl rfl) ?_
    refine lex.gskip (want_n rfl rfl rfl) ?_
    refine lex.gskip (want_n rfl rfl rfl) ?_
    refine lex.gskip (want_f rfl rfl (show _ = Value.bool (decide (14 < (b_0_1.length : Int))) from rfl) hq7) ?_
    refine lex.pure (v := .bool true) (pu_pickT (q := (decide (14 < (b_0_1.length : Int)))) rfl hq7 rfl) ?_
    refine lex.pure (v := .bool true) (pu_assign rfl) ?_
    refine lex.nil ?_
    refine hK6 _ _ ?_
    obtain rfl := Option.some.inj hb
    refine Wc.ret ?_
    refine hKR _ _ ?_
    refine ⟨_, res1 Try.results10 (show RV _ _ _ (.tmp _) (.bool true) from rfl), _, rfl, rfl, hC.sel [] (by decide)⟩
  · replace hb := (cF hq7).symm.trans hb
    refine lex.gpure (want_t rfl rfl (show _ = Value.bool (decide (14 < (b_0_1.length : Int))) from rfl) hq7) (v := .pointer (some ((⟨g3, 0, none⟩ : Addr).add 0))) (pu_field (sz := 1) Try.underlying24 rfl Try.sizeOf3 (by decide) rfl rfl) ?_
    refine lex.gval (want_t rfl rfl (show _ = Value.bool (decide (14 < (b_0_1.length : Int))) from rfl) hq7) (v := .int .i64 b_0_0) (ld_fld (hC.bx (i := 0) rfl) Try.isAgg3 rfl rfl) ?_
    refine lex.gpure (want_t rfl rfl (show _ = Value.bool (decide (14 < (b_0_1.length : Int))) from rfl) hq7) (v := .bool (decide (5 < b_0_0))) (pu_gtr (k := .i64) (a := b_0_0) (b := 5) rfl rfl) ?_
    refine lex.gpure (want_t rfl rfl (show _ = Value.bool (decide (14 < (b_0_1.length : Int))) from rfl) hq7) (v := .bool (decide (5 < b_0_0))) (pu_move rfl) ?_
    rcases bS (decide (5 < b_0_0)) with hq8 | hq8
    · replace hb := (cT hq8).symm.trans hb
      refine lex.gpure (want_t rfl rfl (show _ = Value.bool (decide (5 < b_0_0)) from rfl) hq8) (v := .pointer (some ((⟨g3, 0, none⟩ : Addr).add 0))) (pu_field (sz := 1) Try.underlying24 rfl Try.sizeOf3 (by decide) rfl rfl) ?_
      refine lex.gval (want_t rfl rfl (show _ = Value.bool (decide (5 < b_0_0)) from rfl) hq8) (v := .int .i64 b_0_0) (ld_fld (hC.bx (i := 0) rfl) Try.isAgg3 rfl rfl) ?_
      refine lex.gpure (want_t rfl rfl (show _ = Value.bool (decide (5 < b_0_0)) from rfl) hq8) (v := .bool (decide (b_0_0 ≤ 10))) (pu_leq (k := .i64) (a := b_0_0) (b := 10) rfl rfl) ?_
      refine lex.gpure (want_t rfl rfl (show _ = Value.bool (decide (14 < (b_0_1.length : Int))) from rfl) hq7) (v := .bool (decide (b_0_0 ≤ 10))) (pu_pickT (q := (decide (5 < b_0_0))) rfl hq8 rfl) ?_
      refine lex.pure (v := .bool (decide (b_0_0 ≤ 10))) (pu_pickF (q := (decide (14 < (b_0_1.length : Int)))) rfl hq7 rfl) ?_
      refine lex.pure (v := .bool (decide (b_0_0 ≤ 10))) (pu_assign rfl) ?_
      refine lex.nil ?_
      refine hK6 _ _ ?_
      obtain rfl := Option.some.inj hb
      refine Wc.ret ?_
      refine hKR _ _ ?_
      refine ⟨_, res1 Try.results10 (show RV _ _ _ (.tmp _) (.bool (decide (b_0_0 ≤ 10))) from rfl), _, rfl, rfl, hC.sel [] (by decide)⟩
    · replace hb := (cF hq8).symm.trans hb
      refine lex.gskip (want_f rfl rfl (show _ = Value.bool (decide (5 < b_0_0)) from rfl) hq8) ?_
      refine lex.gskip (want_f rfl rfl (show _ = Value.bool (decide (5 < b_0_0)) from rfl) hq8) ?_
      refine lex.gskip (want_f rfl rfl (show _ = Value.bool (decide (5 < b_0_0)) from rfl) hq8) ?_
      refine lex.gpure (want_t rfl rfl (show _ = Value.bool (decide (14 < (b_0_1.length : Int))) from rfl) hq7) (v := .bool false) (pu_pickF (q := (decide (5 < b_0_0))) rfl hq8 rfl) ?_
      refine lex.pure (v := .bool false) (pu_pickF (q := (decide (14 < (b_0_1.length : Int)))) rfl hq7 rfl) ?_
      refine lex.pure (v := .bool false) (pu_assign rfl) ?_
      refine lex.nil ?_
      refine hK6 _ _ ?_
      obtain rfl := Option.some.inj hb
      refine Wc.ret ?_
      refine hKR _ _ ?_
      refine ⟨_, res1 Try.results10 (show RV _ _ _ (.tmp _) (.bool false) from rfl), _, rfl, rfl, hC.sel [] (by decide)⟩
end Go.Proofs.Ytlkmcbgkohpmiaa
