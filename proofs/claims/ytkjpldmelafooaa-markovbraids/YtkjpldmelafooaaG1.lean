/- The walks: part 1. -/
import Derived.Test.YtkjpldmelafooaaS
import Derived.Test.YtkjpldmelafooaaG0
set_option linter.unusedVariables false
set_option linter.unusedSimpArgs false
namespace Go.Proofs.Ytkjpldmelafooaa
open Ev
set_option maxRecDepth 100000 in
set_option maxHeartbeats 4000000 in
theorem markov_applicable_ok (n : Nat) {w : World} {O0 : List Nat} (hO : ∀ k ∈ O0, k < w.heap.size) {b_0_0 : Int} (hb_0_0 : I64 b_0_0) {Ab_0_1 : Option Addr} {mb_0_1 cb_0_1 : Nat} {b_0_1 : List Int} (hb_0_1 : Rep O0 w (.sl (.int .i64)) [.slice Ab_0_1 mb_0_1 cb_0_1] b_0_1) {s_1_0 : Int} (hs_1_0 : I64 s_1_0) {s_1_1 : Int} (hs_1_1 : I64 s_1_1) {s_1_2 : Int} (hs_1_2 : I64 s_1_2) {r : Bool} (hb : F.markov_applicable n b_0_0 b_0_1 s_1_0 s_1_1 s_1_2 = some r) :
    Calls Try.prog 32 #[.agg #[.int .i64 b_0_0, .slice Ab_0_1 mb_0_1 cb_0_1], .agg #[.int .i64 s_1_0, .int .i64 s_1_1, .int .i64 s_1_2]] w fun e w' => ∃ v, e = .returned v ∧ v = .bool r ∧ Cx (fun _ => False) O0 w w' [] := by
  unfold F.markov_applicable at hb
  have hC := Cx.start hO
  replace hC := hC.arg rfl hb_0_1
  clear hO
  obtain ⟨rfl, hlb_0_1, hcb_0_1⟩ := hb_0_1.sl_len
  refine calls_of_Wc Try.func32 rfl (by rw [Try.ntmps32]; exact Nat.le_of_ble_eq_true rfl) fun KR hKR => ?_
  refine Wc.seq fun K2 hK2 => ?_
  refine Wc.region (by decide +kernel) ?_
  refine lex.op (hC.box (cs := [.int .i64 b_0_0, .slice Ab_0_1 b_0_1.length cb_0_1]) rfl rfl) ?_
  rintro _ w4 ⟨g3, rfl, hC, hF, hG⟩
  clear hG
  refine lex.op (hC.box (cs := [.int .i64 s_1_0, .int .i64 s_1_1, .int .i64 s_1_2]) rfl rfl) ?_
  rintro _ w7 ⟨g6, rfl, hC, hF, hG⟩
  clear hG
  refine lex.pure (v := .bool false) (pu_assign rfl) ?_
  refine lex.nil ?_
  refine hK2 _ _ ?_
  refine Wc.seq fun K9 hK9 => ?_
  refine Wc.region (by decide +kernel) ?_
  refine lex.pure (v := .pointer (some ((⟨g3, 0, none⟩ : Addr).add 1))) (pu_field (sz := 1) Try.underlying27 rfl Try.sizeOf22 (by decide) rfl rfl) ?_
  refine lex.val (v := .slice Ab_0_1 b_0_1.length cb_0_1) (ld_fld (hC.bx (i := 1) rfl) Try.isAgg22 rfl rfl) ?_
  refine lex.pure (v := .int .i64 (b_0_1.length : Int)) (pu_len (A := Ab_0_1) (n := b_0_1.length) (m := cb_0_1) Try.underlying22 rfl) ?_
  refine lex.pure (v := .int .i64 (b_0_1.length : Int)) (pu_assign rfl) ?_
  refine lex.nil ?_
  refine hK9 _ _ ?_
  refine Wc.seq fun K10 hK10 => ?_
  refine Wc.seq fun K11 hK11 => ?_
  refine Wc.region (by decide +kernel) ?_
  refine lex.pure (v := .pointer (some ((⟨g6, 0, none⟩ : Addr).add 0))) (pu_field (sz := 1) Try.underlying28 rfl Try.sizeOf3 (by decide) rfl rfl) ?_
  refine lex.val (v := .int .i64 s_1_0) (ld_fld (hC.bx (i := 0) rfl) Try.isAgg3 rfl rfl) ?_
  refine lex.nil ?_
  refine hK11 _ _ ?_
  refine Wc.block ?_
  refine Wc.seq fun K12 hK12 => ?_
  refine Wc.region (by decide +kernel) ?_
  refine lex.pure (v := .bool (decide (s_1_0 = 1))) (pu_eql (k := .i64) (a := s_1_0) (b := 1) rfl rfl) ?_
  refine lex.pure (v := .bool (decide (s_1_0 = 1))) (pu_assign rfl) ?_
  refine lex.nil ?_
  refine hK12 _ _ ?_
  refine Wc.fresh fun E13 hE => ?_
  have e2 : E13 2 = .pointer (some ⟨g3, 0, none⟩) := (congrFun hE 2).trans rfl
  have e3 : E13 3 = .pointer (some ⟨g6, 0, none⟩) := (congrFun hE 3).trans rfl
  have e4 : E13 4 = .bool false := (congrFun hE 4).trans rfl
  have e5 : E13 5 = .int .i64 (b_0_1.length : Int) := (congrFun hE 5).trans rfl
  have e13 : E13 13 = .int .i64 s_1_0 := (congrFun hE 13).trans rfl
  have e14 : E13 14 = .bool (decide (s_1_0 = 1)) := (congrFun hE 14).trans rfl
  clear hE
  refine Wc.cond (t := (decide (s_1_0 = 1))) (e14) (fun hq14 => ?_) (fun hq14 => ?_)
  · replace hb := (cT hq14).symm.trans hb
    refine Wc.seq fun K15 hK15 => ?_
    refine Wc.regionMix [] (frm [] ([] : List Fact) ([] : List Fact)) (fun _ => rfl) mixed (by decide +kernel) (by decide +kernel) fun w17 hw16 => ?_
    replace hC := hC.step (Fr.of_drew hw16)
    have hM := Fr.refl (fun k => k ∈ blocks ([] : List Fact)) w17
    clear hw16
    have hS := hC
    refine mixE.pure (v := .pointer (some ((⟨g6, 0, none⟩ : Addr).add 2))) (pu_field (sz := 1) Try.underlying28 rfl Try.sizeOf3 (by decide) rfl e3) ?_
    refine mixE.load hM (v := .int .i64 s_1_2) (fun _ hF => ld_fld (hS.bx2 (i := 0) rfl [] (by decide) hF) Try.isAgg3 rfl rfl) ?_
    refine mixE.pure (v := .bool (decide (s_1_2 = 0))) (pu_eql (k := .i64) (a := s_1_2) (b := 0) rfl rfl) ?_
    refine mixE.pure (v := .bool (decide (s_1_2 = 0))) (pu_move rfl) ?_
    rcases bS (decide (s_1_2 = 0)) with hq18 | hq18
    · replace hb := (cT hq18).symm.trans hb
      refine mixE.gskip (want_f rfl rfl (show _ = Value.bool (decide (s_1_2 = 0)) from rfl) hq18) ?_
      refine mixE.gskip (want_f rfl rfl (show _ = Value.bool (decide (s_1_2 = 0)) from rfl) hq18) ?_
      refine mixE.gskip (want_f rfl rfl (show _ = Value.bool (decide (s_1_2 = 0)) from rfl) hq18) ?_
      refine mixE.gskip (want_n rfl rfl rfl) ?_
      refine mixE.gskip (want_n rfl rfl rfl) ?_
      refine mixE.gskip (want_n rfl rfl rfl) ?_
      refine mixE.gskip (want_n rfl rfl rfl) ?_
      refine mixE.gskip (want_n rfl rfl rfl) ?_
      refine mixE.gskip (want_n rfl rfl rfl) ?_
      refine mixE.gskip (want_n rfl rfl rfl) ?_
      refine mixE.gskip (want_n rfl rfl rfl) ?_
      refine mixE.gskip (want_f rfl rfl (show _ = Value.bool (decide (s_1_2 = 0)) from rfl) hq18) ?_
      refine mixE.gskip (want_f rfl rfl (show _ = Value.bool (decide (s_1_2 = 0)) from rfl) hq18) ?_
      refine mixE.gskip (want_n rfl rfl rfl) ?_
      refine mixE.gskip (want_n rfl rfl rfl) ?_
      refine mixE.gskip (want_n rfl rfl rfl) ?_
      refine mixE.gskip (want_n rfl rfl rfl) ?_
      refine mixE.gskip (want_n rfl rfl rfl) ?_
      refine mixE.gskip (want_n rfl rfl rfl) ?_
      refine mixE.gskip (want_n rfl rfl rfl) ?_
      refine mixE.gskip (want_n rfl rfl rfl) ?_
      refine mixE.gskip (want_n rfl rfl rfl) ?_
      refine mixE.gskip (want_f rfl rfl (show _ = Value.bool (decide (s_1_2 = 0)) from rfl) hq18) ?_
      refine mixE.pure (v := .bool true) (pu_pickT (q := (decide (s_1_2 = 0))) rfl hq18 rfl) ?_
      refine mixE.pure (v := .bool true) (pu_assign rfl) ?_
      refine mixE.nil ?_
      clear hS hM
      refine hK15 _ _ ?_
      obtain rfl := Option.some.inj hb
      refine Wc.ret ?_
      refine hKR _ _ ?_
      refine ⟨_, res1 Try.results32 (show RV _ _ _ (.tmp _) (.bool true) from rfl), _, rfl, rfl, hC.sel [] (by decide)⟩
    · replace hb := (cF hq18).symm.trans hb
      refine mixE.gpure rfl (want_t rfl rfl (show _ = Value.bool (decide (s_1_2 = 0)) from rfl) hq18) (v := .int .i64 (b_0_1.length : Int)) (pu_move e5) ?_
      refine mixE.gpure rfl (want_t rfl rfl (show _ = Value.bool (decide (s_1_2 = 0)) from rfl) hq18) (v := .bool (decide (2 ≤ (b_0_1.length : Int)))) (pu_geq (k := .i64) (a := (b_0_1.length : Int)) (b := 2) rfl rfl) ?_
      refine mixE.gpure rfl (want_t rfl rfl (show _ = Value.bool (decide (s_1_2 = 0)) from rfl) hq18) (v := .bool (decide (2 ≤ (b_0_1.length : Int)))) (pu_move rfl) ?_
      rcases bS (decide (2 ≤ (b_0_1.length : Int))) with hq19 | hq19
      · replace hb := (cT hq19).symm.trans hb
        refine mixE.gpure rfl (want_t rfl rfl (show _ = Value.bool (decide (2 ≤ (b_0_1.length : Int))) from rfl) hq19) (v := .pointer (some ((⟨g3, 0, none⟩ : Addr).add 1))) (pu_field (sz := 1) Try.underlying27 rfl Try.sizeOf22 (by decide) rfl e2) ?_
        refine mixE.gload rfl (want_t rfl rfl (show _ = Value.bool (decide (2 ≤ (b_0_1.length : Int))) from rfl) hq19) hM (v := .slice Ab_0_1 b_0_1.length cb_0_1) (fun _ hF => ld_fld (hS.bx2 (i := 1) rfl [] (by decide) hF) Try.isAgg22 rfl rfl) ?_
        obtain ⟨x20, h21, hb⟩ := bd hb
        obtain ⟨ad22, cs23, hA, ho26, hc24, hr25⟩ := hS.elr2 (i := 2) rfl (get_some h21).2 []
        subst hA
        refine mixE.gpure rfl (want_t rfl rfl (show _ = Value.bool (decide (2 ≤ (b_0_1.length : Int))) from rfl) hq19) (v := .pointer (some (ad22.add ((0 : Int).toNat * 1)))) (pu_index (a := 0) Try.underlying22 Try.sizeOf3 rfl rfl (get_some h21).1) ?_
        obtain ⟨rfl, hr25'⟩ := hr25
        refine mixE.gload rfl (want_t rfl rfl (show _ = Value.bool (decide (2 ≤ (b_0_1.length : Int))) from rfl) hq19) hM (v := .int .i64 x20) (fun _ hF => ld_one Try.isAgg3 rfl (hF.cell (hc24 0 _ rfl) (off1 ho26))) ?_
        refine mixE.gpure rfl (want_t rfl rfl (show _ = Value.bool (decide (2 ≤ (b_0_1.length : Int))) from rfl) hq19) (v := .pointer (some ((⟨g6, 0, none⟩ : Addr).add 1))) (pu_field (sz := 1) Try.underlying28 rfl Try.sizeOf3 (by decide) rfl e3) ?_
        refine mixE.gload rfl (want_t rfl rfl (show _ = Value.bool (decide (2 ≤ (b_0_1.length : Int))) from rfl) hq19) hM (v := .int .i64 s_1_1) (fun _ hF => ld_fld (hS.bx2 (i := 0) rfl [] (by decide) hF) Try.isAgg3 rfl rfl) ?_
        obtain ⟨z27, h28, hb⟩ := bd hb
        refine mixE.gpure rfl (want_t rfl rfl (show _ = Value.bool (decide (2 ≤ (b_0_1.length : Int))) from rfl) hq19) (v := .int .i64 z27) (pu_negc (a := s_1_1) rfl h28) ?_
        refine mixE.gpure rfl (want_t rfl rfl (show _ = Value.bool (decide (2 ≤ (b_0_1.length : Int))) from rfl) hq19) (v := .bool (decide (x20 = z27))) (pu_eql (k := .i64) (a := x20) (b := z27) rfl rfl) ?_
        refine mixE.gpure rfl (want_t rfl rfl (show _ = Value.bool (decide (s_1_2 = 0)) from rfl) hq18) (v := .bool (decide (x20 = z27))) (pu_pickT (q := (decide (2 ≤ (b_0_1.length : Int)))) rfl hq19 rfl) ?_
        refine mixE.gpure rfl (want_t rfl rfl (show _ = Value.bool (decide (s_1_2 = 0)) from rfl) hq18) (v := .bool (decide (x20 = z27))) (pu_move rfl) ?_
        rcases bS (decide (x20 = z27)) with hq29 | hq29
        · replace hb := (cT hq29).symm.trans hb
          refine mixE.gpure rfl (want_t rfl rfl (show _ = Value.bool (decide (x20 = z27)) from rfl) hq29) (v := .pointer (some ((⟨g3, 0, none⟩ : Addr).add 1))) (pu_field (sz := 1) Try.underlying27 rfl Try.sizeOf22 (by decide) rfl e2) ?_
          refine mixE.gload rfl (want_t rfl rfl (show _ = Value.bool (decide (x20 = z27)) from rfl) hq29) hM (v := .slice (some ad22) b_0_1.length cb_0_1) (fun _ hF => ld_fld (hS.bx2 (i := 1) rfl [] (by decide) hF) Try.isAgg22 rfl rfl) ?_
          refine mixE.gpure rfl (want_t rfl rfl (show _ = Value.bool (decide (x20 = z27)) from rfl) hq29) (v := .int .i64 (b_0_1.length : Int)) (pu_move e5) ?_
          obtain ⟨z30, h31, hb⟩ := bd hb
          refine mixE.gpure rfl (want_t rfl rfl (show _ = Value.bool (decide (x20 = z27)) from rfl) hq29) (v := .int .i64 z30) (pu_subc (a := (b_0_1.length : Int)) (b := 1) rfl rfl h31) ?_
          obtain ⟨x32, h33, hb⟩ := bd hb
          obtain ⟨ad34, cs35, hA, ho38, hc36, hr37⟩ := hS.elr2 (i := 2) rfl (get_some h33).2 []
          obtain rfl := Option.some.inj hA
          refine mixE.gpure rfl (want_t rfl rfl (show _ = Value.bool (decide (x20 = z27)) from rfl) hq29) (v := .pointer (some (ad22.add (z30.toNat * 1)))) (pu_index (a := z30) Try.underlying22 Try.sizeOf3 rfl rfl (get_some h33).1) ?_
          obtain ⟨rfl, hr37'⟩ := hr37
          refine mixE.gload rfl (want_t rfl rfl (show _ = Value.bool (decide (x20 = z27)) from rfl) hq29) hM (v := .int .i64 x32) (fun _ hF => ld_one Try.isAgg3 rfl (hF.cell (hc36 0 _ rfl) (off1 ho38))) ?_
          refine mixE.gpure rfl (want_t rfl rfl (show _ = Value.bool (decide (x20 = z27)) from rfl) hq29) (v := .pointer (some ((⟨g6, 0, none⟩ : Addr).add 1))) (pu_field (sz := 1) Try.underlying28 rfl Try.sizeOf3 (by decide) rfl e3) ?_
          refine mixE.gload rfl (want_t rfl rfl (show _ = Value.bool (decide (x20 = z27)) from rfl) hq29) hM (v := .int .i64 s_1_1) (fun _ hF => ld_fld (hS.bx2 (i := 0) rfl [] (by decide) hF) Try.isAgg3 rfl rfl) ?_
          refine mixE.gpure rfl (want_t rfl rfl (show _ = Value.bool (decide (x20 = z27)) from rfl) hq29) (v := .bool (decide (x32 = s_1_1))) (pu_eql (k := .i64) (a := x32) (b := s_1_1) rfl rfl) ?_
          refine mixE.gpure rfl (want_t rfl rfl (show _ = Value.bool (decide (s_1_2 = 0)) from rfl) hq18) (v := .bool (decide (x32 = s_1_1))) (pu_pickT (q := (decide (x20 = z27))) rfl hq29 rfl) ?_
          refine mixE.pure (v := .bool (decide (x32 = s_1_1))) (pu_pickF (q := (decide (s_1_2 = 0))) rfl hq18 rfl) ?_
          refine mixE.pure (v := .bool (decide (x32 = s_1_1))) (pu_assign rfl) ?_
          refine mixE.nil ?_
          clear hS hM
          refine hK15 _ _ ?_
          obtain rfl := Option.some.inj hb
          refine Wc.ret ?_
          refine hKR _ _ ?_
          refine ⟨_, res1 Try.results32 (show RV _ _ _ (.tmp _) (.bool (decide (x32 = s_1_1))) from rfl), _, rfl, rfl, hC.sel [] (by decide)⟩
        · replace hb := (cF hq29).symm.trans hb
          refine mixE.gskip (want_f rfl rfl (show _ = Value.bool (decide (x20 = z27)) from rfl) hq29) ?_
          refine mixE.gskip (want_f rfl rfl (show _ = Value.bool (decide (x20 = z27)) from rfl) hq29) ?_
          refine mixE.gskip (want_f rfl rfl (show _ = Value.bool (decide (x20 = z27)) from rfl) hq29) ?_
          refine mixE.gskip (want_f rfl rfl (show _ = Value.bool (decide (x20 = z27)) from rfl) hq29) ?_
          refine mixE.gskip (want_f rfl rfl (show _ = Value.bool (decide (x20 = z27)) from rfl) hq29) ?_
          refine mixE.gskip (want_f rfl rfl (show _ = Value.bool (decide (x20 = z27)) from rfl) hq29) ?_
          refine mixE.gskip (want_f rfl rfl (show _ = Value.bool (decide (x20 = z27)) from rfl) hq29) ?_
          refine mixE.gskip (want_f rfl rfl (show _ = Value.bool (decide (x20 = z27)) from rfl) hq29) ?_
          refine mixE.gskip (want_f rfl rfl (show _ = Value.bool (decide (x20 = z27)) from rfl) hq29) ?_
          refine mixE.gpure rfl (want_t rfl rfl (show _ = Value.bool (decide (s_1_2 = 0)) from rfl) hq18) (v := .bool false) (pu_pickF (q := (decide (x20 = z27))) rfl hq29 rfl) ?_
          refine mixE.pure (v := .bool false) (pu_pickF (q := (decide (s_1_2 = 0))) rfl hq18 rfl) ?_
          refine mixE.pure (v := .bool false) (pu_assign rfl) ?_
          refine mixE.nil ?_
          clear hS hM
          refine hK15 _ _ ?_
          obtain rfl := Option.some.inj hb
          refine Wc.ret ?_
          refine hKR _ _ ?_
          refine ⟨_, res1 Try.results32 (show RV _ _ _ (.tmp _) (.bool false) from rfl), _, rfl, rfl, hC.sel [] (by decide)⟩
      · replace hb := (cF hq19).symm.trans hb
        refine mixE.gskip (want_f rfl rfl (show _ = Value.bool (decide (2 ≤ (b_0_1.length : Int))) from rfl) hq19) ?_
        refine mixE.gskip (want_f rfl rfl (show _ = Value.bool (decide (2 ≤ (b_0_1.length : Int))) from rfl) hq19) ?_
        refine mixE.gskip (want_f rfl rfl (show _ = Value.bool (decide (2 ≤ (b_0_1.length : Int))) from rfl) hq19) ?_
        refine mixE.gskip (want_f rfl rfl (show _ = Value.bool (decide (2 ≤ (b_0_1.length : Int))) from rfl) hq19) ?_
        refine mixE.gskip (want_f rfl rfl (show _ = Value.bool (decide (2 ≤ (b_0_1.length : Int))) from rfl) hq19) ?_
        refine mixE.gskip (want_f rfl rfl (show _ = Value.bool (decide (2 ≤ (b_0_1.length : Int))) from rfl) hq19) ?_
        refine mixE.gskip (want_f rfl rfl (show _ = Value.bool (decide (2 ≤ (b_0_1.length : Int))) from rfl) hq19) ?_
        refine mixE.gskip (want_f rfl rfl (show _ = Value.bool (decide (2 ≤ (b_0_1.length : Int))) from rfl) hq19) ?_
        refine mixE.gpure rfl (want_t rfl rfl (show _ = Value.bool (decide (s_1_2 = 0)) from rfl) hq18) (v := .bool false) (pu_pickF (q := (decide (2 ≤ (b_0_1.length : Int)))) rfl hq19 rfl) ?_
        refine mixE.gpure rfl (want_t rfl rfl (show _ = Value.bool (decide (s_1_2 = 0)) from rfl) hq18) (v := .bool false) (pu_move rfl) ?_
        refine mixE.gskip (want_f rfl rfl (show _ = Value.bool false from rfl) rfl) ?_
        refine mixE.gskip (want_f rfl rfl (show _ = Value.bool false from rfl) rfl) ?_
        refine mixE.gskip (want_f rfl rfl (show _ = Value.bool false from rfl) rfl) ?_
        refine mixE.gskip (want_f rfl rfl (show _ = Value.bool false from rfl) rfl) ?_
        refine mixE.gskip (want_f rfl rfl (show _ = Value.bool false from rfl) rfl) ?_
        refine mixE.gskip (want_f rfl rfl (show _ = Value.bool false from rfl) rfl) ?_
        refine mixE.gskip (want_f rfl rfl (show _ = Value.bool false from rfl) rfl) ?_
        refine mixE.gskip (want_f rfl rfl (show _ = Value.bool false from rfl) rfl) ?_
        refine mixE.gskip (want_f rfl rfl (show _ = Value.bool false from rfl) rfl) ?_
        refine mixE.gpure rfl (want_t rfl rfl (show _ = Value.bool (decide (s_1_2 = 0)) from rfl) hq18) (v := .bool false) (pu_pickF (q := false) rfl rfl rfl) ?_
        refine mixE.pure (v := .bool false) (pu_pickF (q := (decide (s_1_2 = 0))) rfl hq18 rfl) ?_
        refine mixE.pure (v := .bool false) (pu_assign rfl) ?_
        refine mixE.nil ?_
        clear hS hM
        refine hK15 _ _ ?_
        obtain rfl := Option.some.inj hb
        refine Wc.ret ?_
        refine hKR _ _ ?_
        refine ⟨_, res1 Try.results32 (show RV _ _ _ (.tmp _) (.bool false) from rfl), _, rfl, rfl, hC.sel [] (by decide)⟩
  · replace hb := (cF hq14).symm.trans hb
    refine Wc.seq fun K39 hK39 => ?_
    refine Wc.region (by decide +kernel) ?_
    refine lex.pure (v := .bool (decide (s_1_0 = 3))) (pu_eql (k := .i64) (a := s_1_0) (b := 3) e13 rfl) ?_
    refine lex.pure (v := .bool (decide (s_1_0 = 3))) (pu_assign rfl) ?_
    refine lex.nil ?_
    refine hK39 _ _ ?_
    refine Wc.cond (t := (decide (s_1_0 = 3))) (rfl) (fun hq40 => ?_) (fun hq40 => ?_)
    · replace hb := (cT hq40).symm.trans hb
      refine Wc.seq fun K41 hK41 => ?_
      refine Wc.region (by decide +kernel) ?_
      refine lex.pure (v := .func (.func 55) #[] #[.pointer (some ⟨g3, 0, none⟩)]) (pu_funcc (map_of (m2_cons e2 m2_nil))) ?_
      refine lex.pure (v := .func (.func 55) #[] #[.pointer (some ⟨g3, 0, none⟩)]) (pu_assign rfl) ?_
      refine lex.nil ?_
      refine hK41 _ _ ?_
      refine Wc.seq fun K42 hK42 => ?_
      refine Wc.region (by decide +kernel) ?_
      refine lex.pure (v := .pointer (some ((⟨g3, 0, none⟩ : Addr).add 0))) (pu_field (sz := 1) Try.underlying27 rfl Try.sizeOf3 (by decide) rfl e2) ?_
      refine lex.val (v := .int .i64 b_0_0) (ld_fld (hC.bx (i := 1) rfl) Try.isAgg3 rfl rfl) ?_
      refine lex.pure (v := .bool (decide (2 ≤ b_0_0))) (pu_geq (k := .i64) (a := b_0_0) (b := 2) rfl rfl) ?_
      refine lex.pure (v := .bool (decide (2 ≤ b_0_0))) (pu_move rfl) ?_
      rcases bS (decide (2 ≤ b_0_0)) with hq43 | hq43
      · replace hb := (cT hq43).symm.trans hb
        refine lex.gpure (want_t rfl rfl (show _ = Value.bool (decide (2 ≤ b_0_0)) from rfl) hq43) (v := .int .i64 (b_0_1.length : Int)) (pu_move e5) ?_
        refine lex.gpure (want_t rfl rfl (show _ = Value.bool (decide (2 ≤ b_0_0)) from rfl) hq43) (v := .bool (decide (1 ≤ (b_0_1.length : Int)))) (pu_geq (k := .i64) (a := (b_0_1.length : Int)) (b := 1) rfl rfl) ?_
        refine lex.pure (v := .bool (decide (1 ≤ (b_0_1.length : Int)))) (pu_pickT (q := (decide (2 ≤ b_0_0))) rfl hq43 rfl) ?_
        refine lex.pure (v := .bool (decide (1 ≤ (b_0_1.length : Int)))) (pu_move rfl) ?_
        rcases bS (decide (1 ≤ (b_0_1.length : Int))) with hq44 | hq44
        · replace hb := (cT hq44).symm.trans hb
          refine lex.gpure (want_t rfl rfl (show _ = Value.bool (decide (1 ≤ (b_0_1.length : Int))) from rfl) hq44) (v := .pointer (some ((⟨g3, 0, none⟩ : Addr).add 1))) (pu_field (sz := 1) Try.underlying27 rfl Try.sizeOf22 (by decide) rfl e2) ?_
          refine lex.gval (want_t rfl rfl (show _ = Value.bool (decide (1 ≤ (b_0_1.length : Int))) from rfl) hq44) (v := .slice Ab_0_1 b_0_1.length cb_0_1) (ld_fld (hC.bx (i := 1) rfl) Try.isAgg22 rfl rfl) ?_
          refine lex.gpure (want_t rfl rfl (show _ = Value.bool (decide (1 ≤ (b_0_1.length : Int))) from rfl) hq44) (v := .func (.func 55) #[] #[.pointer (some ⟨g3, 0, none⟩)]) (pu_move rfl) ?_
          replace hC : Cx (fun _ => False) O0 w w7 ([.box g3 27 [.int .i64 b_0_0, .slice Ab_0_1 b_0_1.length cb_0_1]] ++ [.box g6 28 [.int .i64 s_1_0, .int .i64 s_1_1, .int .i64 s_1_2], .ro (.sl (.int .i64)) [.slice Ab_0_1 b_0_1.length cb_0_1] b_0_1]) := hC.sel [1, 0, 2] (by decide)
          obtain ⟨y45, h46, hb⟩ := bd hb
          refine lex.gcl (want_t rfl rfl (show _ = Value.bool (decide (1 ≤ (b_0_1.length : Int))) from rfl) hq44) (⟨_, _, op_call (vs := [.slice Ab_0_1 b_0_1.length cb_0_1, .func (.func 55) #[] #[.pointer (some ⟨g3, 0, none⟩)]]) Try.call57 rfl rfl rfl, slices_IndexFunc_Lint_int_markov_applicable_c1_ok n hC.lt (hC.rd (i := 2) rfl) hb_0_0 (hC.rd (i := 2) rfl) hC.give h46⟩) ?_
          rintro _ w48 ⟨rfl, hr47, hK⟩
          replace hC := hC.back hK
          clear hK
          refine lex.gpure (want_t rfl rfl (show _ = Value.bool (decide (1 ≤ (b_0_1.length : Int))) from rfl) hq44) (v := .int .i64 (b_0_1.length : Int)) (pu_move e5) ?_
          obtain ⟨z49, h50, hb⟩ := bd hb
          refine lex.gpure (want_t rfl rfl (show _ = Value.bool (decide (1 ≤ (b_0_1.length : Int))) from rfl) hq44) (v := .int .i64 z49) (pu_subc (a := (b_0_1.length : Int)) (b := 1) rfl rfl h50) ?_
          refine lex.gpure (want_t rfl rfl (show _ = Value.bool (decide (1 ≤ (b_0_1.length : Int))) from rfl) hq44) (v := .bool (decide (y45 = z49))) (pu_eql (k := .i64) (a := y45) (b := z49) rfl rfl) ?_
          refine lex.pure (v := .bool (decide (y45 = z49))) (pu_pickT (q := (decide (1 ≤ (b_0_1.length : Int)))) rfl hq44 rfl) ?_
          refine lex.pure (v := .bool (decide (y45 = z49))) (pu_assign rfl) ?_
          refine lex.nil ?_
          refine hK42 _ _ ?_
          obtain rfl := Option.some.inj hb
          refine Wc.ret ?_
          refine hKR _ _ ?_
          refine ⟨_, res1 Try.results32 (show RV _ _ _ (.tmp _) (.bool (decide (y45 = z49))) from rfl), _, rfl, rfl, hC.sel [] (by decide)⟩
        · replace hb := (cF hq44).symm.trans hb
          refine lex.gskip (want_f rfl rfl (show _ = Value.bool (decide (1 ≤ (b_0_1.length : Int))) from rfl) hq44) ?_
          refine lex.gskip (want_f rfl rfl (show _ = Value.bool (decide (1 ≤ (b_0_1.length : Int))) from rfl) hq44) ?_
          refine lex.gskip (want_f rfl rfl (show _ = Value.bool (decide (1 ≤ (b_0_1.length : Int))) from rfl) hq44) ?_
          refine lex.gskip (want_f rfl rfl (show _ = Value.bool (decide (1 ≤ (b_0_1.length : Int))) from rfl) hq44) ?_
          refine lex.gskip (want_f rfl rfl (show _ = Value.bool (decide (1 ≤ (b_0_1.length : Int))) from rfl) hq44) ?_
          refine lex.gskip (want_f rfl rfl (show _ = Value.bool (decide (1 ≤ (b_0_1.length : Int))) from rfl) hq44) ?_
          refine lex.gskip (want_f rfl rfl (show _ = Value.bool (decide (1 ≤ (b_0_1.length : Int))) from rfl) hq44) ?_
          refine lex.pure (v := .bool false) (pu_pickF (q := (decide (1 ≤ (b_0_1.length : Int)))) rfl hq44 rfl) ?_
          refine lex.pure (v := .bool false) (pu_assign rfl) ?_
          refine lex.nil ?_
          refine hK42 _ _ ?_
          obtain rfl := Option.some.inj hb
          refine Wc.ret ?_
          refine hKR _ _ ?_
          refine ⟨_, res1 Try.results32 (show RV _ _ _ (.tmp _) (.bool false) from rfl), _, rfl, rfl, hC.sel [] (by decide)⟩
      · replace hb := (cF hq43).symm.trans hb
        refine lex.gskip (want_f rfl rfl (show _ = Value.bool (decide (2 ≤ b_0_0)) from rfl) hq43) ?_
        refine lex.gskip (want_f rfl rfl (show _ = Value.bool (decide (2 ≤ b_0_0)) from rfl) hq43) ?_
        refine lex.pure (v := .bool false) (pu_pickF (q := (decide (2 ≤ b_0_0))) rfl hq43 rfl) ?_
        refine lex.pure (v := .bool false) (pu_move rfl) ?_
        refine lex.gskip (want_f rfl rfl (show _ = Value.bool false from rfl) rfl) ?_
        refine lex.gskip (want_f rfl rfl (show _ = Value.bool false from rfl) rfl) ?_
        refine lex.gskip (want_f rfl rfl (show _ = Value.bool false from rfl) rfl) ?_
        refine lex.gskip (want_f rfl rfl (show _ = Value.bool false from rfl) rfl) ?_
        refine lex.gskip (want_f rfl rfl (show _ = Value.bool false from rfl) rfl) ?_
        refine lex.gskip (want_f rfl rfl (show _ = Value.bool false from rfl) rfl) ?_
        refine lex.gskip (want_f rfl rfl (show _ = Value.bool false from rfl) rfl) ?_
        refine lex.pure (v := .bool false) (pu_pickF (q := false) rfl rfl rfl) ?_
        refine lex.pure (v := .bool false) (pu_assign rfl) ?_
        refine lex.nil ?_
        refine hK42 _ _ ?_
        obtain rfl := Option.some.inj hb
        refine Wc.ret ?_
        refine hKR _ _ ?_
        refine ⟨_, res1 Try.results32 (show RV _ _ _ (.tmp _) (.bool false) from rfl), _, rfl, rfl, hC.sel [] (by decide)⟩
    · replace hb := (cF hq40).symm.trans hb
      refine Wc.seq fun K51 hK51 => ?_
      refine Wc.region (by decide +kernel) ?_
      refine lex.pure (v := .bool (decide (s_1_0 = 4))) (pu_eql (k := .i64) (a := s_1_0) (b := 4) e13 rfl) ?_
      refine lex.pure (v := .bool (decide (s_1_0 = 4))) (pu_assign rfl) ?_
      refine lex.nil ?_
      refine hK51 _ _ ?_
      refine Wc.cond (t := (decide (s_1_0 = 4))) (rfl) (fun hq52 => ?_) (fun hq52 => ?_)
      · replace hb := (cT hq52).symm.trans hb
        refine Wc.seq fun K53 hK53 => ?_
        refine Wc.regionMix [] (frm [] ([] : List Fact) ([] : List Fact)) (fun _ => rfl) mixed (by decide +kernel) (by decide +kernel) fun w55 hw54 => ?_
        replace hC := hC.step (Fr.of_drew hw54)
        have hM := Fr.refl (fun k => k ∈ blocks ([] : List Fact)) w55
        clear hw54
        have hS := hC
        refine mixE.pure (v := .pointer (some ((⟨g6, 0, none⟩ : Addr).add 2))) (pu_field (sz := 1) Try.underlying28 rfl Try.sizeOf3 (by decide) rfl e3) ?_
        refine mixE.load hM (v := .int .i64 s_1_2) (fun _ hF => ld_fld (hS.bx2 (i := 0) rfl [] (by decide) hF) Try.isAgg3 rfl rfl) ?_
        obtain ⟨z56, h57, hb⟩ := bd hb
        refine mixE.pure (v := .int .i64 z56) (pu_addc (a := s_1_2) (b := 1) rfl rfl h57) ?_
        refine mixE.pure (v := .int .i64 (b_0_1.length : Int)) (pu_move e5) ?_
        refine mixE.pure (v := .bool (decide (z56 < (b_0_1.length : Int)))) (pu_lss (k := .i64) (a := z56) (b := (b_0_1.length : Int)) rfl rfl) ?_
        refine mixE.pure (v := .bool (decide (z56 < (b_0_1.length : Int)))) (pu_move rfl) ?_
        rcases bS (decide (z56 < (b_0_1.length : Int))) with hq58 | hq58
        · replace hb := (cT hq58).symm.trans hb
          refine mixE.gpure rfl (want_t rfl rfl (show _ = Value.bool (decide (z56 < (b_0_1.length : Int))) from rfl) hq58) (v := .pointer (some ((⟨g3, 0, none⟩ : Addr).add 1))) (pu_field (sz := 1) Try.underlying27 rfl Try.sizeOf22 (by decide) rfl e2) ?_
          refine mixE.gload rfl (want_t rfl rfl (show _ = Value.bool (decide (z56 < (b_0_1.length : Int))) from rfl) hq58) hM (v := .slice Ab_0_1 b_0_1.length cb_0_1) (fun _ hF => ld_fld (hS.bx2 (i := 1) rfl [] (by decide) hF) Try.isAgg22 rfl rfl) ?_
          refine mixE.gpure rfl (want_t rfl rfl (show _ = Value.bool (decide (z56 < (b_0_1.length : Int))) from rfl) hq58) (v := .pointer (some ((⟨g6, 0, none⟩ : Addr).add 2))) (pu_field (sz := 1) Try.underlying28 rfl Try.sizeOf3 (by decide) rfl e3) ?_
          refine mixE.gload rfl (want_t rfl rfl (show _ = Value.bool (decide (z56 < (b_0_1.length : Int))) from rfl) hq58) hM (v := .int .i64 s_1_2) (fun _ hF => ld_fld (hS.bx2 (i := 0) rfl [] (by decide) hF) Try.isAgg3 rfl rfl) ?_
          obtain ⟨x59, h60, hb⟩ := bd hb
          obtain ⟨ad61, cs62, hA, ho65, hc63, hr64⟩ := hS.elr2 (i := 2) rfl (get_some h60).2 []
          subst hA
          refine mixE.gpure rfl (want_t rfl rfl (show _ = Value.bool (decide (z56 < (b_0_1.length : Int))) from rfl) hq58) (v := .pointer (some (ad61.add (s_1_2.toNat * 1)))) (pu_index (a := s_1_2) Try.underlying22 Try.sizeOf3 rfl rfl (get_some h60).1) ?_
          obtain ⟨rfl, hr64'⟩ := hr64
          refine mixE.gload rfl (want_t rfl rfl (show _ = Value.bool (decide (z56 < (b_0_1.length : Int))) from rfl) hq58) hM (v := .int .i64 x59) (fun _ hF => ld_one Try.isAgg3 rfl (hF.cell (hc63 0 _ rfl) (off1 ho65))) ?_
          obtain ⟨y66, h67, hb⟩ := bd hb
          refine mixE.gcl rfl (want_t rfl rfl (show _ = Value.bool (decide (z56 < (b_0_1.length : Int))) from rfl) hq58) hM (⟨_, _, op_call (vs := [.int .i64 x59]) Try.call56 rfl rfl rfl, markov_size_ok n hC.lt (wrap_I64 hr64') h67⟩) ?_
          rintro _ w69 ⟨rfl, hr68, hK⟩
          replace hM := hM.none hK.fr
          refine ⟨hM, ?_⟩
          replace hC := hC.merge hK
          clear hK
          refine mixE.gpure rfl (want_t rfl rfl (show _ = Value.bool (decide (z56 < (b_0_1.length : Int))) from rfl) hq58) (v := .pointer (some ((⟨g3, 0, none⟩ : Addr).add 1))) (pu_field (sz := 1) Try.underlying27 rfl Try.sizeOf22 (by decide) rfl e2) ?_
          refine mixE.gload rfl (want_t rfl rfl (show _ = Value.bool (decide (z56 < (b_0_1.length : Int))) from rfl) hq58) hM (v := .slice (some ad61) b_0_1.length cb_0_1) (fun _ hF => ld_fld (hS.bx2 (i := 1) rfl [] (by decide) hF) Try.isAgg22 rfl rfl) ?_
          refine mixE.gpure rfl (want_t rfl rfl (show _ = Value.bool (decide (z56 < (b_0_1.length : Int))) from rfl) hq58) (v := .pointer (some ((⟨g6, 0, none⟩ : Addr).add 2))) (pu_field (sz := 1) Try.underlying28 rfl Try.sizeOf3 (by decide) rfl e3) ?_
          refine mixE.gload rfl (want_t rfl rfl (show _ = Value.bool (decide (z56 < (b_0_1.length : Int))) from rfl) hq58) hM (v := .int .i64 s_1_2) (fun _ hF => ld_fld (hS.bx2 (i := 0) rfl [] (by decide) hF) Try.isAgg3 rfl rfl) ?_
          obtain ⟨z70, h71, hb⟩ := bd hb
          refine mixE.gpure rfl (want_t rfl rfl (show _ = Value.bool (decide (z56 < (b_0_1.length : Int))) from rfl) hq58) (v := .int .i64 z70) (pu_addc (a := s_1_2) (b := 1) rfl rfl h71) ?_
          obtain ⟨x72, h73, hb⟩ := bd hb
          obtain ⟨ad74, cs75, hA, ho78, hc76, hr77⟩ := hS.elr2 (i := 2) rfl (get_some h73).2 []
          obtain rfl := Option.some.inj hA
          refine mixE.gpure rfl (want_t rfl rfl (show _ = Value.bool (decide (z56 < (b_0_1.length : Int))) from rfl) hq58) (v := .pointer (some (ad61.add (z70.toNat * 1)))) (pu_index (a := z70) Try.underlying22 Try.sizeOf3 rfl rfl (get_some h73).1) ?_
          obtain ⟨rfl, hr77'⟩ := hr77
          refine mixE.gload rfl (want_t rfl rfl (show _ = Value.bool (decide (z56 < (b_0_1.length : Int))) from rfl) hq58) hM (v := .int .i64 x72) (fun _ hF => ld_one Try.isAgg3 rfl (hF.cell (hc76 0 _ rfl) (off1 ho78))) ?_
          obtain ⟨y79, h80, hb⟩ := bd hb
          refine mixE.gcl rfl (want_t rfl rfl (show _ = Value.bool (decide (z56 < (b_0_1.length : Int))) from rfl) hq58) hM (⟨_, _, op_call (vs := [.int .i64 x72]) Try.call56 rfl rfl rfl, markov_size_ok n hC.lt (wrap_I64 hr77') h80⟩) ?_
          rintro _ w82 ⟨rfl, hr81, hK⟩
          replace hM := hM.none hK.fr
          refine ⟨hM, ?_⟩
          replace hC := hC.merge hK
          clear hK
          obtain ⟨z83, h84, hb⟩ := bd hb
          refine mixE.gpure rfl (want_t rfl rfl (show _ = Value.bool (decide (z56 < (b_0_1.length : Int))) from rfl) hq58) (v := .int .i64 z83) (pu_subc (a := y66) (b := y79) rfl rfl h84) ?_
          obtain ⟨y85, h86, hb⟩ := bd hb
          refine mixE.gcl rfl (want_t rfl rfl (show _ = Value.bool (decide (z56 < (b_0_1.length : Int))) from rfl) hq58) hM (⟨_, _, op_call (vs := [.int .i64 z83]) Try.call56 rfl rfl rfl, markov_size_ok n hC.lt (chk_rng h84) h86⟩) ?_
          rintro _ w88 ⟨rfl, hr87, hK⟩
          replace hM := hM.none hK.fr
          refine ⟨hM, ?_⟩
          replace hC := hC.merge hK
          clear hK
          refine mixE.gpure rfl (want_t rfl rfl (show _ = Value.bool (decide (z56 < (b_0_1.length : Int))) from rfl) hq58) (v := .bool (decide (2 ≤ y85))) (pu_geq (k := .i64) (a := y85) (b := 2) rfl rfl) ?_
          refine mixE.pure (v := .bool (decide (2 ≤ y85))) (pu_pickT (q := (decide (z56 < (b_0_1.length : Int)))) rfl hq58 rfl) ?_
          refine mixE.pure (v := .bool (decide (2 ≤ y85))) (pu_assign rfl) ?_
          refine mixE.nil ?_
          clear hS hM
          refine hK53 _ _ ?_
          obtain rfl := Option.some.inj hb
          refine Wc.ret ?_
          refine hKR _ _ ?_
          refine ⟨_, res1 Try.results32 (show RV _ _ _ (.tmp _) (.bool (decide (2 ≤ y85))) from rfl), _, rfl, rfl, hC.sel [] (by decide)⟩
        · replace hb := (cF hq58).symm.trans hb
          refine mixE.gskip (want_f rfl rfl (show _ = Value.bool (decide (z56 < (b_0_1.length : Int))) from rfl) hq58) ?_
          refine mixE.gskip (want_f rfl rfl (show _ = Value.bool (decide (z56 < (b_0_1.length : Int))) from rfl) hq58) ?_
          refine mixE.gskip (want_f rfl rfl (show _ = Value.bool (decide (z56 < (b_0_1.length : Int))) from rfl) hq58) ?_
          refine mixE.gskip (want_f rfl rfl (show _ = Value.bool (decide (z56 < (b_0_1.length : Int))) from rfl) hq58) ?_
          refine mixE.gskip (want_f rfl rfl (show _ = Value.bool (decide (z56 < (b_0_1.length : Int))) from rfl) hq58) ?_
          refine mixE.gskip (want_f rfl rfl (show _ = Value.bool (decide (z56 < (b_0_1.length : Int))) from rfl) hq58) ?_
          refine mixE.gskip (want_f rfl rfl (show _ = Value.bool (decide (z56 < (b_0_1.length : Int))) from rfl) hq58) ?_
          refine mixE.gskip (want_f rfl rfl (show _ = Value.bool (decide (z56 < (b_0_1.length : Int))) from rfl) hq58) ?_
          refine mixE.gskip (want_f rfl rfl (show _ = Value.bool (decide (z56 < (b_0_1.length : Int))) from rfl) hq58) ?_
          refine mixE.gskip (want_f rfl rfl (show _ = Value.bool (decide (z56 < (b_0_1.length : Int))) from rfl) hq58) ?_
          refine mixE.gskip (want_f rfl rfl (show _ = Value.bool (decide (z56 < (b_0_1.length : Int))) from rfl) hq58) ?_
          refine mixE.gskip (want_f rfl rfl (show _ = Value.bool (decide (z56 < (b_0_1.length : Int))) from rfl) hq58) ?_
          refine mixE.gskip (want_f rfl rfl (show _ = Value.bool (decide (z56 < (b_0_1.length : Int))) from rfl) hq58) ?_
          refine mixE.gskip (want_f rfl rfl (show _ = Value.bool (decide (z56 < (b_0_1.length : Int))) from rfl) hq58) ?_
          refine mixE.gskip (want_f rfl rfl (show _ = Value.bool (decide (z56 < (b_0_1.length : Int))) from rfl) hq58) ?_
          refine mixE.gskip (want_f rfl rfl (show _ = Value.bool (decide (z56 < (b_0_1.length : Int))) from rfl) hq58) ?_
          refine mixE.gskip (want_f rfl rfl (show _ = Value.bool (decide (z56 < (b_0_1.length : Int))) from rfl) hq58) ?_
          refine mixE.gskip (want_f rfl rfl (show _ = Value.bool (decide (z56 < (b_0_1.length : Int))) from rfl) hq58) ?_
          refine mixE.pure (v := .bool false) (pu_pickF (q := (decide (z56 < (b_0_1.length : Int)))) rfl hq58 rfl) ?_
          refine mixE.pure (v := .bool false) (pu_assign rfl) ?_
          refine mixE.nil ?_
          clear hS hM
          refine hK53 _ _ ?_
          obtain rfl := Option.some.inj hb
          refine Wc.ret ?_
          refine hKR _ _ ?_
          refine ⟨_, res1 Try.results32 (show RV _ _ _ (.tmp _) (.bool false) from rfl), _, rfl, rfl, hC.sel [] (by decide)⟩
      · replace hb := (cF hq52).symm.trans hb
        refine Wc.seq fun K89 hK89 => ?_
        refine Wc.region (by decide +kernel) ?_
        refine lex.pure (v := .bool (decide (s_1_0 = 5))) (pu_eql (k := .i64) (a := s_1_0) (b := 5) e13 rfl) ?_
        refine lex.pure (v := .bool (decide (s_1_0 = 5))) (pu_assign rfl) ?_
        refine lex.nil ?_
        refine hK89 _ _ ?_
        refine Wc.cond (t := (decide (s_1_0 = 5))) (rfl) (fun hq90 => ?_) (fun hq90 => ?_)
        · replace hb := (cT hq90).symm.trans hb
          refine Wc.seq fun K91 hK91 => ?_
          refine Wc.seq fun K92 hK92 => ?_
          refine Wc.region (by decide +kernel) ?_
          refine lex.pure (v := .pointer (some ((⟨g6, 0, none⟩ : Addr).add 2))) (pu_field (sz := 1) Try.underlying28 rfl Try.sizeOf3 (by decide) rfl e3) ?_
          refine lex.val (v := .int .i64 s_1_2) (ld_fld (hC.bx (i := 0) rfl) Try.isAgg3 rfl rfl) ?_
          obtain ⟨z93, h94, hb⟩ := bd hb
          refine lex.pure (v := .int .i64 z93) (pu_addc (a := s_1_2) (b := 2) rfl rfl h94) ?_
          refine lex.pure (v := .int .i64 (b_0_1.length : Int)) (pu_move e5) ?_
          refine lex.pure (v := .bool (decide ((b_0_1.length : Int) ≤ z93))) (pu_geq (k := .i64) (a := z93) (b := (b_0_1.length : Int)) rfl rfl) ?_
          refine lex.nil ?_
          refine hK92 _ _ ?_
          refine Wc.cond (t := (decide ((b_0_1.length : Int) ≤ z93))) (rfl) (fun hq95 => ?_) (fun hq95 => ?_)
          · replace hb := (cT hq95).symm.trans hb
            refine Wc.seq fun K96 hK96 => ?_
            refine Wc.region (by decide +kernel) ?_
            refine lex.pure (v := .bool false) (pu_assign rfl) ?_
            refine lex.nil ?_
            refine hK96 _ _ ?_
            obtain rfl := Option.some.inj hb
            refine Wc.ret ?_
            refine hKR _ _ ?_
            refine ⟨_, res1 Try.results32 (show RV _ _ _ (.tmp _) (.bool false) from rfl), _, rfl, rfl, hC.sel [] (by decide)⟩
          · replace hb := (cF hq95).symm.trans hb
            refine Wc.skip ?_
            refine hK91 _ _ ?_
            refine Wc.fresh fun E97 hE => ?_
            have e2 : E97 2 = .pointer (some ⟨g3, 0, none⟩) := (congrFun hE 2).trans e2
            have e3 : E97 3 = .pointer (some ⟨g6, 0, none⟩) := (congrFun hE 3).trans e3
            have e4 : E97 4 = .bool false := (congrFun hE 4).trans e4
            clear hE
            refine Wc.seq fun K98 hK98 => ?_
            refine Wc.regionMix [] (frm [] ([] : List Fact) ([] : List Fact)) (fun _ => rfl) mixed (by decide +kernel) (by decide +kernel) fun w100 hw99 => ?_
            replace hC := hC.step (Fr.of_drew hw99)
            have hM := Fr.refl (fun k => k ∈ blocks ([] : List Fact)) w100
            clear hw99
            have hS := hC
            refine mixE.pure (v := .pointer (some ((⟨g3, 0, none⟩ : Addr).add 1))) (pu_field (sz := 1) Try.underlying27 rfl Try.sizeOf22 (by decide) rfl e2) ?_
            refine mixE.load hM (v := .slice Ab_0_1 b_0_1.length cb_0_1) (fun _ hF => ld_fld (hS.bx2 (i := 1) rfl [] (by decide) hF) Try.isAgg22 rfl rfl) ?_
            refine mixE.pure (v := .pointer (some ((⟨g6, 0, none⟩ : Addr).add 2))) (pu_field (sz := 1) Try.underlying28 rfl Try.sizeOf3 (by decide) rfl e3) ?_
            refine mixE.load hM (v := .int .i64 s_1_2) (fun _ hF => ld_fld (hS.bx2 (i := 0) rfl [] (by decide) hF) Try.isAgg3 rfl rfl) ?_
            obtain ⟨x101, h102, hb⟩ := bd hb
            obtain ⟨ad103, cs104, hA, ho107, hc105, hr106⟩ := hS.elr2 (i := 2) rfl (get_some h102).2 []
            subst hA
            refine mixE.pure (v := .pointer (some (ad103.add (s_1_2.toNat * 1)))) (pu_index (a := s_1_2) Try.underlying22 Try.sizeOf3 rfl rfl (get_some h102).1) ?_
            obtain ⟨rfl, hr106'⟩ := hr106
            refine mixE.load hM (v := .int .i64 x101) (fun _ hF => ld_one Try.isAgg3 rfl (hF.cell (hc105 0 _ rfl) (off1 ho107))) ?_
            refine mixE.pure (v := .pointer (some ((⟨g3, 0, none⟩ : Addr).add 1))) (pu_field (sz := 1) Try.underlying27 rfl Try.sizeOf22 (by decide) rfl e2) ?_
            refine mixE.load hM (v := .slice (some ad103) b_0_1.length cb_0_1) (fun _ hF => ld_fld (hS.bx2 (i := 1) rfl [] (by decide) hF) Try.isAgg22 rfl rfl) ?_
            refine mixE.pure (v := .pointer (some ((⟨g6, 0, none⟩ : Addr).add 2))) (pu_field (sz := 1) Try.underlying28 rfl Try.sizeOf3 (by decide) rfl e3) ?_
            refine mixE.load hM (v := .int .i64 s_1_2) (fun _ hF => ld_fld (hS.bx2 (i := 0) rfl [] (by decide) hF) Try.isAgg3 rfl rfl) ?_
            obtain ⟨z108, h109, hb⟩ := bd hb
            refine mixE.pure (v := .int .i64 z108) (pu_addc (a := s_1_2) (b := 1) rfl rfl h109) ?_
            obtain ⟨x110, h111, hb⟩ := bd hb
            obtain ⟨ad112, cs113, hA, ho116, hc114, hr115⟩ := hS.elr2 (i := 2) rfl (get_some h111).2 []
            obtain rfl := Option.some.inj hA
            refine mixE.pure (v := .pointer (some (ad103.add (z108.toNat * 1)))) (pu_index (a := z108) Try.underlying22 Try.sizeOf3 rfl rfl (get_some h111).1) ?_
            obtain ⟨rfl, hr115'⟩ := hr115
            refine mixE.load hM (v := .int .i64 x110) (fun _ hF => ld_one Try.isAgg3 rfl (hF.cell (hc114 0 _ rfl) (off1 ho116))) ?_
            refine mixE.pure (v := .int .i64 x101) (pu_assign rfl) ?_
            refine mixE.pure (v := .int .i64 x110) (pu_assign rfl) ?_
            refine mixE.nil ?_
            clear hS hM
            refine hK98 _ _ ?_
            refine Wc.fresh fun E117 hE => ?_
            have e2 : E117 2 = .pointer (some ⟨g3, 0, none⟩) := (congrFun hE 2).trans e2
            have e3 : E117 3 = .pointer (some ⟨g6, 0, none⟩) := (congrFun hE 3).trans e3
            have e4 : E117 4 = .bool false := (congrFun hE 4).trans e4
            have e7 : E117 7 = .int .i64 x101 := (congrFun hE 7).trans rfl
            have e8 : E117 8 = .int .i64 x110 := (congrFun hE 8).trans rfl
            clear hE
            refine Wc.seq fun K118 hK118 => ?_
            refine Wc.region (by decide +kernel) ?_
            refine lex.pure (v := .pointer (some ((⟨g3, 0, none⟩ : Addr).add 1))) (pu_field (sz := 1) Try.underlying27 rfl Try.sizeOf22 (by decide) rfl e2) ?_
            refine lex.val (v := .slice (some ad103) b_0_1.length cb_0_1) (ld_fld (hC.bx (i := 1) rfl) Try.isAgg22 rfl rfl) ?_
            refine lex.pure (v := .pointer (some ((⟨g6, 0, none⟩ : Addr).add 2))) (pu_field (sz := 1) Try.underlying28 rfl Try.sizeOf3 (by decide) rfl e3) ?_
            refine lex.val (v := .int .i64 s_1_2) (ld_fld (hC.bx (i := 0) rfl) Try.isAgg3 rfl rfl) ?_
            obtain ⟨z119, h120, hb⟩ := bd hb
            refine lex.pure (v := .int .i64 z119) (pu_addc (a := s_1_2) (b := 2) rfl rfl h120) ?_
            obtain ⟨x121, h122, hb⟩ := bd hb
            obtain ⟨ad123, cs124, hA, hc125, hr126⟩ := hC.elr (i := 2) rfl (get_some h122).2
            obtain rfl := Option.some.inj hA
            refine lex.pure (v := .pointer (some (ad103.add (z119.toNat * 1)))) (pu_index (a := z119) Try.underlying22 Try.sizeOf3 rfl rfl (get_some h122).1) ?_
            obtain ⟨rfl, hr126'⟩ := hr126
            refine lex.val (v := .int .i64 x121) (ld_one Try.isAgg3 rfl (hc125 0 _ rfl)) ?_
            refine lex.pure (v := .int .i64 x101) (pu_move e7) ?_
            refine lex.pure (v := .bool (decide (x121 = x101))) (pu_eql (k := .i64) (a := x121) (b := x101) rfl rfl) ?_
            refine lex.pure (v := .bool (decide (x121 = x101))) (pu_move rfl) ?_
            rcases bS (decide (x121 = x101)) with hq127 | hq127
            · replace hb := (cT hq127).symm.trans hb
              refine lex.gpure (want_t rfl rfl (show _ = Value.bool (decide (x121 = x101)) from rfl) hq127) (v := .int .i64 x101) (pu_move e7) ?_
              refine lex.gpure (want_t rfl rfl (show _ = Value.bool (decide (x121 = x101)) from rfl) hq127) (v := .bool (decide (0 < x101))) (pu_gtr (k := .i64) (a := x101) (b := 0) rfl rfl) ?_
              refine lex.gpure (want_t rfl rfl (show _ = Value.bool (decide (x121 = x101)) from rfl) hq127) (v := .int .i64 x110) (pu_move e8) ?_
              refine lex.gpure (want_t rfl rfl (show _ = Value.bool (decide (x121 = x101)) from rfl) hq127) (v := .bool (decide (0 < x110))) (pu_gtr (k := .i64) (a := x110) (b := 0) rfl rfl) ?_
              refine lex.gpure (want_t rfl rfl (show _ = Value.bool (decide (x121 = x101)) from rfl) hq127) (v := .bool ((decide (0 < x101)) == (decide (0 < x110)))) (pu_eqlb (p := (decide (0 < x101))) (q := (decide (0 < x110))) Try.underlying4 rfl rfl) ?_
              refine lex.pure (v := .bool ((decide (0 < x101)) == (decide (0 < x110)))) (pu_pickT (q := (decide (x121 = x101))) rfl hq127 rfl) ?_
              refine lex.pure (v := .bool ((decide (0 < x101)) == (decide (0 < x110)))) (pu_move rfl) ?_
              rcases bS ((decide (0 < x101)) == (decide (0 < x110))) with hq128 | hq128
              · replace hb := (cT hq128).symm.trans hb
                refine lex.gpure (want_t rfl rfl (show _ = Value.bool ((decide (0 < x101)) == (decide (0 < x110))) from rfl) hq128) (v := .int .i64 x101) (pu_move e7) ?_
                refine lex.gpure (want_t rfl rfl (show _ = Value.bool ((decide (0 < x101)) == (decide (0 < x110))) from rfl) hq128) (v := .int .i64 x110) (pu_move e8) ?_
                obtain ⟨z129, h130, hb⟩ := bd hb
                refine lex.gpure (want_t rfl rfl (show _ = Value.bool ((decide (0 < x101)) == (decide (0 < x110))) from rfl) hq128) (v := .int .i64 z129) (pu_subc (a := x101) (b := x110) rfl rfl h130) ?_
                obtain ⟨y131, h132, hb⟩ := bd hb
                refine lex.gcl (want_t rfl rfl (show _ = Value.bool ((decide (0 < x101)) == (decide (0 < x110))) from rfl) hq128) (⟨_, _, op_call (vs := [.int .i64 z129]) Try.call56 rfl rfl rfl, markov_size_ok n hC.lt (chk_rng h130) h132⟩) ?_
                rintro _ w134 ⟨rfl, hr133, hK⟩
                replace hC := hC.merge hK
                clear hK
                refine lex.gpure (want_t rfl rfl (show _ = Value.bool ((decide (0 < x101)) == (decide (0 < x110))) from rfl) hq128) (v := .bool (decide (y131 = 1))) (pu_eql (k := .i64) (a := y131) (b := 1) rfl rfl) ?_
                refine lex.pure (v := .bool (decide (y131 = 1))) (pu_pickT (q := ((decide (0 < x101)) == (decide (0 < x110)))) rfl hq128 rfl) ?_
                refine lex.pure (v := .bool (decide (y131 = 1))) (pu_assign rfl) ?_
                refine lex.nil ?_
                refine hK118 _ _ ?_
                obtain rfl := Option.some.inj hb
                refine Wc.ret ?_
                refine hKR _ _ ?_
                refine ⟨_, res1 Try.results32 (show RV _ _ _ (.tmp _) (.bool (decide (y131 = 1))) from rfl), _, rfl, rfl, hC.sel [] (by decide)⟩
              · replace hb := (cF hq128).symm.trans hb
                refine lex.gskip (want_f rfl rfl (show _ = Value.bool ((decide (0 < x101)) == (decide (0 < x110))) from rfl) hq128) ?_
                refine lex.gskip (want_f rfl rfl (show _ = Value.bool ((decide (0 < x101)) == (decide (0 < x110))) from rfl) hq128) ?_
                refine lex.gskip (want_f rfl rfl (show _ = Value.bool ((decide (0 < x101)) == (decide (0 < x110))) from rfl) hq128) ?_
                refine lex.gskip (want_f rfl rfl (show _ = Value.bool ((decide (0 < x101)) == (decide (0 < x110))) from rfl) hq128) ?_
                refine lex.gskip (want_f rfl rfl (show _ = Value.bool ((decide (0 < x101)) == (decide (0 < x110))) from rfl) hq128) ?_
                refine lex.pure (v := .bool false) (pu_pickF (q := ((decide (0 < x101)) == (decide (0 < x110)))) rfl hq128 rfl) ?_
                refine lex.pure (v := .bool false) (pu_assign rfl) ?_
                refine lex.nil ?_
                refine hK118 _ _ ?_
                obtain rfl := Option.some.inj hb
                refine Wc.ret ?_
                refine hKR _ _ ?_
                refine ⟨_, res1 Try.results32 (show RV _ _ _ (.tmp _) (.bool false) from rfl), _, rfl, rfl, hC.sel [] (by decide)⟩
            · replace hb := (cF hq127).symm.trans hb
              refine lex.gskip (want_f rfl rfl (show _ = Value.bool (decide (x121 = x101)) from rfl) hq127) ?_
              refine lex.gskip (want_f rfl rfl (show _ = Value.bool (decide (x121 = x101)) from rfl) hq127) ?_
              refine lex.gskip (want_f rfl rfl (show _ = Value.bool (decide (x121 = x101)) from rfl) hq127) ?_
              refine lex.gskip (want_f rfl rfl (show _ = Value.bool (decide (x121 = x101)) from rfl) hq127) ?_
              refine lex.gskip (want_f rfl rfl (show _ = Value.bool (decide (x121 = x101)) from rfl) hq127) ?_
              refine lex.pure (v := .bool false) (pu_pickF (q := (decide (x121 = x101))) rfl hq127 rfl) ?_
              refine lex.pure (v := .bool false) (pu_move rfl) ?_
              refine lex.gskip (want_f rfl rfl (show _ = Value.bool false from rfl) rfl) ?_
              refine lex.gskip (want_f rfl rfl (show _ = Value.bool false from rfl) rfl) ?_
              refine lex.gskip (want_f rfl rfl (show _ = Value.bool false from rfl) rfl) ?_
              refine lex.gskip (want_f rfl rfl (show _ = Value.bool false from rfl) rfl) ?_
              refine lex.gskip (want_f rfl rfl (show _ = Value.bool false from rfl) rfl) ?_
              refine lex.pure (v := .bool false) (pu_pickF (q := false) rfl rfl rfl) ?_
              refine lex.pure (v := .bool false) (pu_assign rfl) ?_
              refine lex.nil ?_
              refine hK118 _ _ ?_
              obtain rfl := Option.some.inj hb
              refine Wc.ret ?_
              refine hKR _ _ ?_
              refine ⟨_, res1 Try.results32 (show RV _ _ _ (.tmp _) (.bool false) from rfl), _, rfl, rfl, hC.sel [] (by decide)⟩
        · replace hb := (cF hq90).symm.trans hb
          refine Wc.seq fun K135 hK135 => ?_
          refine Wc.region (by decide +kernel) ?_
          refine lex.pure (v := .bool (decide (s_1_0 = 7))) (pu_eql (k := .i64) (a := s_1_0) (b := 7) e13 rfl) ?_
          refine lex.pure (v := .bool (decide (s_1_0 = 7))) (pu_assign rfl) ?_
          refine lex.nil ?_
          refine hK135 _ _ ?_
          refine Wc.cond (t := (decide (s_1_0 = 7))) (rfl) (fun hq136 => ?_) (fun hq136 => ?_)
          · replace hb := (cT hq136).symm.trans hb
            refine Wc.seq fun K137 hK137 => ?_
            refine Wc.regionMix [] (frm [] ([] : List Fact) ([] : List Fact)) (fun _ => rfl) mixed (by decide +kernel) (by decide +kernel) fun w139 hw138 => ?_
            replace hC := hC.step (Fr.of_drew hw138)
            have hM := Fr.refl (fun k => k ∈ blocks ([] : List Fact)) w139
            clear hw138
            have hS := hC
            refine mixE.pure (v := .pointer (some ((⟨g6, 0, none⟩ : Addr).add 2))) (pu_field (sz := 1) Try.underlying28 rfl Try.sizeOf3 (by decide) rfl e3) ?_
            refine mixE.load hM (v := .int .i64 s_1_2) (fun _ hF => ld_fld (hS.bx2 (i := 0) rfl [] (by decide) hF) Try.isAgg3 rfl rfl) ?_
            obtain ⟨z140, h141, hb⟩ := bd hb
            refine mixE.pure (v := .int .i64 z140) (pu_addc (a := s_1_2) (b := 1) rfl rfl h141) ?_
            refine mixE.pure (v := .int .i64 (b_0_1.length : Int)) (pu_move e5) ?_
            refine mixE.pure (v := .bool (decide (z140 < (b_0_1.length : Int)))) (pu_lss (k := .i64) (a := z140) (b := (b_0_1.length : Int)) rfl rfl) ?_
            refine mixE.pure (v := .bool (decide (z140 < (b_0_1.length : Int)))) (pu_move rfl) ?_
            rcases bS (decide (z140 < (b_0_1.length : Int))) with hq142 | hq142
            · replace hb := (cT hq142).symm.trans hb
              refine mixE.gpure rfl (want_t rfl rfl (show _ = Value.bool (decide (z140 < (b_0_1.length : Int))) from rfl) hq142) (v := .pointer (some ((⟨g3, 0, none⟩ : Addr).add 1))) (pu_field (sz := 1) Try.underlying27 rfl Try.sizeOf22 (by decide) rfl e2) ?_
              refine mixE.gload rfl (want_t rfl rfl (show _ = Value.bool (decide (z140 < (b_0_1.length : Int))) from rfl) hq142) hM (v := .slice Ab_0_1 b_0_1.length cb_0_1) (fun _ hF => ld_fld (hS.bx2 (i := 1) rfl [] (by decide) hF) Try.isAgg22 rfl rfl) ?_
              refine mixE.gpure rfl (want_t rfl rfl (show _ = Value.bool (decide (z140 < (b_0_1.length : Int))) from rfl) hq142) (v := .pointer (some ((⟨g6, 0, none⟩ : Addr).add 2))) (pu_field (sz := 1) Try.underlying28 rfl Try.sizeOf3 (by decide) rfl e3) ?_
              refine mixE.gload rfl (want_t rfl rfl (show _ = Value.bool (decide (z140 < (b_0_1.length : Int))) from rfl) hq142) hM (v := .int .i64 s_1_2) (fun _ hF => ld_fld (hS.bx2 (i := 0) rfl [] (by decide) hF) Try.isAgg3 rfl rfl) ?_
              obtain ⟨z143, h144, hb⟩ := bd hb
              refine mixE.gpure rfl (want_t rfl rfl (show _ = Value.bool (decide (z140 < (b_0_1.length : Int))) from rfl) hq142) (v := .int .i64 z143) (pu_addc (a := s_1_2) (b := 1) rfl rfl h144) ?_
              obtain ⟨x145, h146, hb⟩ := bd hb
              obtain ⟨ad147, cs148, hA, ho151, hc149, hr150⟩ := hS.elr2 (i := 2) rfl (get_some h146).2 []
              subst hA
              refine mixE.gpure rfl (want_t rfl rfl (show _ = Value.bool (decide (z140 < (b_0_1.length : Int))) from rfl) hq142) (v := .pointer (some (ad147.add (z143.toNat * 1)))) (pu_index (a := z143) Try.underlying22 Try.sizeOf3 rfl rfl (get_some h146).1) ?_
              obtain ⟨rfl, hr150'⟩ := hr150
              refine mixE.gload rfl (want_t rfl rfl (show _ = Value.bool (decide (z140 < (b_0_1.length : Int))) from rfl) hq142) hM (v := .int .i64 x145) (fun _ hF => ld_one Try.isAgg3 rfl (hF.cell (hc149 0 _ rfl) (off1 ho151))) ?_
              refine mixE.gpure rfl (want_t rfl rfl (show _ = Value.bool (decide (z140 < (b_0_1.length : Int))) from rfl) hq142) (v := .pointer (some ((⟨g3, 0, none⟩ : Addr).add 1))) (pu_field (sz := 1) Try.underlying27 rfl Try.sizeOf22 (by decide) rfl e2) ?_
              refine mixE.gload rfl (want_t rfl rfl (show _ = Value.bool (decide (z140 < (b_0_1.length : Int))) from rfl) hq142) hM (v := .slice (some ad147) b_0_1.length cb_0_1) (fun _ hF => ld_fld (hS.bx2 (i := 1) rfl [] (by decide) hF) Try.isAgg22 rfl rfl) ?_
              refine mixE.gpure rfl (want_t rfl rfl (show _ = Value.bool (decide (z140 < (b_0_1.length : Int))) from rfl) hq142) (v := .pointer (some ((⟨g6, 0, none⟩ : Addr).add 2))) (pu_field (sz := 1) Try.underlying28 rfl Try.sizeOf3 (by decide) rfl e3) ?_
              refine mixE.gload rfl (want_t rfl rfl (show _ = Value.bool (decide (z140 < (b_0_1.length : Int))) from rfl) hq142) hM (v := .int .i64 s_1_2) (fun _ hF => ld_fld (hS.bx2 (i := 0) rfl [] (by decide) hF) Try.isAgg3 rfl rfl) ?_
              obtain ⟨x152, h153, hb⟩ := bd hb
              obtain ⟨ad154, cs155, hA, ho158, hc156, hr157⟩ := hS.elr2 (i := 2) rfl (get_some h153).2 []
              obtain rfl := Option.some.inj hA
              refine mixE.gpure rfl (want_t rfl rfl (show _ = Value.bool (decide (z140 < (b_0_1.length : Int))) from rfl) hq142) (v := .pointer (some (ad147.add (s_1_2.toNat * 1)))) (pu_index (a := s_1_2) Try.underlying22 Try.sizeOf3 rfl rfl (get_some h153).1) ?_
              obtain ⟨rfl, hr157'⟩ := hr157
              refine mixE.gload rfl (want_t rfl rfl (show _ = Value.bool (decide (z140 < (b_0_1.length : Int))) from rfl) hq142) hM (v := .int .i64 x152) (fun _ hF => ld_one Try.isAgg3 rfl (hF.cell (hc156 0 _ rfl) (off1 ho158))) ?_
              obtain ⟨z159, h160, hb⟩ := bd hb
              refine mixE.gpure rfl (want_t rfl rfl (show _ = Value.bool (decide (z140 < (b_0_1.length : Int))) from rfl) hq142) (v := .int .i64 z159) (pu_negc (a := x152) rfl h160) ?_
              refine mixE.gpure rfl (want_t rfl rfl (show _ = Value.bool (decide (z140 < (b_0_1.length : Int))) from rfl) hq142) (v := .bool (decide (x145 = z159))) (pu_eql (k := .i64) (a := x145) (b := z159) rfl rfl) ?_
              refine mixE.pure (v := .bool (decide (x145 = z159))) (pu_pickT (q := (decide (z140 < (b_0_1.length : Int)))) rfl hq142 rfl) ?_
              refine mixE.pure (v := .bool (decide (x145 = z159))) (pu_assign rfl) ?_
              refine mixE.nil ?_
              clear hS hM
              refine hK137 _ _ ?_
              obtain rfl := Option.some.inj hb
              refine Wc.ret ?_
              refine hKR _ _ ?_
              refine ⟨_, res1 Try.results32 (show RV _ _ _ (.tmp _) (.bool (decide (x145 = z159))) from rfl), _, rfl, rfl, hC.sel [] (by decide)⟩
            · replace hb := (cF hq142).symm.trans hb
              refine mixE.gskip (want_f rfl rfl (show _ = Value.bool (decide (z140 < (b_0_1.length : Int))) from rfl) hq142) ?_
              refine mixE.gskip (want_f rfl rfl (show _ = Value.bool (decide (z140 < (b_0_1.length : Int))) from rfl) hq142) ?_
              refine mixE.gskip (want_f rfl rfl (show _ = Value.bool (decide (z140 < (b_0_1.length : Int))) from rfl) hq142) ?_
              refine mixE.gskip (want_f rfl rfl (show _ = Value.bool (decide (z140 < (b_0_1.length : Int))) from rfl) hq142) ?_
              refine mixE.gskip (want_f rfl rfl (show _ = Value.bool (decide (z140 < (b_0_1.length : Int))) from rfl) hq142) ?_
              refine mixE.gskip (want_f rfl rfl (show _ = Value.bool (decide (z140 < (b_0_1.length : Int))) from rfl) hq142) ?_
              refine mixE.gskip (want_f rfl rfl (show _ = Value.bool (decide (z140 < (b_0_1.length : Int))) from rfl) hq142) ?_
              refine mixE.gskip (want_f rfl rfl (show _ = Value.bool (decide (z140 < (b_0_1.length : Int))) from rfl) hq142) ?_
              refine mixE.gskip (want_f rfl rfl (show _ = Value.bool (decide (z140 < (b_0_1.length : Int))) from rfl) hq142) ?_
              refine mixE.gskip (want_f rfl rfl (show _ = Value.bool (decide (z140 < (b_0_1.length : Int))) from rfl) hq142) ?_
              refine mixE.gskip (want_f rfl rfl (show _ = Value.bool (decide (z140 < (b_0_1.length : Int))) from rfl) hq142) ?_
              refine mixE.gskip (want_f rfl rfl (show _ = Value.bool (decide (z140 < (b_0_1.length : Int))) from rfl) hq142) ?_
              refine mixE.gskip (want_f rfl rfl (show _ = Value.bool (decide (z140 < (b_0_1.length : Int))) from rfl) hq142) ?_
              refine mixE.gskip (want_f rfl rfl (show _ = Value.bool (decide (z140 < (b_0_1.length : Int))) from rfl) hq142) ?_
              refine mixE.gskip (want_f rfl rfl (show _ = Value.bool (decide (z140 < (b_0_1.length : Int))) from rfl) hq142) ?_
              refine mixE.pure (v := .bool false) (pu_pickF (q := (decide (z140 < (b_0_1.length : Int)))) rfl hq142 rfl) ?_
              refine mixE.pure (v := .bool false) (pu_assign rfl) ?_
              refine mixE.nil ?_
              clear hS hM
              refine hK137 _ _ ?_
              obtain rfl := Option.some.inj hb
              refine Wc.ret ?_
              refine hKR _ _ ?_
              refine ⟨_, res1 Try.results32 (show RV _ _ _ (.tmp _) (.bool false) from rfl), _, rfl, rfl, hC.sel [] (by decide)⟩
          · replace hb := (cF hq136).symm.trans hb
            refine Wc.skip ?_
            refine hK10 _ _ ?_
            refine Wc.seq fun K161 hK161 => ?_
            refine Wc.region (by decide +kernel) ?_
            refine lex.pure (v := .bool true) (pu_assign rfl) ?_
            refine lex.nil ?_
            refine hK161 _ _ ?_
            obtain rfl := Option.some.inj hb
            refine Wc.ret ?_
            refine hKR _ _ ?_
            refine ⟨_, res1 Try.results32 (show RV _ _ _ (.tmp _) (.bool true) from rfl), _, rfl, rfl, hC.sel [] (by decide)⟩

set_option maxRecDepth 100000 in
set_option maxHeartbeats 4000000 in
theorem slices_Clone_Lint_int_ok (n : Nat) {w : World} {O0 : List Nat} (hO : ∀ k ∈ O0, k < w.heap.size) {As_0 : Option Addr} {ms_0 cs_0 : Nat} {s_0 : List Int} (hs_0 : Rep O0 w (.sl (.int .i64)) [.slice As_0 ms_0 cs_0] s_0) {r : (List Int)} (hb : F.slices_Clone_Lint_int n s_0 = some r) :
    Calls Try.prog 36 #[.slice As_0 ms_0 cs_0] w fun e w' => ∃ v, e = .returned v ∧ ∃ (A0 : Option Addr) (m0 c0 : Nat), v = .slice A0 m0 c0 ∧ Cx (fun _ => False) O0 w w' [.own 3 (.int .i64) (.slice A0 m0 c0) r] := by
  unfold F.slices_Clone_Lint_int at hb
  have hC := Cx.start hO
  replace hC := hC.arg rfl hs_0
  clear hO
  obtain ⟨rfl, hls_0, hcs_0⟩ := hs_0.sl_len
  refine calls_of_Wc Try.func36 rfl (by rw [Try.ntmps36]; exact Nat.le_of_ble_eq_true rfl) fun KR hKR => ?_
  refine Wc.seq fun K2 hK2 => ?_
  refine Wc.region (by decide +kernel) ?_
  refine lex.pure (v := .slice none 0 0) (pu_assign rfl) ?_
  refine lex.nil ?_
  refine hK2 _ _ ?_
  refine Wc.seq fun K3 hK3 => ?_
  refine Wc.seq fun K4 hK4 => ?_
  refine Wc.region (by decide +kernel) ?_
  refine lex.pure (v := .slice As_0 s_0.length cs_0) (pu_move rfl) ?_
  refine lex.pure (v := .bool As_0.isNone) (pu_eqlnil Try.underlying22 rfl rfl) ?_
  refine lex.nil ?_
  refine hK4 _ _ ?_
  refine Wc.cond (t := As_0.isNone) (rfl) (fun hq5 => ?_) (fun hq5 => ?_)
  · have hz : As_0 = none := by simpa using hq5
    have hx := (hC.rd (i := 0) rfl).none_nil' hz
    replace hb : some ([]) = some r := by have hb2 := hb; rw [hx] at hb2; first | exact hb2 | simpa [lim] using hb2
    refine Wc.seq fun K7 hK7 => ?_
    refine Wc.region (by decide +kernel) ?_
    refine lex.pure (v := .slice none 0 0) (pu_assign rfl) ?_
    refine lex.nil ?_
    refine hK7 _ _ ?_
    replace hC := hC.nil 3 (.int .i64)
    obtain rfl := Option.some.inj hb
    refine Wc.ret ?_
    refine hKR _ _ ?_
    refine ⟨_, res1 Try.results36 (show RV _ _ _ (.tmp _) (.slice none 0 0) from rfl), _, rfl, none, 0, 0, rfl, hC.sel [0] (by decide)⟩
  ·
    skip
    refine Wc.skip ?_
    refine hK3 _ _ ?_
    refine Wc.seq fun K9 hK9 => ?_
    refine Wc.region (by decide +kernel) ?_
    refine lex.op (hC.lit (s := (.int .i64)) (vs := []) (xs := []) Try.underlying22 Try.type3 rfl rfl (Nat.le_of_ble_eq_true rfl) rfl rfl (by simp [Value.cells, Sh.n]) rfl (show Elems _ _ (.int .i64) ([]) ([] : List Int) from Elems.nil _ _ _)) ?_
    rintro _ w14 ⟨A10, c11, rfl, hl12, hc13, hC, hF, hN⟩
    clear hF hN
    refine lex.pure (v := .slice As_0 s_0.length cs_0) (pu_move rfl) ?_
    obtain ⟨u16, h17, hb⟩ := bd hb
    refine lex.op (hC.app (i := 0) (s := (.int .i64)) (xs := ([] : List Int)) (ys := s_0) (m := s_0.length) rfl Try.underlying22 Try.underlying22 Try.type3 rfl rfl rfl (hC.srcr (i := 1) rfl) rfl rfl (by have := lim_some h17; simp at this ⊢ <;> omega) (by decide)) ?_
    rintro _ w22 ⟨A18, c19, rfl, hl20, hc21, hC, hF, hN⟩
    clear hF hN
    refine lex.pure (v := .slice A18 ((([] : List Int) ++ s_0).length) c19) (pu_assign rfl) ?_
    refine lex.nil ?_
    refine hK9 _ _ ?_
    obtain rfl := Option.some.inj hb
    refine Wc.ret ?_
    refine hKR _ _ ?_
    refine ⟨_, res1 Try.results36 (show RV _ _ _ (.tmp _) (.slice A18 ((([] : List Int) ++ s_0).length) c19) from rfl), _, rfl, A18, (([] : List Int) ++ s_0).length, c19, rfl, hC.sel [0] (by decide)⟩
end Go.Proofs.Ytkjpldmelafooaa
