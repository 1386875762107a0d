/- The walks: part 14. -/
import Derived.Test.YtkjpldmelafooaaS
import Derived.Test.YtkjpldmelafooaaG0
import Derived.Test.YtkjpldmelafooaaG3
set_option linter.unusedVariables false
set_option linter.unusedSimpArgs false
namespace Go.Proofs.Ytkjpldmelafooaa
open Ev
set_option maxRecDepth 100000 in
set_option maxHeartbeats 4000000 in
theorem braid_Exponent_ok (n : Nat) {w : World} {O0 : List Nat} (hO : ∀ k ∈ O0, k < w.heap.size) {b_0_0 : Int} (hb_0_0 : I64 b_0_0) {Ab_0_1 : Option Addr} {mb_0_1 cb_0_1 : Nat} {b_0_1 : List Int} (hb_0_1 : Rep O0 w (.sl (.int .i64)) [.slice Ab_0_1 mb_0_1 cb_0_1] b_0_1) {r : Int} (hb : F.braid_Exponent n b_0_0 b_0_1 = some r) :
    Calls Try.prog 22 #[.agg #[.int .i64 b_0_0, .slice Ab_0_1 mb_0_1 cb_0_1]] w fun e w' => ∃ v, e = .returned v ∧ v = .int .i64 r ∧ I64 r ∧ Cx (fun _ => False) O0 w w' [] := by
  unfold F.braid_Exponent at hb
  have hC := Cx.start hO
  replace hC := hC.arg rfl hb_0_1
  clear hO
  obtain ⟨rfl, hlb_0_1, hcb_0_1⟩ := hb_0_1.sl_len
  refine calls_of_Wc Try.func22 rfl (by rw [Try.ntmps22]; exact Nat.le_of_ble_eq_true rfl) fun KR hKR => ?_
  refine Wc.seq fun K2 hK2 => ?_
  refine Wc.region (by decide +kernel) ?_
  refine lex.op (hC.box (cs := [.int .i64 b_0_0, .slice Ab_0_1 b_0_1.length cb_0_1]) rfl rfl) ?_
  rintro _ w4 ⟨g3, rfl, hC, hF, hG⟩
  clear hG
  refine lex.pure (v := .int .i64 0) (pu_assign rfl) ?_
  refine lex.nil ?_
  refine hK2 _ _ ?_
  refine Wc.seq fun K6 hK6 => ?_
  refine Wc.seq fun K7 hK7 => ?_
  refine Wc.region (by decide +kernel) ?_
  refine lex.val (v := .agg #[.int .i64 b_0_0, .slice Ab_0_1 b_0_1.length cb_0_1]) (ld_blk (hC.bx (i := 0) rfl) Try.isAgg27 Try.sizeOf27 rfl) ?_
  obtain ⟨y8, h9, hb⟩ := bd hb
  refine lex.cl (⟨_, _, op_call (vs := [.agg #[.int .i64 b_0_0, .slice Ab_0_1 b_0_1.length cb_0_1]]) Try.call15 rfl rfl rfl, braid_Valid_ok n hC.lt hb_0_0 (hC.rd (i := 1) rfl) h9⟩) ?_
  rintro _ w10 ⟨rfl, hK⟩
  replace hC := hC.merge hK
  clear hK
  refine lex.pure (v := .bool (!y8)) (pu_not (q := y8) rfl) ?_
  refine lex.nil ?_
  refine hK7 _ _ ?_
  refine Wc.cond (t := (!y8)) (rfl) (fun hq11 => ?_) (fun hq11 => ?_)
  · replace hb := (cT hq11).symm.trans hb
    refine Wc.seq fun K12 hK12 => ?_
    refine Wc.region (by decide +kernel) ?_
    refine lex.pure (v := .int .i64 0) (pu_assign rfl) ?_
    refine lex.nil ?_
    refine hK12 _ _ ?_
    obtain rfl := Option.some.inj hb
    refine Wc.ret ?_
    refine hKR _ _ ?_
    refine ⟨_, res1 Try.results22 (show RV _ _ _ (.tmp _) (.int .i64 0) from rfl), _, rfl, rfl, (show I64 0 from by unfold I64; omega), hC.sel [] (by decide)⟩
  · replace hb := (cF hq11).symm.trans hb
    refine Wc.skip ?_
    refine hK6 _ _ ?_
    refine Wc.seq fun K13 hK13 => ?_
    refine Wc.region (by decide +kernel) ?_
    refine lex.pure (v := .int .i64 0) (pu_assign rfl) ?_
    refine lex.nil ?_
    refine hK13 _ _ ?_
    refine Wc.seq fun K14 hK14 => ?_
    refine Wc.seq fun K15 hK15 => ?_
    refine Wc.region (by decide +kernel) ?_
    refine lex.pure (v := .pointer (some ((⟨g3, 0, none⟩ : Addr).add 1))) (pu_field (sz := 1) Try.underlying27 rfl Try.sizeOf22 (by decide) rfl rfl) ?_
    refine lex.val (v := .slice Ab_0_1 b_0_1.length cb_0_1) (ld_fld (hC.bx (i := 0) rfl) Try.isAgg22 rfl rfl) ?_
    refine lex.pure (v := .int .i64 (b_0_1.length : Int)) (pu_len (A := Ab_0_1) (n := b_0_1.length) (m := cb_0_1) Try.underlying22 rfl) ?_
    refine lex.pure (v := .int .i64 0) (pu_move rfl) ?_
    refine lex.nil ?_
    refine hK15 _ _ ?_
    refine Wc.fresh fun E16 hE => ?_
    have e2 : E16 2 = .int .i64 0 := (congrFun hE 2).trans rfl
    have e3 : E16 3 = .int .i64 0 := (congrFun hE 3).trans rfl
    have e10 : E16 10 = .slice Ab_0_1 b_0_1.length cb_0_1 := (congrFun hE 10).trans rfl
    have e11 : E16 11 = .int .i64 (b_0_1.length : Int) := (congrFun hE 11).trans rfl
    have e12 : E16 12 = .int .i64 0 := (congrFun hE 12).trans rfl
    clear hE
    obtain ⟨o17, hl0, hb⟩ := bd hb
    refine Wc.cut (fun E wv => ∃ (v3_0 : Int) (v12_0 : Int), E 2 = .int .i64 0 ∧ E 3 = .int .i64 v3_0 ∧ I64 v3_0 ∧ I64 v12_0 ∧ Cx (fun _ => False) O0 w wv [] ∧ (some v3_0) = some r) (fun K18 hK18 => ?_) ?_
    · refine Wc.block ?_
      refine Wc.loop (fun m E wv => ∃ (v3_0 : Int) (v12_0 : Int), E 2 = .int .i64 0 ∧ E 3 = .int .i64 v3_0 ∧ E 10 = .slice Ab_0_1 b_0_1.length cb_0_1 ∧ E 11 = .int .i64 (b_0_1.length : Int) ∧ E 12 = .int .i64 v12_0 ∧ I64 v3_0 ∧ I64 v12_0 ∧ Cx (fun _ => False) O0 w wv [.ro (.sl (.int .i64)) [.slice Ab_0_1 b_0_1.length cb_0_1] b_0_1] ∧ loopN m (F.braid_Exponent_b0 n b_0_1) (v3_0, v12_0) = some o17) n ⟨0, 0, e2, e3, e10, e11, e12, (show I64 0 from by unfold I64; omega), (show I64 0 from by unfold I64; omega), hC.sel [1] (by decide), hl0⟩ ?_
      have hbK0 := hb
      clear hb hC hl0
      rintro m20 E22 w21 ⟨v3_0, v12_0, e2, e3, e10, e11, e12, hrv3_0, hrv12_0, hC, hl0⟩ K19 hK19
      obtain ⟨m20', o23, rfl, hb, hl0⟩ := loopN_some hl0
      unfold F.braid_Exponent_b0 at hb
      refine Wc.seq fun K24 hK24 => ?_
      refine Wc.region (by decide +kernel) ?_
      refine lex.pure (v := .bool (decide (v12_0 < (b_0_1.length : Int)))) (pu_lss (k := .i64) (a := v12_0) (b := (b_0_1.length : Int)) e12 e11) ?_
      refine lex.nil ?_
      refine hK24 _ _ ?_
      refine Wc.seq fun K25 hK25 => ?_
      refine Wc.cond (t := (decide (v12_0 < (b_0_1.length : Int)))) (rfl) (fun hq26 => ?_) (fun hq26 => ?_)
      · replace hb := (cT hq26).symm.trans hb
        refine Wc.skip ?_
        refine hK25 _ _ ?_
        refine Wc.seq fun K27 hK27 => ?_
        refine Wc.block ?_
        refine Wc.seq fun K28 hK28 => ?_
        refine Wc.region (by decide +kernel) ?_
        obtain ⟨x29, h30, hb⟩ := bd hb
        obtain ⟨ad31, cs32, hA, hc33, hr34⟩ := hC.elr (i := 0) rfl (get_some h30).2
        subst hA
        refine lex.pure (v := .pointer (some (ad31.add (v12_0.toNat * 1)))) (pu_index (a := v12_0) Try.underlying22 Try.sizeOf3 e10 e12 (get_some h30).1) ?_
        obtain ⟨rfl, hr34'⟩ := hr34
        refine lex.val (v := .int .i64 x29) (ld_one Try.isAgg3 rfl (hc33 0 _ rfl)) ?_
        refine lex.pure (v := .int .i64 x29) (pu_assign rfl) ?_
        refine lex.nil ?_
        refine hK28 _ _ ?_
        refine Wc.seq fun K35 hK35 => ?_
        refine Wc.region (by decide +kernel) ?_
        refine lex.pure (v := .int .i64 x29) (pu_move rfl) ?_
        refine lex.pure (v := .bool (decide (0 < x29))) (pu_gtr (k := .i64) (a := x29) (b := 0) rfl rfl) ?_
        refine lex.nil ?_
        refine hK35 _ _ ?_
        refine Wc.cond (t := (decide (0 < x29))) (rfl) (fun hq36 => ?_) (fun hq36 => ?_)
        · replace hb := (cT hq36).symm.trans hb
          refine Wc.region (by decide +kernel) ?_
          refine lex.pure (v := .int .i64 v3_0) (pu_move e3) ?_
          obtain ⟨z37, h38, hb⟩ := bd hb
          refine lex.pure (v := .int .i64 z37) (pu_addc (a := v3_0) (b := 1) rfl rfl h38) ?_
          refine lex.pure (v := .int .i64 z37) (pu_assign rfl) ?_
          refine lex.nil ?_
          refine hK27 _ _ ?_
          refine Wc.region (by decide +kernel) ?_
          obtain ⟨z39, h40, hb⟩ := bd hb
          refine lex.pure (v := .int .i64 z39) (pu_addc (a := v12_0) (b := 1) e12 rfl h40) ?_
          refine lex.pure (v := .int .i64 z39) (pu_move rfl) ?_
          refine lex.nil ?_
          obtain rfl := Option.some.inj hb
          exact hK19 m20' _ _ (Nat.lt_succ_self _) ⟨z37, z39, e2, rfl, e10, e11, rfl, (chk_rng h38), (chk_rng h40), hC.sel [0] (by decide), lN hl0⟩
        · replace hb := (cF hq36).symm.trans hb
          refine Wc.region (by decide +kernel) ?_
          refine lex.pure (v := .int .i64 v3_0) (pu_move e3) ?_
          obtain ⟨z41, h42, hb⟩ := bd hb
          refine lex.pure (v := .int .i64 z41) (pu_subc (a := v3_0) (b := 1) rfl rfl h42) ?_
          refine lex.pure (v := .int .i64 z41) (pu_assign rfl) ?_
          refine lex.nil ?_
          refine hK27 _ _ ?_
          refine Wc.region (by decide +kernel) ?_
          obtain ⟨z43, h44, hb⟩ := bd hb
          refine lex.pure (v := .int .i64 z43) (pu_addc (a := v12_0) (b := 1) e12 rfl h44) ?_
          refine lex.pure (v := .int .i64 z43) (pu_move rfl) ?_
          refine lex.nil ?_
          obtain rfl := Option.some.inj hb
          exact hK19 m20' _ _ (Nat.lt_succ_self _) ⟨z41, z43, e2, rfl, e10, e11, rfl, (chk_rng h42), (chk_rng h44), hC.sel [0] (by decide), lN hl0⟩
      · replace hb := (cF hq26).symm.trans hb
        refine Wc.exit rfl ?_
        obtain rfl := Option.some.inj hb
        obtain rfl := lX hl0
        exact hK18 _ _ ⟨v3_0, v12_0, e2, e3, hrv3_0, hrv12_0, hC.sel [] (by decide), hbK0⟩
    · clear hb hC hl0
      rintro E46 w45 ⟨v3_0, v12_0, e2, e3, hrv3_0, hrv12_0, hC, hb⟩
      refine hK14 _ _ ?_
      refine Wc.seq fun K47 hK47 => ?_
      refine Wc.region (by decide +kernel) ?_
      refine lex.pure (v := .int .i64 v3_0) (pu_move e3) ?_
      refine lex.pure (v := .int .i64 v3_0) (pu_assign rfl) ?_
      refine lex.nil ?_
      refine hK47 _ _ ?_
      obtain rfl := Option.some.inj hb
      refine Wc.ret ?_
      refine hKR _ _ ?_
      refine ⟨_, res1 Try.results22 (show RV _ _ _ (.tmp _) (.int .i64 v3_0) from rfl), _, rfl, rfl, hrv3_0, hC.sel [] (by decide)⟩

set_option maxRecDepth 100000 in
set_option maxHeartbeats 4000000 in
theorem braid_generator_ok (n : Nat) {w : World} {O0 : List Nat} (hO : ∀ k ∈ O0, k < w.heap.size) {letter_0 : Int} (hletter_0 : I64 letter_0) {r : Int} (hb : F.braid_generator n letter_0 = some r) :
    Calls Try.prog 38 #[.int .i64 letter_0] w fun e w' => ∃ v, e = .returned v ∧ v = .int .i64 r ∧ I64 r ∧ Cx (fun _ => False) O0 w w' [] := by
  unfold F.braid_generator at hb
  have hC := Cx.start hO
  clear hO
  refine calls_of_Wc Try.func38 rfl (by rw [Try.ntmps38]; exact Nat.le_of_ble_eq_true rfl) fun KR hKR => ?_
  refine Wc.seq fun K1 hK1 => ?_
  refine Wc.region (by decide +kernel) ?_
  refine lex.pure (v := .int .i64 0) (pu_assign rfl) ?_
  refine lex.nil ?_
  refine hK1 _ _ ?_
  refine Wc.seq fun K2 hK2 => ?_
  refine Wc.region (by decide +kernel) ?_
  refine lex.pure (v := .int .i64 letter_0) (pu_move rfl) ?_
  refine lex.pure (v := .int .i64 letter_0) (pu_move rfl) ?_
  obtain ⟨z3, h4, hb⟩ := bd hb
  refine lex.pure (v := .int .i64 z3) (pu_negc (a := letter_0) rfl h4) ?_
  refine lex.pure (v := .int .i64 (max letter_0 z3)) (pu_max (a := letter_0) (b := z3) rfl rfl) ?_
  refine lex.pure (v := .int .i64 (max letter_0 z3)) (pu_assign rfl) ?_
  refine lex.nil ?_
  refine hK2 _ _ ?_
  obtain rfl := Option.some.inj hb
  refine Wc.ret ?_
  refine hKR _ _ ?_
  refine ⟨_, res1 Try.results38 (show RV _ _ _ (.tmp _) (.int .i64 (max letter_0 z3)) from rfl), _, rfl, rfl, (I64.max hletter_0 (chk_rng h4)), hC.sel [] (by decide)⟩

set_option maxRecDepth 100000 in
set_option maxHeartbeats 4000000 in
theorem braid_Perm_ok (n : Nat) {w : World} {O0 : List Nat} (hO : ∀ k ∈ O0, k < w.heap.size) {b_0_0 : Int} (hb_0_0 : I64 b_0_0) {Ab_0_1 : Option Addr} {mb_0_1 cb_0_1 : Nat} {b_0_1 : List Int} (hb_0_1 : Rep O0 w (.sl (.int .i64)) [.slice Ab_0_1 mb_0_1 cb_0_1] b_0_1) {r : (List Int)} (hb : F.braid_Perm n b_0_0 b_0_1 = some r) :
    Calls Try.prog 23 #[.agg #[.int .i64 b_0_0, .slice Ab_0_1 mb_0_1 cb_0_1]] w fun e w' => ∃ v, e = .returned v ∧ ∃ (A0 : Option Addr) (m0 c0 : Nat), v = .slice A0 m0 c0 ∧ Cx (fun _ => False) O0 w w' [.own 3 (.int .i64) (.slice A0 m0 c0) r] := by
  unfold F.braid_Perm at hb
  have hC := Cx.start hO
  replace hC := hC.arg rfl hb_0_1
  clear hO
  obtain ⟨rfl, hlb_0_1, hcb_0_1⟩ := hb_0_1.sl_len
  refine calls_of_Wc Try.func23 rfl (by rw [Try.ntmps23]; exact Nat.le_of_ble_eq_true rfl) fun KR hKR => ?_
  refine Wc.seq fun K2 hK2 => ?_
  refine Wc.region (by decide +kernel) ?_
  refine lex.op (hC.box (cs := [.int .i64 b_0_0, .slice Ab_0_1 b_0_1.length cb_0_1]) rfl rfl) ?_
  rintro _ w4 ⟨g3, rfl, hC, hF, hG⟩
  clear hG
  refine lex.pure (v := .slice none 0 0) (pu_assign rfl) ?_
  refine lex.nil ?_
  refine hK2 _ _ ?_
  refine Wc.seq fun K6 hK6 => ?_
  refine Wc.seq fun K7 hK7 => ?_
  refine Wc.region (by decide +kernel) ?_
  refine lex.val (v := .agg #[.int .i64 b_0_0, .slice Ab_0_1 b_0_1.length cb_0_1]) (ld_blk (hC.bx (i := 0) rfl) Try.isAgg27 Try.sizeOf27 rfl) ?_
  obtain ⟨y8, h9, hb⟩ := bd hb
  refine lex.cl (⟨_, _, op_call (vs := [.agg #[.int .i64 b_0_0, .slice Ab_0_1 b_0_1.length cb_0_1]]) Try.call15 rfl rfl rfl, braid_Valid_ok n hC.lt hb_0_0 (hC.rd (i := 1) rfl) h9⟩) ?_
  rintro _ w10 ⟨rfl, hK⟩
  replace hC := hC.merge hK
  clear hK
  refine lex.pure (v := .bool (!y8)) (pu_not (q := y8) rfl) ?_
  refine lex.nil ?_
  refine hK7 _ _ ?_
  refine Wc.cond (t := (!y8)) (rfl) (fun hq11 => ?_) (fun hq11 => ?_)
  · replace hb := (cT hq11).symm.trans hb
    refine Wc.seq fun K12 hK12 => ?_
    refine Wc.region (by decide +kernel) ?_
    refine lex.pure (v := .slice none 0 0) (pu_assign rfl) ?_
    refine lex.nil ?_
    refine hK12 _ _ ?_
    replace hC := hC.nil 3 (.int .i64)
    obtain rfl := Option.some.inj hb
    refine Wc.ret ?_
    refine hKR _ _ ?_
    refine ⟨_, res1 Try.results23 (show RV _ _ _ (.tmp _) (.slice none 0 0) from rfl), _, rfl, none, 0, 0, rfl, hC.sel [0] (by decide)⟩
  · replace hb := (cF hq11).symm.trans hb
    refine Wc.skip ?_
    refine hK6 _ _ ?_
    refine Wc.seq fun K14 hK14 => ?_
    refine Wc.region (by decide +kernel) ?_
    refine lex.pure (v := .pointer (some ((⟨g3, 0, none⟩ : Addr).add 0))) (pu_field (sz := 1) Try.underlying27 rfl Try.sizeOf3 (by decide) rfl rfl) ?_
    refine lex.val (v := .int .i64 b_0_0) (ld_fld (hC.bx (i := 0) rfl) Try.isAgg3 rfl rfl) ?_
    obtain ⟨u15, h16, hb⟩ := bd hb
    refine lex.op (hC.make (s := (.int .i64)) (n := b_0_0) Try.underlying22 Try.type3 rfl rfl rfl rfl rfl (pos_some h16).1 (pos_some h16).2 (by decide)) ?_
    rintro _ w21 ⟨A17, c18, rfl, hl19, hc20, hC, hF, hN⟩
    clear hF hN
    refine lex.pure (v := .slice A17 (((List.replicate b_0_0.toNat (0 : Int))).length) c18) (pu_assign rfl) ?_
    refine lex.nil ?_
    refine hK14 _ _ ?_
    refine Wc.seq fun K23 hK23 => ?_
    refine Wc.seq fun K24 hK24 => ?_
    refine Wc.region (by decide +kernel) ?_
    refine lex.pure (v := .slice A17 (((List.replicate b_0_0.toNat (0 : Int))).length) c18) (pu_move rfl) ?_
    refine lex.pure (v := .int .i64 (((List.replicate b_0_0.toNat (0 : Int))).length : Int)) (pu_len (A := A17) (n := ((List.replicate b_0_0.toNat (0 : Int))).length) (m := c18) Try.underlying22 rfl) ?_
    refine lex.pure (v := .int .i64 0) (pu_move rfl) ?_
    refine lex.nil ?_
    refine hK24 _ _ ?_
    refine Wc.fresh fun E25 hE => ?_
    have e1 : E25 1 = .pointer (some ⟨g3, 0, none⟩) := (congrFun hE 1).trans rfl
    have e2 : E25 2 = .slice none 0 0 := (congrFun hE 2).trans rfl
    have e3 : E25 3 = .slice A17 (((List.replicate b_0_0.toNat (0 : Int))).length) c18 := (congrFun hE 3).trans rfl
    have e18 : E25 18 = .int .i64 (((List.replicate b_0_0.toNat (0 : Int))).length : Int) := (congrFun hE 18).trans rfl
    have e19 : E25 19 = .int .i64 0 := (congrFun hE 19).trans rfl
    clear hE
    obtain ⟨o26, hl0, hb⟩ := bd hb
    refine Wc.cut (fun E wv => ∃ (v19_0 : Int) (qf22_0 : List Int), E 1 = .pointer (some ⟨g3, 0, none⟩) ∧ E 2 = .slice none 0 0 ∧ E 3 = .slice A17 (((List.replicate b_0_0.toNat (0 : Int))).length) c18 ∧ I64 v19_0 ∧ Cx (fun _ => False) O0 w wv [.box g3 27 [.int .i64 b_0_0, .slice Ab_0_1 b_0_1.length cb_0_1], .ro (.sl (.int .i64)) [.slice Ab_0_1 b_0_1.length cb_0_1] b_0_1, .own 3 (.int .i64) (.slice A17 (((List.replicate b_0_0.toNat (0 : Int))).length) c18) qf22_0] ∧ (((loopN n (F.braid_Perm_b1 n b_0_1) (0, qf22_0)).bind fun o51 => match o51 with     | (v30_1, qf22_1) => (pos b_0_0).bind fun u114 => ((loopN n (F.braid_Perm_b2 n b_0_0 qf22_1) (0, (List.replicate b_0_0.toNat (0 : Int)))).bind fun o124 => match o124 with     | (v58_2, qf121_2) => some qf121_2))) = some r) (fun K27 hK27 => ?_) ?_
    · refine Wc.block ?_
      refine Wc.loop (fun m E wv => ∃ (v19_0 : Int) (qf22_0 : List Int), E 1 = .pointer (some ⟨g3, 0, none⟩) ∧ E 2 = .slice none 0 0 ∧ E 3 = .slice A17 (((List.replicate b_0_0.toNat (0 : Int))).length) c18 ∧ E 18 = .int .i64 (((List.replicate b_0_0.toNat (0 : Int))).length : Int) ∧ E 19 = .int .i64 v19_0 ∧ I64 v19_0 ∧ Cx (fun _ => False) O0 w wv [.box g3 27 [.int .i64 b_0_0, .slice Ab_0_1 b_0_1.length cb_0_1], .ro (.sl (.int .i64)) [.slice Ab_0_1 b_0_1.length cb_0_1] b_0_1, .own 3 (.int .i64) (.slice A17 (((List.replicate b_0_0.toNat (0 : Int))).length) c18) qf22_0] ∧ loopN m (F.braid_Perm_b0 n b_0_0) (v19_0, qf22_0) = some o26) n ⟨0, (List.replicate b_0_0.toNat (0 : Int)), e1, e2, e3, e18, e19, (show I64 0 from by unfold I64; omega), hC.sel [1, 2, 0] (by decide), hl0⟩ ?_
      have hbK0 := hb
      clear hb hC hl0
      rintro m29 E31 w30 ⟨v19_0, qf22_0, e1, e2, e3, e18, e19, hrv19_0, hC, hl0⟩ K28 hK28
      obtain ⟨m29', o32, rfl, hb, hl0⟩ := loopN_some hl0
      unfold F.braid_Perm_b0 at hb
      refine Wc.seq fun K33 hK33 => ?_
      refine Wc.region (by decide +kernel) ?_
      refine lex.pure (v := .bool (decide (v19_0 < (((List.replicate b_0_0.toNat (0 : Int))).length : Int)))) (pu_lss (k := .i64) (a := v19_0) (b := (((List.replicate b_0_0.toNat (0 : Int))).length : Int)) e19 e18) ?_
      refine lex.nil ?_
      refine hK33 _ _ ?_
      refine Wc.seq fun K34 hK34 => ?_
      refine Wc.cond (t := (decide (v19_0 < (((List.replicate b_0_0.toNat (0 : Int))).length : Int)))) (rfl) (fun hq35 => ?_) (fun hq35 => ?_)
      · replace hb := (cT hq35).symm.trans hb
        refine Wc.skip ?_
        refine hK34 _ _ ?_
        refine Wc.seq fun K36 hK36 => ?_
        refine Wc.block ?_
        refine Wc.seq fun K37 hK37 => ?_
        refine Wc.region (by decide +kernel) ?_
        refine lex.pure (v := .int .i64 v19_0) (pu_move e19) ?_
        refine lex.pure (v := .int .i64 v19_0) (pu_assign rfl) ?_
        refine lex.nil ?_
        refine hK37 _ _ ?_
        refine Wc.region (by decide +kernel) ?_
        refine lex.pure (v := .slice A17 (((List.replicate b_0_0.toNat (0 : Int))).length) c18) (pu_move e3) ?_
        refine lex.pure (v := .int .i64 v19_0) (pu_move rfl) ?_
        refine lex.pure (v := .int .i64 v19_0) (pu_move rfl) ?_
        obtain ⟨x38, h39, hb⟩ := bd hb
        obtain ⟨ad40, cs41, hA, hc42, hr43⟩ := hC.elo (i := 2) rfl (get_some h39).2
        subst hA
        refine lex.pure (v := .pointer (some (ad40.add (v19_0.toNat * 1)))) (pu_index (a := v19_0) Try.underlying22 Try.sizeOf3 rfl rfl (by rw [(hC.ow (i := 2) rfl).sl_len.1]; exact (get_some h39).1)) ?_
        refine lex.sk (hC.put (i := 2) rfl rfl Try.sizeOf3 (k := v19_0.toNat) (a := v19_0) (by have := (get_some h39).1; simp at this ⊢; omega) (⟨rfl, I64.wr hrv19_0⟩) rfl rfl rfl) ?_
        rintro w44 ⟨hC, hF⟩
        refine lex.nil ?_
        refine hK36 _ _ ?_
        refine Wc.region (by decide +kernel) ?_
        obtain ⟨z45, h46, hb⟩ := bd hb
        refine lex.pure (v := .int .i64 z45) (pu_addc (a := v19_0) (b := 1) e19 rfl h46) ?_
        refine lex.pure (v := .int .i64 z45) (pu_move rfl) ?_
        refine lex.nil ?_
        obtain rfl := Option.some.inj hb
        exact hK28 m29' _ _ (Nat.lt_succ_self _) ⟨z45, (qf22_0.set v19_0.toNat v19_0), e1, e2, e3, e18, rfl, (chk_rng h46), hC.sel [0, 1, 2] (by decide), lN hl0⟩
      · replace hb := (cF hq35).symm.trans hb
        refine Wc.exit rfl ?_
        obtain rfl := Option.some.inj hb
        obtain rfl := lX hl0
        exact hK27 _ _ ⟨v19_0, qf22_0, e1, e2, e3, hrv19_0, hC.sel [0, 1, 2] (by decide), hbK0⟩
    · clear hb hC hl0
      rintro E48 w47 ⟨v19_0, qf22_0, e1, e2, e3, hrv19_0, hC, hb⟩
      refine hK23 _ _ ?_
      refine Wc.seq fun K49 hK49 => ?_
      refine Wc.seq fun K50 hK50 => ?_
      refine Wc.region (by decide +kernel) ?_
      refine lex.pure (v := .pointer (some ((⟨g3, 0, none⟩ : Addr).add 1))) (pu_field (sz := 1) Try.underlying27 rfl Try.sizeOf22 (by decide) rfl e1) ?_
      refine lex.val (v := .slice Ab_0_1 b_0_1.length cb_0_1) (ld_fld (hC.bx (i := 0) rfl) Try.isAgg22 rfl rfl) ?_
      refine lex.pure (v := .int .i64 (b_0_1.length : Int)) (pu_len (A := Ab_0_1) (n := b_0_1.length) (m := cb_0_1) Try.underlying22 rfl) ?_
      refine lex.pure (v := .int .i64 0) (pu_move rfl) ?_
      refine lex.nil ?_
      refine hK50 _ _ ?_
      obtain ⟨o51, hl1, hb⟩ := bd hb
      refine Wc.cut (fun E wv => ∃ (v30_1 : Int) (qf22_1 : List Int), E 1 = .pointer (some ⟨g3, 0, none⟩) ∧ E 2 = .slice none 0 0 ∧ E 3 = .slice A17 (((List.replicate b_0_0.toNat (0 : Int))).length) c18 ∧ I64 v30_1 ∧ Cx (fun _ => False) O0 w wv [.box g3 27 [.int .i64 b_0_0, .slice Ab_0_1 b_0_1.length cb_0_1], .ro (.sl (.int .i64)) [.slice Ab_0_1 b_0_1.length cb_0_1] b_0_1, .own 3 (.int .i64) (.slice A17 (((List.replicate b_0_0.toNat (0 : Int))).length) c18) qf22_1] ∧ ((pos b_0_0).bind fun u114 => ((loopN n (F.braid_Perm_b2 n b_0_0 qf22_1) (0, (List.replicate b_0_0.toNat (0 : Int)))).bind fun o124 => match o124 with     | (v58_2, qf121_2) => some qf121_2)) = some r) (fun K52 hK52 => ?_) ?_
      · refine Wc.block ?_
        refine Wc.loop (fun m E wv => ∃ (v30_1 : Int) (qf22_1 : List Int), E 1 = .pointer (some ⟨g3, 0, none⟩) ∧ E 2 = .slice none 0 0 ∧ E 3 = .slice A17 (((List.replicate b_0_0.toNat (0 : Int))).length) c18 ∧ E 28 = .slice Ab_0_1 b_0_1.length cb_0_1 ∧ E 29 = .int .i64 (b_0_1.length : Int) ∧ E 30 = .int .i64 v30_1 ∧ I64 v30_1 ∧ Cx (fun _ => False) O0 w wv [.box g3 27 [.int .i64 b_0_0, .slice Ab_0_1 b_0_1.length cb_0_1], .ro (.sl (.int .i64)) [.slice Ab_0_1 b_0_1.length cb_0_1] b_0_1, .own 3 (.int .i64) (.slice A17 (((List.replicate b_0_0.toNat (0 : Int))).length) c18) qf22_1] ∧ loopN m (F.braid_Perm_b1 n b_0_1) (v30_1, qf22_1) = some o51) n ⟨0, qf22_0, e1, e2, e3, rfl, rfl, rfl, (show I64 0 from by unfold I64; omega), hC.sel [0, 1, 2] (by decide), hl1⟩ ?_
        have hbK1 := hb
        clear hb hC hl1
        rintro m54 E56 w55 ⟨v30_1, qf22_1, e1, e2, e3, e28, e29, e30, hrv30_1, hC, hl1⟩ K53 hK53
        obtain ⟨m54', o57, rfl, hb, hl1⟩ := loopN_some hl1
        unfold F.braid_Perm_b1 at hb
        refine Wc.seq fun K58 hK58 => ?_
        refine Wc.region (by decide +kernel) ?_
        refine lex.pure (v := .bool (decide (v30_1 < (b_0_1.length : Int)))) (pu_lss (k := .i64) (a := v30_1) (b := (b_0_1.length : Int)) e30 e29) ?_
        refine lex.nil ?_
        refine hK58 _ _ ?_
        refine Wc.seq fun K59 hK59 => ?_
        refine Wc.cond (t := (decide (v30_1 < (b_0_1.length : Int)))) (rfl) (fun hq60 => ?_) (fun hq60 => ?_)
        · replace hb := (cT hq60).symm.trans hb
          refine Wc.skip ?_
          refine hK59 _ _ ?_
          refine Wc.seq fun K61 hK61 => ?_
          refine Wc.block ?_
          refine Wc.seq fun K62 hK62 => ?_
          refine Wc.region (by decide +kernel) ?_
          obtain ⟨x63, h64, hb⟩ := bd hb
          obtain ⟨ad65, cs66, hA, hc67, hr68⟩ := hC.elr (i := 1) rfl (get_some h64).2
          subst hA
          refine lex.pure (v := .pointer (some (ad65.add (v30_1.toNat * 1)))) (pu_index (a := v30_1) Try.underlying22 Try.sizeOf3 e28 e30 (get_some h64).1) ?_
          obtain ⟨rfl, hr68'⟩ := hr68
          refine lex.val (v := .int .i64 x63) (ld_one Try.isAgg3 rfl (hc67 0 _ rfl)) ?_
          refine lex.pure (v := .int .i64 x63) (pu_assign rfl) ?_
          refine lex.nil ?_
          refine hK62 _ _ ?_
          refine Wc.seq fun K69 hK69 => ?_
          refine Wc.region (by decide +kernel) ?_
          refine lex.pure (v := .int .i64 x63) (pu_move rfl) ?_
          obtain ⟨y70, h71, hb⟩ := bd hb
          refine lex.cl (⟨_, _, op_call (vs := [.int .i64 x63]) Try.call38 rfl rfl rfl, braid_generator_ok n hC.lt (wrap_I64 hr68') h71⟩) ?_
          rintro _ w73 ⟨rfl, hr72, hK⟩
          replace hC := hC.merge hK
          clear hK
          refine lex.pure (v := .int .i64 y70) (pu_assign rfl) ?_
          refine lex.nil ?_
          refine hK69 _ _ ?_
          refine Wc.regionMix [] (frm [] ([] : List Fact) [.own 3 (.int .i64) (.slice A17 (((List.replicate b_0_0.toNat (0 : Int))).length) c18) qf22_1]) (fun _ => rfl) mixed (by decide +kernel) (by decide +kernel) fun w75 hw74 => ?_
          replace hC := hC.step (Fr.of_drew hw74)
          have hM := Fr.refl (fun k => k ∈ blocks ([] : List Fact)) w75
          clear hw74
          have hS := hC
          have hD : Fr (fun k => k ∈ blocks (([] : List Fact) ++ [.own 3 (.int .i64) (.slice A17 (((List.replicate b_0_0.toNat (0 : Int))).length) c18) qf22_1])) w75 w75 := hM.wide
          have hUf22 : Beside (([] : List Fact) ++ [.own 3 (.int .i64) (.slice A17 (((List.replicate b_0_0.toNat (0 : Int))).length) c18) qf22_1]) w75 (.slice A17 (((List.replicate b_0_0.toNat (0 : Int))).length) c18) := Beside.of (i := 0) rfl
          refine mixE.pure (v := .slice A17 (((List.replicate b_0_0.toNat (0 : Int))).length) c18) (pu_move e3) ?_
          refine mixE.pure (v := .int .i64 y70) (pu_move rfl) ?_
          obtain ⟨z76, h77, hb⟩ := bd hb
          refine mixE.pure (v := .int .i64 z76) (pu_subc (a := y70) (b := 1) rfl rfl h77) ?_
          refine mixE.pure (v := .slice A17 (((List.replicate b_0_0.toNat (0 : Int))).length) c18) (pu_move e3) ?_
          refine mixE.pure (v := .int .i64 y70) (pu_move rfl) ?_
          refine mixE.pure (v := .slice A17 (((List.replicate b_0_0.toNat (0 : Int))).length) c18) (pu_move e3) ?_
          refine mixE.pure (v := .int .i64 y70) (pu_move rfl) ?_
          obtain ⟨x78, h79, hb⟩ := bd hb
          obtain ⟨ad80, cs81, hA, ho84, hc82, hr83⟩ := hS.elo2 (i := 2) rfl (get_some h79).2 [] (by decide)
          subst hA
          refine mixE.pure (v := .pointer (some (ad80.add (y70.toNat * 1)))) (pu_index (a := y70) Try.underlying22 Try.sizeOf3 rfl rfl (by rw [(hC.ow (i := 2) rfl).sl_len.1]; exact (get_some h79).1)) ?_
          obtain ⟨rfl, hr83'⟩ := hr83
          refine mixE.load hM (v := .int .i64 x78) (fun _ hF => ld_one Try.isAgg3 rfl (hF.cell (hc82 0 _ rfl) (off1 ho84))) ?_
          refine mixE.pure (v := .slice (some ad80) (((List.replicate b_0_0.toNat (0 : Int))).length) c18) (pu_move e3) ?_
          refine mixE.pure (v := .int .i64 y70) (pu_move rfl) ?_
          obtain ⟨z85, h86, hb⟩ := bd hb
          refine mixE.pure (v := .int .i64 z85) (pu_subc (a := y70) (b := 1) rfl rfl h86) ?_
          obtain ⟨x87, h88, hb⟩ := bd hb
          obtain ⟨ad89, cs90, hA, ho93, hc91, hr92⟩ := hS.elo2 (i := 2) rfl (get_some h88).2 [] (by decide)
          obtain rfl := Option.some.inj hA
          refine mixE.pure (v := .pointer (some (ad80.add (z85.toNat * 1)))) (pu_index (a := z85) Try.underlying22 Try.sizeOf3 rfl rfl (by rw [(hC.ow (i := 2) rfl).sl_len.1]; exact (get_some h88).1)) ?_
          obtain ⟨rfl, hr92'⟩ := hr92
          refine mixE.load hM (v := .int .i64 x87) (fun _ hF => ld_one Try.isAgg3 rfl (hF.cell (hc91 0 _ rfl) (off1 ho93))) ?_
          obtain ⟨x94, h95, hb⟩ := bd hb
          obtain ⟨ad96, cs97, hA, ho100, hc98, hr99⟩ := hS.elo2 (i := 2) rfl (get_some h95).2 [] (by decide)
          obtain rfl := Option.some.inj hA
          refine mixE.pure (v := .pointer (some (ad80.add (z76.toNat * 1)))) (pu_index (a := z76) Try.underlying22 Try.sizeOf3 rfl rfl (by rw [(hC.ow (i := 2) rfl).sl_len.1]; exact (get_some h95).1)) ?_
          refine mixE.sk hD (hC.put (i := 2) rfl rfl Try.sizeOf3 (k := z76.toNat) (a := x78) (by have := (get_some h95).1; simp at this ⊢; omega) (⟨rfl, I64.wr (wrap_I64 hr83')⟩) rfl rfl rfl) ?_
          rintro w101 ⟨hC, hF⟩
          replace hD := hD.beside hUf22 hF
          clear hF
          refine ⟨hD, ?_⟩
          obtain ⟨x102, h103, hb⟩ := bd hb
          obtain ⟨ad104, cs105, hA, hc106, hr107⟩ := hC.elo (i := 2) rfl (get_some h103).2
          obtain rfl := Option.some.inj hA
          refine mixE.pure (v := .pointer (some (ad80.add (y70.toNat * 1)))) (pu_index (a := y70) Try.underlying22 Try.sizeOf3 rfl rfl (by rw [(hC.ow (i := 2) rfl).sl_len.1]; exact (get_some h103).1)) ?_
          refine mixE.sk hD (hC.put (i := 2) rfl rfl Try.sizeOf3 (k := y70.toNat) (a := x87) (by have := (get_some h103).1; simp at this ⊢; omega) (⟨rfl, I64.wr (wrap_I64 hr92')⟩) rfl rfl rfl) ?_
          rintro w108 ⟨hC, hF⟩
          replace hD := hD.beside hUf22 hF
          clear hF
          refine ⟨hD, ?_⟩
          refine mixE.nil ?_
          clear hS hM
          clear hD
          refine hK61 _ _ ?_
          refine Wc.region (by decide +kernel) ?_
          obtain ⟨z109, h110, hb⟩ := bd hb
          refine lex.pure (v := .int .i64 z109) (pu_addc (a := v30_1) (b := 1) e30 rfl h110) ?_
          refine lex.pure (v := .int .i64 z109) (pu_move rfl) ?_
          refine lex.nil ?_
          obtain rfl := Option.some.inj hb
          exact hK53 m54' _ _ (Nat.lt_succ_self _) ⟨z109, ((qf22_1.set z76.toNat x78).set y70.toNat x87), e1, e2, e3, e28, e29, rfl, (chk_rng h110), hC.sel [0, 1, 2] (by decide), lN hl1⟩
        · replace hb := (cF hq60).symm.trans hb
          refine Wc.exit rfl ?_
          obtain rfl := Option.some.inj hb
          obtain rfl := lX hl1
          exact hK52 _ _ ⟨v30_1, qf22_1, e1, e2, e3, hrv30_1, hC.sel [0, 1, 2] (by decide), hbK1⟩
      · clear hb hC hl1
        rintro E112 w111 ⟨v30_1, qf22_1, e1, e2, e3, hrv30_1, hC, hb⟩
        refine hK49 _ _ ?_
        refine Wc.seq fun K113 hK113 => ?_
        refine Wc.region (by decide +kernel) ?_
        refine lex.pure (v := .pointer (some ((⟨g3, 0, none⟩ : Addr).add 0))) (pu_field (sz := 1) Try.underlying27 rfl Try.sizeOf3 (by decide) rfl e1) ?_
        refine lex.val (v := .int .i64 b_0_0) (ld_fld (hC.bx (i := 0) rfl) Try.isAgg3 rfl rfl) ?_
        obtain ⟨u114, h115, hb⟩ := bd hb
        refine lex.op (hC.make (s := (.int .i64)) (n := b_0_0) Try.underlying52 Try.type3 rfl rfl rfl rfl rfl (pos_some h115).1 (pos_some h115).2 (by decide)) ?_
        rintro _ w120 ⟨A116, c117, rfl, hl118, hc119, hC, hF, hN⟩
        clear hF hN
        refine lex.pure (v := .slice A116 (((List.replicate b_0_0.toNat (0 : Int))).length) c117) (pu_assign rfl) ?_
        refine lex.nil ?_
        refine hK113 _ _ ?_
        refine Wc.seq fun K122 hK122 => ?_
        refine Wc.seq fun K123 hK123 => ?_
        refine Wc.region (by decide +kernel) ?_
        refine lex.pure (v := .slice A17 (((List.replicate b_0_0.toNat (0 : Int))).length) c18) (pu_move e3) ?_
        refine lex.pure (v := .int .i64 (((List.replicate b_0_0.toNat (0 : Int))).length : Int)) (pu_len (A := A17) (n := ((List.replicate b_0_0.toNat (0 : Int))).length) (m := c18) Try.underlying22 rfl) ?_
        refine lex.pure (v := .int .i64 0) (pu_move rfl) ?_
        refine lex.nil ?_
        refine hK123 _ _ ?_
        obtain ⟨o124, hl2, hb⟩ := bd hb
        refine Wc.cut (fun E wv => ∃ (v58_2 : Int) (qf121_2 : List Int), E 2 = .slice none 0 0 ∧ E 8 = .slice A116 (((List.replicate b_0_0.toNat (0 : Int))).length) c117 ∧ I64 v58_2 ∧ Cx (fun _ => False) O0 w wv [.own 3 (.int .i64) (.slice A116 (((List.replicate b_0_0.toNat (0 : Int))).length) c117) qf121_2] ∧ (some qf121_2) = some r) (fun K125 hK125 => ?_) ?_
        · refine Wc.block ?_
          refine Wc.loop (fun m E wv => ∃ (v58_2 : Int) (qf121_2 : List Int), E 2 = .slice none 0 0 ∧ E 8 = .slice A116 (((List.replicate b_0_0.toNat (0 : Int))).length) c117 ∧ E 56 = .slice A17 (((List.replicate b_0_0.toNat (0 : Int))).length) c18 ∧ E 57 = .int .i64 (((List.replicate b_0_0.toNat (0 : Int))).length : Int) ∧ E 58 = .int .i64 v58_2 ∧ I64 v58_2 ∧ Cx (fun _ => False) O0 w wv [.own 3 (.int .i64) (.slice A116 (((List.replicate b_0_0.toNat (0 : Int))).length) c117) qf121_2, .own 3 (.int .i64) (.slice A17 (((List.replicate b_0_0.toNat (0 : Int))).length) c18) qf22_1] ∧ loopN m (F.braid_Perm_b2 n b_0_0 qf22_1) (v58_2, qf121_2) = some o124) n ⟨0, (List.replicate b_0_0.toNat (0 : Int)), e2, rfl, rfl, rfl, rfl, (show I64 0 from by unfold I64; omega), hC.sel [0, 3] (by decide), hl2⟩ ?_
          have hbK2 := hb
          clear hb hC hl2
          rintro m127 E129 w128 ⟨v58_2, qf121_2, e2, e8, e56, e57, e58, hrv58_2, hC, hl2⟩ K126 hK126
          obtain ⟨m127', o130, rfl, hb, hl2⟩ := loopN_some hl2
          unfold F.braid_Perm_b2 at hb
          refine Wc.seq fun K131 hK131 => ?_
          refine Wc.region (by decide +kernel) ?_
          refine lex.pure (v := .bool (decide (v58_2 < (((List.replicate b_0_0.toNat (0 : Int))).length : Int)))) (pu_lss (k := .i64) (a := v58_2) (b := (((List.replicate b_0_0.toNat (0 : Int))).length : Int)) e58 e57) ?_
          refine lex.nil ?_
          refine hK131 _ _ ?_
          refine Wc.seq fun K132 hK132 => ?_
          refine Wc.cond (t := (decide (v58_2 < (((List.replicate b_0_0.toNat (0 : Int))).length : Int)))) (rfl) (fun hq133 => ?_) (fun hq133 => ?_)
          · replace hb := (cT hq133).symm.trans hb
            refine Wc.skip ?_
            refine hK132 _ _ ?_
            refine Wc.seq fun K134 hK134 => ?_
            refine Wc.block ?_
            refine Wc.seq fun K135 hK135 => ?_
            refine Wc.region (by decide +kernel) ?_
            refine lex.pure (v := .int .i64 v58_2) (pu_move e58) ?_
            obtain ⟨x136, h137, hb⟩ := bd hb
            obtain ⟨ad138, cs139, hA, hc140, hr141⟩ := hC.elo (i := 1) rfl (get_some h137).2
            subst hA
            refine lex.pure (v := .pointer (some (ad138.add (v58_2.toNat * 1)))) (pu_index (a := v58_2) Try.underlying22 Try.sizeOf3 e56 e58 (by rw [(hC.ow (i := 1) rfl).sl_len.1]; exact (get_some h137).1)) ?_
            obtain ⟨rfl, hr141'⟩ := hr141
            refine lex.val (v := .int .i64 x136) (ld_one Try.isAgg3 rfl (hc140 0 _ rfl)) ?_
            refine lex.pure (v := .int .i64 v58_2) (pu_assign rfl) ?_
            refine lex.pure (v := .int .i64 x136) (pu_assign rfl) ?_
            refine lex.nil ?_
            refine hK135 _ _ ?_
            refine Wc.region (by decide +kernel) ?_
            refine lex.pure (v := .slice A116 (((List.replicate b_0_0.toNat (0 : Int))).length) c117) (pu_move e8) ?_
            refine lex.pure (v := .int .i64 x136) (pu_move rfl) ?_
            refine lex.pure (v := .int .i64 v58_2) (pu_move rfl) ?_
            obtain ⟨x142, h143, hb⟩ := bd hb
            obtain ⟨ad144, cs145, hA, hc146, hr147⟩ := hC.elo (i := 0) rfl (get_some h143).2
            subst hA
            refine lex.pure (v := .pointer (some (ad144.add (x136.toNat * 1)))) (pu_index (a := x136) Try.underlying52 Try.sizeOf3 rfl rfl (by rw [(hC.ow (i := 0) rfl).sl_len.1]; exact (get_some h143).1)) ?_
            refine lex.sk (hC.put (i := 0) rfl rfl Try.sizeOf3 (k := x136.toNat) (a := v58_2) (by have := (get_some h143).1; simp at this ⊢; omega) (⟨rfl, I64.wr hrv58_2⟩) rfl rfl rfl) ?_
            rintro w148 ⟨hC, hF⟩
            refine lex.nil ?_
            refine hK134 _ _ ?_
            refine Wc.region (by decide +kernel) ?_
            obtain ⟨z149, h150, hb⟩ := bd hb
            refine lex.pure (v := .int .i64 z149) (pu_addc (a := v58_2) (b := 1) e58 rfl h150) ?_
            refine lex.pure (v := .int .i64 z149) (pu_move rfl) ?_
            refine lex.nil ?_
            obtain rfl := Option.some.inj hb
            exact hK126 m127' _ _ (Nat.lt_succ_self _) ⟨z149, (qf121_2.set x136.toNat v58_2), e2, e8, e56, e57, rfl, (chk_rng h150), hC.sel [0, 1] (by decide), lN hl2⟩
          · replace hb := (cF hq133).symm.trans hb
            refine Wc.exit rfl ?_
            obtain rfl := Option.some.inj hb
            obtain rfl := lX hl2
            exact hK125 _ _ ⟨v58_2, qf121_2, e2, e8, hrv58_2, hC.sel [0] (by decide), hbK2⟩
        · clear hb hC hl2
          rintro E152 w151 ⟨v58_2, qf121_2, e2, e8, hrv58_2, hC, hb⟩
          refine hK122 _ _ ?_
          refine Wc.seq fun K153 hK153 => ?_
          refine Wc.region (by decide +kernel) ?_
          refine lex.pure (v := .slice A116 (((List.replicate b_0_0.toNat (0 : Int))).length) c117) (pu_move e8) ?_
          refine lex.pure (v := .slice A116 (((List.replicate b_0_0.toNat (0 : Int))).length) c117) (pu_assign rfl) ?_
          refine lex.nil ?_
          refine hK153 _ _ ?_
          obtain rfl := Option.some.inj hb
          refine Wc.ret ?_
          refine hKR _ _ ?_
          refine ⟨_, res1 Try.results23 (show RV _ _ _ (.tmp _) (.slice A116 (((List.replicate b_0_0.toNat (0 : Int))).length) c117) from rfl), _, rfl, A116, ((List.replicate b_0_0.toNat (0 : Int))).length, c117, rfl, hC.sel [0] (by decide)⟩

set_option maxRecDepth 100000 in
set_option maxHeartbeats 4000000 in
theorem law36_MarkovExponent_ok (n : Nat) {w : World} {O0 : List Nat} (hO : ∀ k ∈ O0, k < w.heap.size) {strands_0 : Int} (hstrands_0 : I64 strands_0) {Aword_1 : Option Addr} {mword_1 cword_1 : Nat} {word_1 : List Int} (hword_1 : Rep O0 w (.sl (.int .i64)) [.slice Aword_1 mword_1 cword_1] word_1) {s_2_0 : Int} (hs_2_0 : I64 s_2_0) {s_2_1 : Int} (hs_2_1 : I64 s_2_1) {s_2_2 : Int} (hs_2_2 : I64 s_2_2) {r : Bool} (hb : F.law36_MarkovExponent n strands_0 word_1 s_2_0 s_2_1 s_2_2 = some r) :
    Calls Try.prog 8 #[.int .i64 strands_0, .slice Aword_1 mword_1 cword_1, .agg #[.int .i64 s_2_0, .int .i64 s_2_1, .int .i64 s_2_2]] w fun e w' => ∃ v, e = .returned v ∧ v = .bool r ∧ Cx (fun _ => False) O0 w w' [] := by
  unfold F.law36_MarkovExponent at hb
  have hC := Cx.start hO
  replace hC := hC.arg rfl hword_1
  clear hO
  obtain ⟨rfl, hlword_1, hcword_1⟩ := hword_1.sl_len
  refine calls_of_Wc Try.func8 rfl (by rw [Try.ntmps8]; exact Nat.le_of_ble_eq_true rfl) fun KR hKR => ?_
  refine Wc.seq fun K2 hK2 => ?_
  refine Wc.region (by decide +kernel) ?_
  refine lex.op (hC.box (cs := [.int .i64 s_2_0, .int .i64 s_2_1, .int .i64 s_2_2]) rfl rfl) ?_
  rintro _ w4 ⟨g3, rfl, hC, hF, hG⟩
  clear hG
  refine lex.pure (v := .bool false) (pu_assign rfl) ?_
  refine lex.nil ?_
  refine hK2 _ _ ?_
  refine Wc.seq fun K6 hK6 => ?_
  refine Wc.seq fun K7 hK7 => ?_
  refine Wc.region (by decide +kernel) ?_
  obtain ⟨y8, h9, hb⟩ := bd hb
  refine lex.cl (⟨_, _, op_call (vs := []) Try.call11 rfl rfl rfl, law36_awake_ok n hC.lt  h9⟩) ?_
  rintro _ w10 ⟨rfl, hK⟩
  replace hC := hC.merge hK
  clear hK
  refine lex.pure (v := .bool (!y8)) (pu_not (q := y8) rfl) ?_
  refine lex.nil ?_
  refine hK7 _ _ ?_
  refine Wc.cond (t := (!y8)) (rfl) (fun hq11 => ?_) (fun hq11 => ?_)
  · replace hb := (cT hq11).symm.trans hb
    refine Wc.seq fun K12 hK12 => ?_
    refine Wc.region (by decide +kernel) ?_
    refine lex.pure (v := .bool false) (pu_assign rfl) ?_
    refine lex.nil ?_
    refine hK12 _ _ ?_
    obtain rfl := Option.some.inj hb
    refine Wc.ret ?_
    refine hKR _ _ ?_
    refine ⟨_, res1 Try.results8 (show RV _ _ _ (.tmp _) (.bool false) from rfl), _, rfl, rfl, hC.sel [] (by decide)⟩
  · replace hb := (cF hq11).symm.trans hb
    refine Wc.skip ?_
    refine hK6 _ _ ?_
    refine Wc.seq fun K13 hK13 => ?_
    refine Wc.seq fun K14 hK14 => ?_
    refine Wc.region (by decide +kernel) ?_
    refine lex.pure (v := .slice Aword_1 word_1.length cword_1) (pu_move rfl) ?_
    refine lex.pure (v := .int .i64 (word_1.length : Int)) (pu_len (A := Aword_1) (n := word_1.length) (m := cword_1) Try.underlying22 rfl) ?_
    refine lex.pure (v := .bool (decide (210 < (word_1.length : Int)))) (pu_gtr (k := .i64) (a := (word_1.length : Int)) (b := 210) rfl rfl) ?_
    refine lex.nil ?_
    refine hK14 _ _ ?_
    refine Wc.cond (t := (decide (210 < (word_1.length : Int)))) (rfl) (fun hq15 => ?_) (fun hq15 => ?_)
    · replace hb := (cT hq15).symm.trans hb
      refine Wc.seq fun K16 hK16 => ?_
      refine Wc.region (by decide +kernel) ?_
      refine lex.pure (v := .bool true) (pu_assign rfl) ?_
      refine lex.nil ?_
      refine hK16 _ _ ?_
      obtain rfl := Option.some.inj hb
      refine Wc.ret ?_
      refine hKR _ _ ?_
      refine ⟨_, res1 Try.results8 (show RV _ _ _ (.tmp _) (.bool true) from rfl), _, rfl, rfl, hC.sel [] (by decide)⟩
    · replace hb := (cF hq15).symm.trans hb
      refine Wc.skip ?_
      refine hK13 _ _ ?_
      refine Wc.seq fun K17 hK17 => ?_
      refine Wc.region (by decide +kernel) ?_
      refine lex.pure (v := .int .i64 strands_0) (pu_move rfl) ?_
      refine lex.pure (v := .slice Aword_1 word_1.length cword_1) (pu_move rfl) ?_
      refine lex.pure (v := .agg #[.int .i64 strands_0, .slice Aword_1 word_1.length cword_1]) (pu_builds (places := [(0, 1), (1, 1)]) (pv := [(0, .int .i64 strands_0), (1, .slice Aword_1 word_1.length cword_1)]) Try.type27 Try.underlying27 rfl (mp_cons Try.type3 (mp_cons Try.type22 mp_nil rfl rfl) rfl rfl) rfl (by simp [Instr.fill, Value.cells])) ?_
      refine lex.op (hC.alloc (cs := [.int .i64 0, .slice none 0 0]) Try.zeroValue27 rfl) ?_
      rintro _ w19 ⟨g18, rfl, hC, hF, hG⟩
      clear hG
      refine lex.sk (hC.seta (i := 0) (ds := [.int .i64 strands_0, .slice Aword_1 word_1.length cword_1]) rfl Try.type27 rfl rfl rfl rfl rfl) ?_
      rintro w21 ⟨hC, hF⟩
      refine lex.nil ?_
      refine hK17 _ _ ?_
      refine Wc.fresh fun E22 hE => ?_
      have e5 : E22 5 = .pointer (some ⟨g3, 0, none⟩) := (congrFun hE 5).trans rfl
      have e6 : E22 6 = .bool false := (congrFun hE 6).trans rfl
      have e7 : E22 7 = .pointer (some ⟨g18, 0, none⟩) := (congrFun hE 7).trans rfl
      clear hE
      refine Wc.seq fun K23 hK23 => ?_
      refine Wc.region (by decide +kernel) ?_
      refine lex.val (v := .agg #[.int .i64 strands_0, .slice Aword_1 word_1.length cword_1]) (ld_blk (hC.bx (i := 0) rfl) Try.isAgg27 Try.sizeOf27 e7) ?_
      refine lex.val (v := .agg #[.int .i64 s_2_0, .int .i64 s_2_1, .int .i64 s_2_2]) (ld_blk (hC.bx (i := 1) rfl) Try.isAgg24 Try.sizeOf24 e5) ?_
      obtain ⟨y24, h25, hb⟩ := bd hb
      refine lex.cl (⟨_, _, op_call (vs := [.agg #[.int .i64 strands_0, .slice Aword_1 word_1.length cword_1], .agg #[.int .i64 s_2_0, .int .i64 s_2_1, .int .i64 s_2_2]]) Try.call12 rfl rfl rfl, markov_Apply_ok n hC.lt hstrands_0 (hC.rd (i := 2) rfl) hs_2_0 hs_2_1 hs_2_2 h25⟩) ?_
      rintro _ w35 ⟨A27, m28, c29, rfl, hr26, hr31, hr32, hr33, hr34, hK⟩
      replace hC := hC.merge hK
      clear hK
      obtain ⟨rfl, hl36, hc37⟩ := (hC.rd (i := 0) rfl).sl_len
      refine lex.pure (v := .tuple #[.agg #[.int .i64 y24.1, .slice A27 y24.2.1.length c29], .agg #[.int .i64 y24.2.2.1, .int .i64 y24.2.2.2.1, .int .i64 y24.2.2.2.2.1], .int .i64 y24.2.2.2.2.2]) (pu_move rfl) ?_
      refine lex.pure (v := .agg #[.int .i64 y24.1, .slice A27 y24.2.1.length c29]) (pu_extract rfl rfl) ?_
      refine lex.pure (v := .agg #[.int .i64 y24.2.2.1, .int .i64 y24.2.2.2.1, .int .i64 y24.2.2.2.2.1]) (pu_extract rfl rfl) ?_
      refine lex.pure (v := .int .i64 y24.2.2.2.2.2) (pu_extract rfl rfl) ?_
      refine lex.op (hC.alloc (cs := [.int .i64 0, .slice none 0 0]) Try.zeroValue27 rfl) ?_
      rintro _ w39 ⟨g38, rfl, hC, hF, hG⟩
      clear hG
      refine lex.op (hC.alloc (cs := [.int .i64 0, .int .i64 0, .int .i64 0]) Try.zeroValue28 rfl) ?_
      rintro _ w42 ⟨g41, rfl, hC, hF, hG⟩
      clear hG
      refine lex.sk (hC.seta (i := 1) (ds := [.int .i64 y24.1, .slice A27 y24.2.1.length c29]) rfl Try.type27 rfl rfl rfl rfl rfl) ?_
      rintro w44 ⟨hC, hF⟩
      refine lex.sk (hC.seta (i := 0) (ds := [.int .i64 y24.2.2.1, .int .i64 y24.2.2.2.1, .int .i64 y24.2.2.2.2.1]) rfl Try.type28 rfl rfl rfl rfl rfl) ?_
      rintro w45 ⟨hC, hF⟩
      refine lex.pure (v := .int .i64 y24.2.2.2.2.2) (pu_assign rfl) ?_
      refine lex.nil ?_
      refine hK23 _ _ ?_
      refine Wc.fresh fun E46 hE => ?_
      have e5 : E46 5 = .pointer (some ⟨g3, 0, none⟩) := (congrFun hE 5).trans e5
      have e6 : E46 6 = .bool false := (congrFun hE 6).trans e6
      have e7 : E46 7 = .pointer (some ⟨g18, 0, none⟩) := (congrFun hE 7).trans e7
      have e8 : E46 8 = .pointer (some ⟨g38, 0, none⟩) := (congrFun hE 8).trans rfl
      have e9 : E46 9 = .pointer (some ⟨g41, 0, none⟩) := (congrFun hE 9).trans rfl
      have e10 : E46 10 = .int .i64 y24.2.2.2.2.2 := (congrFun hE 10).trans rfl
      clear hE
      refine Wc.seq fun K47 hK47 => ?_
      refine Wc.seq fun K48 hK48 => ?_
      refine Wc.region (by decide +kernel) ?_
      refine lex.pure (v := .int .i64 y24.2.2.2.2.2) (pu_move e10) ?_
      refine lex.pure (v := .bool (!(decide (y24.2.2.2.2.2 = 0)))) (pu_neq (k := .i64) (a := y24.2.2.2.2.2) (b := 0) rfl rfl) ?_
      refine lex.nil ?_
      refine hK48 _ _ ?_
      refine Wc.cond (t := (!(decide (y24.2.2.2.2.2 = 0)))) (rfl) (fun hq49 => ?_) (fun hq49 => ?_)
      · replace hb := (cT hq49).symm.trans hb
        refine Wc.seq fun K50 hK50 => ?_
        refine Wc.region (by decide +kernel) ?_
        refine lex.pure (v := .bool true) (pu_assign rfl) ?_
        refine lex.nil ?_
        refine hK50 _ _ ?_
        obtain rfl := Option.some.inj hb
        refine Wc.ret ?_
        refine hKR _ _ ?_
        refine ⟨_, res1 Try.results8 (show RV _ _ _ (.tmp _) (.bool true) from rfl), _, rfl, rfl, hC.sel [] (by decide)⟩
      · replace hb := (cF hq49).symm.trans hb
        refine Wc.skip ?_
        refine hK47 _ _ ?_
        refine Wc.seq fun K51 hK51 => ?_
        refine Wc.region (by decide +kernel) ?_
        refine lex.pure (v := .int .i64 0) (pu_assign rfl) ?_
        refine lex.nil ?_
        refine hK51 _ _ ?_
        refine Wc.seqJ (fun E wv => ∃ (v11_0 : Int), E 5 = .pointer (some ⟨g3, 0, none⟩) ∧ E 6 = .bool false ∧ E 7 = .pointer (some ⟨g18, 0, none⟩) ∧ E 8 = .pointer (some ⟨g38, 0, none⟩) ∧ E 11 = .int .i64 v11_0 ∧ I64 v11_0 ∧ Cx (fun _ => False) O0 w wv [.box g3 24 [.int .i64 s_2_0, .int .i64 s_2_1, .int .i64 s_2_2], .box g18 27 [.int .i64 strands_0, .slice Aword_1 word_1.length cword_1], .ro (.sl (.int .i64)) [.slice Aword_1 word_1.length cword_1] word_1, .box g38 27 [.int .i64 y24.1, .slice A27 y24.2.1.length c29], .ro (.sl (.int .i64)) [.slice A27 y24.2.1.length c29] y24.2.1] ∧ F.law36_MarkovExponent_j0 n strands_0 word_1 s_2_0 y24 v11_0 = some r) (fun K52 hK52 => ?_) ?_
        ·
          skip
          refine Wc.seq fun K53 hK53 => ?_
          refine Wc.region (by decide +kernel) ?_
          refine lex.pure (v := .pointer (some ((⟨g3, 0, none⟩ : Addr).add 0))) (pu_field (sz := 1) Try.underlying24 rfl Try.sizeOf3 (by decide) rfl e5) ?_
          refine lex.val (v := .int .i64 s_2_0) (ld_fld (hC.bx (i := 4) rfl) Try.isAgg3 rfl rfl) ?_
          refine lex.nil ?_
          refine hK53 _ _ ?_
          refine Wc.block ?_
          refine Wc.seq fun K54 hK54 => ?_
          refine Wc.region (by decide +kernel) ?_
          refine lex.pure (v := .bool (decide (s_2_0 = 2))) (pu_eql (k := .i64) (a := s_2_0) (b := 2) rfl rfl) ?_
          refine lex.pure (v := .bool (decide (s_2_0 = 2))) (pu_assign rfl) ?_
          refine lex.nil ?_
          refine hK54 _ _ ?_
          refine Wc.cond (t := (decide (s_2_0 = 2))) (rfl) (fun hq55 => ?_) (fun hq55 => ?_)
          · replace hb := (cT hq55).symm.trans hb
            refine Wc.region (by decide +kernel) ?_
            refine lex.pure (v := .pointer (some ((⟨g3, 0, none⟩ : Addr).add 1))) (pu_field (sz := 1) Try.underlying24 rfl Try.sizeOf3 (by decide) rfl e5) ?_
            refine lex.val (v := .int .i64 s_2_1) (ld_fld (hC.bx (i := 4) rfl) Try.isAgg3 rfl rfl) ?_
            refine lex.pure (v := .int .i64 s_2_1) (pu_assign rfl) ?_
            refine lex.nil ?_
            exact hK52 _ _ ⟨s_2_1, e5, e6, e7, e8, rfl, hs_2_1, hC.sel [4, 3, 5, 1, 2] (by decide), hb⟩
          · replace hb := (cF hq55).symm.trans hb
            refine Wc.seq fun K56 hK56 => ?_
            refine Wc.region (by decide +kernel) ?_
            refine lex.pure (v := .bool (decide (s_2_0 = 3))) (pu_eql (k := .i64) (a := s_2_0) (b := 3) rfl rfl) ?_
            refine lex.pure (v := .bool (decide (s_2_0 = 3))) (pu_assign rfl) ?_
            refine lex.nil ?_
            refine hK56 _ _ ?_
            refine Wc.cond (t := (decide (s_2_0 = 3))) (rfl) (fun hq57 => ?_) (fun hq57 => ?_)
            · replace hb := (cT hq57).symm.trans hb
              refine Wc.region (by decide +kernel) ?_
              refine lex.pure (v := .pointer (some ((⟨g41, 0, none⟩ : Addr).add 1))) (pu_field (sz := 1) Try.underlying28 rfl Try.sizeOf3 (by decide) rfl e9) ?_
              refine lex.val (v := .int .i64 y24.2.2.2.1) (ld_fld (hC.bx (i := 0) rfl) Try.isAgg3 rfl rfl) ?_
              obtain ⟨z58, h59, hb⟩ := bd hb
              refine lex.pure (v := .int .i64 z58) (pu_negc (a := y24.2.2.2.1) rfl h59) ?_
              refine lex.pure (v := .int .i64 z58) (pu_assign rfl) ?_
              refine lex.nil ?_
              exact hK52 _ _ ⟨z58, e5, e6, e7, e8, rfl, (chk_rng h59), hC.sel [4, 3, 5, 1, 2] (by decide), hb⟩
            · replace hb := (cF hq57).symm.trans hb
              refine Wc.skip ?_
              exact hK52 _ _ ⟨0, e5, e6, e7, e8, rfl, (show I64 0 from by unfold I64; omega), hC.sel [4, 3, 5, 1, 2] (by decide), hb⟩
        · clear hb hC
          rintro E61 w60 ⟨v11_0, e5, e6, e7, e8, e11, hrv11_0, hC, hb⟩
          unfold F.law36_MarkovExponent_j0 at hb
          refine Wc.seq fun K62 hK62 => ?_
          refine Wc.seq fun K63 hK63 => ?_
          refine Wc.regionMix [] (frm [] ([] : List Fact) ([] : List Fact)) (fun _ => rfl) mixed (by decide +kernel) (by decide +kernel) fun w65 hw64 => ?_
          replace hC := hC.step (Fr.of_drew hw64)
          have hM := Fr.refl (fun k => k ∈ blocks ([] : List Fact)) w65
          clear hw64
          have hS := hC
          refine mixE.load hM (v := .agg #[.int .i64 y24.1, .slice A27 y24.2.1.length c29]) (fun _ hF => ld_blk (hS.bx2 (i := 3) rfl [] (by decide) hF) Try.isAgg27 Try.sizeOf27 e8) ?_
          obtain ⟨y66, h67, hb⟩ := bd hb
          refine mixE.cl hM (⟨_, _, op_call (vs := [.agg #[.int .i64 y24.1, .slice A27 y24.2.1.length c29]]) Try.call22 rfl rfl rfl, braid_Exponent_ok n hC.lt hr26 (hC.rd (i := 4) rfl) h67⟩) ?_
          rintro _ w69 ⟨rfl, hr68, hK⟩
          replace hM := hM.none hK.fr
          refine ⟨hM, ?_⟩
          replace hC := hC.merge hK
          clear hK
          refine mixE.load hM (v := .agg #[.int .i64 strands_0, .slice Aword_1 word_1.length cword_1]) (fun _ hF => ld_blk (hS.bx2 (i := 1) rfl [] (by decide) hF) Try.isAgg27 Try.sizeOf27 e7) ?_
          obtain ⟨y70, h71, hb⟩ := bd hb
          refine mixE.cl hM (⟨_, _, op_call (vs := [.agg #[.int .i64 strands_0, .slice Aword_1 word_1.length cword_1]]) Try.call22 rfl rfl rfl, braid_Exponent_ok n hC.lt hstrands_0 (hC.rd (i := 2) rfl) h71⟩) ?_
          rintro _ w73 ⟨rfl, hr72, hK⟩
          replace hM := hM.none hK.fr
          refine ⟨hM, ?_⟩
          replace hC := hC.merge hK
          clear hK
          refine mixE.pure (v := .int .i64 v11_0) (pu_move e11) ?_
          obtain ⟨z74, h75, hb⟩ := bd hb
          refine mixE.pure (v := .int .i64 z74) (pu_addc (a := y70) (b := v11_0) rfl rfl h75) ?_
          refine mixE.pure (v := .bool (!(decide (y66 = z74)))) (pu_neq (k := .i64) (a := y66) (b := z74) rfl rfl) ?_
          refine mixE.nil ?_
          clear hS hM
          refine hK63 _ _ ?_
          refine Wc.cond (t := (!(decide (y66 = z74)))) (rfl) (fun hq76 => ?_) (fun hq76 => ?_)
          · replace hb := (cT hq76).symm.trans hb
            refine Wc.seq fun K77 hK77 => ?_
            refine Wc.region (by decide +kernel) ?_
            refine lex.pure (v := .bool false) (pu_assign rfl) ?_
            refine lex.nil ?_
            refine hK77 _ _ ?_
            obtain rfl := Option.some.inj hb
            refine Wc.ret ?_
            refine hKR _ _ ?_
            refine ⟨_, res1 Try.results8 (show RV _ _ _ (.tmp _) (.bool false) from rfl), _, rfl, rfl, hC.sel [] (by decide)⟩
          · replace hb := (cF hq76).symm.trans hb
            refine Wc.skip ?_
            refine hK62 _ _ ?_
            refine Wc.seq fun K78 hK78 => ?_
            refine Wc.seq fun K79 hK79 => ?_
            refine Wc.region (by decide +kernel) ?_
            refine lex.pure (v := .pointer (some ((⟨g3, 0, none⟩ : Addr).add 0))) (pu_field (sz := 1) Try.underlying24 rfl Try.sizeOf3 (by decide) rfl e5) ?_
            refine lex.val (v := .int .i64 s_2_0) (ld_fld (hC.bx (i := 0) rfl) Try.isAgg3 rfl rfl) ?_
            refine lex.pure (v := .bool (decide (s_2_0 < 4))) (pu_lss (k := .i64) (a := s_2_0) (b := 4) rfl rfl) ?_
            refine lex.nil ?_
            refine hK79 _ _ ?_
            refine Wc.cond (t := (decide (s_2_0 < 4))) (rfl) (fun hq80 => ?_) (fun hq80 => ?_)
            · replace hb := (cT hq80).symm.trans hb
              refine Wc.seq fun K81 hK81 => ?_
              refine Wc.region (by decide +kernel) ?_
              refine lex.pure (v := .bool true) (pu_assign rfl) ?_
              refine lex.nil ?_
              refine hK81 _ _ ?_
              obtain rfl := Option.some.inj hb
              refine Wc.ret ?_
              refine hKR _ _ ?_
              refine ⟨_, res1 Try.results8 (show RV _ _ _ (.tmp _) (.bool true) from rfl), _, rfl, rfl, hC.sel [] (by decide)⟩
            · replace hb := (cF hq80).symm.trans hb
              refine Wc.skip ?_
              refine hK78 _ _ ?_
              refine Wc.fresh fun E82 hE => ?_
              have e6 : E82 6 = .bool false := (congrFun hE 6).trans e6
              have e7 : E82 7 = .pointer (some ⟨g18, 0, none⟩) := (congrFun hE 7).trans e7
              have e8 : E82 8 = .pointer (some ⟨g38, 0, none⟩) := (congrFun hE 8).trans e8
              clear hE
              refine Wc.seq fun K83 hK83 => ?_
              refine Wc.regionMix [] (frm [] ([] : List Fact) ([] : List Fact)) (fun _ => rfl) mixed (by decide +kernel) (by decide +kernel) fun w85 hw84 => ?_
              replace hC := hC.step (Fr.of_drew hw84)
              have hM := Fr.refl (fun k => k ∈ blocks ([] : List Fact)) w85
              clear hw84
              have hS := hC
              refine mixE.load hM (v := .agg #[.int .i64 strands_0, .slice Aword_1 word_1.length cword_1]) (fun _ hF => ld_blk (hS.bx2 (i := 1) rfl [] (by decide) hF) Try.isAgg27 Try.sizeOf27 e7) ?_
              obtain ⟨y86, h87, hb⟩ := bd hb
              refine mixE.cl hM (⟨_, _, op_call (vs := [.agg #[.int .i64 strands_0, .slice Aword_1 word_1.length cword_1]]) Try.call23 rfl rfl rfl, braid_Perm_ok n hC.lt hstrands_0 (hC.rd (i := 2) rfl) h87⟩) ?_
              rintro _ w92 ⟨A88, m89, c90, rfl, hK⟩
              replace hM := hM.none hK.fr
              refine ⟨hM, ?_⟩
              replace hC := hC.merge hK
              clear hK
              obtain ⟨rfl, hl93, hc94⟩ := (hC.ow (i := 0) rfl).sl_len
              refine mixE.load hM (v := .agg #[.int .i64 y24.1, .slice A27 y24.2.1.length c29]) (fun _ hF => ld_blk (hS.bx2 (i := 3) rfl [] (by decide) hF) Try.isAgg27 Try.sizeOf27 e8) ?_
              obtain ⟨y95, h96, hb⟩ := bd hb
              refine mixE.cl hM (⟨_, _, op_call (vs := [.agg #[.int .i64 y24.1, .slice A27 y24.2.1.length c29]]) Try.call23 rfl rfl rfl, braid_Perm_ok n hC.lt hr26 (hC.rd (i := 5) rfl) h96⟩) ?_
              rintro _ w101 ⟨A97, m98, c99, rfl, hK⟩
              replace hM := hM.none hK.fr
              refine ⟨hM, ?_⟩
              replace hC := hC.merge hK
              clear hK
              obtain ⟨rfl, hl102, hc103⟩ := (hC.ow (i := 0) rfl).sl_len
              refine mixE.pure (v := .slice A88 y86.length c90) (pu_assign rfl) ?_
              refine mixE.pure (v := .slice A97 y95.length c99) (pu_assign rfl) ?_
              refine mixE.nil ?_
              clear hS hM
              refine hK83 _ _ ?_
              refine Wc.seq fun K104 hK104 => ?_
              refine Wc.seq fun K105 hK105 => ?_
              refine Wc.region (by decide +kernel) ?_
              refine lex.pure (v := .slice A88 y86.length c90) (pu_move rfl) ?_
              refine lex.pure (v := .int .i64 (y86.length : Int)) (pu_len (A := A88) (n := y86.length) (m := c90) Try.underlying52 rfl) ?_
              refine lex.pure (v := .slice A97 y95.length c99) (pu_move rfl) ?_
              refine lex.pure (v := .int .i64 (y95.length : Int)) (pu_len (A := A97) (n := y95.length) (m := c99) Try.underlying52 rfl) ?_
              refine lex.pure (v := .bool (!(decide ((y86.length : Int) = (y95.length : Int))))) (pu_neq (k := .i64) (a := (y86.length : Int)) (b := (y95.length : Int)) rfl rfl) ?_
              refine lex.nil ?_
              refine hK105 _ _ ?_
              refine Wc.cond (t := (!(decide ((y86.length : Int) = (y95.length : Int))))) (rfl) (fun hq106 => ?_) (fun hq106 => ?_)
              · replace hb := (cT hq106).symm.trans hb
                refine Wc.seq fun K107 hK107 => ?_
                refine Wc.region (by decide +kernel) ?_
                refine lex.pure (v := .bool false) (pu_assign rfl) ?_
                refine lex.nil ?_
                refine hK107 _ _ ?_
                obtain rfl := Option.some.inj hb
                refine Wc.ret ?_
                refine hKR _ _ ?_
                refine ⟨_, res1 Try.results8 (show RV _ _ _ (.tmp _) (.bool false) from rfl), _, rfl, rfl, hC.sel [] (by decide)⟩
              · replace hb := (cF hq106).symm.trans hb
                refine Wc.skip ?_
                refine hK104 _ _ ?_
                refine Wc.fresh fun E108 hE => ?_
                have e6 : E108 6 = .bool false := (congrFun hE 6).trans e6
                have e12 : E108 12 = .slice A88 y86.length c90 := (congrFun hE 12).trans rfl
                have e13 : E108 13 = .slice A97 y95.length c99 := (congrFun hE 13).trans rfl
                clear hE
                refine Wc.seq fun K109 hK109 => ?_
                refine Wc.seq fun K110 hK110 => ?_
                refine Wc.region (by decide +kernel) ?_
                refine lex.pure (v := .int .i64 0) (pu_assign rfl) ?_
                refine lex.nil ?_
                refine hK110 _ _ ?_
                obtain ⟨o111, hl1, hb⟩ := bd hb
                refine Wc.cut (fun E wv => ∃ (v14_1 : Int), E 6 = .bool false ∧ I64 v14_1 ∧ Cx (fun _ => False) O0 w wv [] ∧ (some true) = some r) (fun K112 hK112 => ?_) ?_
                · refine Wc.block ?_
                  refine Wc.loop (fun m E wv => ∃ (v14_1 : Int), E 6 = .bool false ∧ E 12 = .slice A88 y86.length c90 ∧ E 13 = .slice A97 y95.length c99 ∧ E 14 = .int .i64 v14_1 ∧ I64 v14_1 ∧ Cx (fun _ => False) O0 w wv [.own 3 (.int .i64) (.slice A88 y86.length c90) y86, .own 3 (.int .i64) (.slice A97 y95.length c99) y95] ∧ loopN m (F.law36_MarkovExponent_b1 n y86 y95) v14_1 = some o111) n ⟨0, e6, e12, e13, rfl, (show I64 0 from by unfold I64; omega), hC.sel [1, 0] (by decide), hl1⟩ ?_
                  have hbK1 := hb
                  clear hb hC hl1
                  rintro m114 E116 w115 ⟨v14_1, e6, e12, e13, e14, hrv14_1, hC, hl1⟩ K113 hK113
                  obtain ⟨m114', o117, rfl, hb, hl1⟩ := loopN_some hl1
                  unfold F.law36_MarkovExponent_b1 at hb
                  refine Wc.seq fun K118 hK118 => ?_
                  refine Wc.seq fun K119 hK119 => ?_
                  refine Wc.region (by decide +kernel) ?_
                  refine lex.pure (v := .int .i64 v14_1) (pu_move e14) ?_
                  refine lex.pure (v := .slice A88 y86.length c90) (pu_move e12) ?_
                  refine lex.pure (v := .int .i64 (y86.length : Int)) (pu_len (A := A88) (n := y86.length) (m := c90) Try.underlying52 rfl) ?_
                  refine lex.pure (v := .bool (decide (v14_1 < (y86.length : Int)))) (pu_lss (k := .i64) (a := v14_1) (b := (y86.length : Int)) rfl rfl) ?_
                  refine lex.nil ?_
                  refine hK119 _ _ ?_
                  refine Wc.cond (t := (decide (v14_1 < (y86.length : Int)))) (rfl) (fun hq120 => ?_) (fun hq120 => ?_)
                  · replace hb := (cT hq120).symm.trans hb
                    refine Wc.skip ?_
                    refine hK118 _ _ ?_
                    refine Wc.seq fun K121 hK121 => ?_
                    refine Wc.block ?_
                    refine Wc.seq fun K122 hK122 => ?_
                    refine Wc.regionMix [] (frm [] ([] : List Fact) ([] : List Fact)) (fun _ => rfl) mixed (by decide +kernel) (by decide +kernel) fun w124 hw123 => ?_
                    replace hC := hC.step (Fr.of_drew hw123)
                    have hM := Fr.refl (fun k => k ∈ blocks ([] : List Fact)) w124
                    clear hw123
                    have hS := hC
                    refine mixE.pure (v := .slice A88 y86.length c90) (pu_move e12) ?_
                    refine mixE.pure (v := .int .i64 v14_1) (pu_move e14) ?_
                    obtain ⟨x125, h126, hb⟩ := bd hb
                    obtain ⟨ad127, cs128, hA, ho131, hc129, hr130⟩ := hS.elo2 (i := 0) rfl (get_some h126).2 [] (by decide)
                    subst hA
                    refine mixE.pure (v := .pointer (some (ad127.add (v14_1.toNat * 1)))) (pu_index (a := v14_1) Try.underlying52 Try.sizeOf3 rfl rfl (get_some h126).1) ?_
                    obtain ⟨rfl, hr130'⟩ := hr130
                    refine mixE.load hM (v := .int .i64 x125) (fun _ hF => ld_one Try.isAgg3 rfl (hF.cell (hc129 0 _ rfl) (off1 ho131))) ?_
                    refine mixE.pure (v := .slice A97 y95.length c99) (pu_move e13) ?_
                    refine mixE.pure (v := .int .i64 v14_1) (pu_move e14) ?_
                    obtain ⟨x132, h133, hb⟩ := bd hb
                    obtain ⟨ad134, cs135, hA, ho138, hc136, hr137⟩ := hS.elo2 (i := 1) rfl (get_some h133).2 [] (by decide)
                    subst hA
                    refine mixE.pure (v := .pointer (some (ad134.add (v14_1.toNat * 1)))) (pu_index (a := v14_1) Try.underlying52 Try.sizeOf3 rfl rfl (get_some h133).1) ?_
                    obtain ⟨rfl, hr137'⟩ := hr137
                    refine mixE.load hM (v := .int .i64 x132) (fun _ hF => ld_one Try.isAgg3 rfl (hF.cell (hc136 0 _ rfl) (off1 ho138))) ?_
                    refine mixE.pure (v := .bool (!(decide (x125 = x132)))) (pu_neq (k := .i64) (a := x125) (b := x132) rfl rfl) ?_
                    refine mixE.nil ?_
                    clear hS hM
                    refine hK122 _ _ ?_
                    refine Wc.cond (t := (!(decide (x125 = x132)))) (rfl) (fun hq139 => ?_) (fun hq139 => ?_)
                    · replace hb := (cT hq139).symm.trans hb
                      refine Wc.seq fun K140 hK140 => ?_
                      refine Wc.region (by decide +kernel) ?_
                      refine lex.pure (v := .bool false) (pu_assign rfl) ?_
                      refine lex.nil ?_
                      refine hK140 _ _ ?_
                      obtain rfl := Option.some.inj hb
                      obtain rfl := lX hl1
                      replace hb := hbK1
                      obtain rfl := Option.some.inj hb
                      refine Wc.ret ?_
                      refine hKR _ _ ?_
                      refine ⟨_, res1 Try.results8 (show RV _ _ _ (.tmp _) (.bool false) from rfl), _, rfl, rfl, hC.sel [] (by decide)⟩
                    · replace hb := (cF hq139).symm.trans hb
                      refine Wc.skip ?_
                      refine hK121 _ _ ?_
                      refine Wc.region (by decide +kernel) ?_
                      refine lex.pure (v := .int .i64 v14_1) (pu_move e14) ?_
                      obtain ⟨z141, h142, hb⟩ := bd hb
                      refine lex.pure (v := .int .i64 z141) (pu_addc (a := v14_1) (b := 1) rfl rfl h142) ?_
                      refine lex.pure (v := .int .i64 z141) (pu_assign rfl) ?_
                      refine lex.nil ?_
                      obtain rfl := Option.some.inj hb
                      exact hK113 m114' _ _ (Nat.lt_succ_self _) ⟨z141, e6, e12, e13, rfl, (chk_rng h142), hC.sel [0, 1] (by decide), lN hl1⟩
                  · replace hb := (cF hq120).symm.trans hb
                    refine Wc.exit rfl ?_
                    obtain rfl := Option.some.inj hb
                    obtain rfl := lX hl1
                    exact hK112 _ _ ⟨v14_1, e6, hrv14_1, hC.sel [] (by decide), hbK1⟩
                · clear hb hC hl1
                  rintro E144 w143 ⟨v14_1, e6, hrv14_1, hC, hb⟩
                  refine hK109 _ _ ?_
                  refine Wc.seq fun K145 hK145 => ?_
                  refine Wc.region (by decide +kernel) ?_
                  refine lex.pure (v := .bool true) (pu_assign rfl) ?_
                  refine lex.nil ?_
                  refine hK145 _ _ ?_
                  obtain rfl := Option.some.inj hb
                  refine Wc.ret ?_
                  refine hKR _ _ ?_
                  refine ⟨_, res1 Try.results8 (show RV _ _ _ (.tmp _) (.bool true) from rfl), _, rfl, rfl, hC.sel [] (by decide)⟩
end Go.Proofs.Ytkjpldmelafooaa
