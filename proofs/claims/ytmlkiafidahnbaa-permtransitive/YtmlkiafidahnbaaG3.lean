/- The walks: part 3. -/
import Derived.Test.YtmlkiafidahnbaaS
set_option linter.unusedVariables false
set_option linter.unusedSimpArgs false
namespace Go.Proofs.Ytmlkiafidahnbaa
open Ev
set_option maxRecDepth 100000 in
set_option maxHeartbeats 4000000 in
theorem ref01_In_ok (n : Nat) {w : World} {O0 : List Nat} (hO : ∀ k ∈ O0, k < w.heap.size) {Al_0 : Option Addr} {ml_0 cl_0 : Nat} {l_0 : List Int} (hl_0 : Rep O0 w (.sl (.int .i64)) [.slice Al_0 ml_0 cl_0] l_0) {x_1 : Int} (hx_1 : I64 x_1) {r : Bool} (hb : F.ref01_In n l_0 x_1 = some r) :
    Calls Try.prog 39 #[.slice Al_0 ml_0 cl_0, .int .i64 x_1] w fun e w' => ∃ v, e = .returned v ∧ v = .bool r ∧ Cx (fun _ => False) O0 w w' [] := by
  unfold F.ref01_In at hb
  have hC := Cx.start hO
  replace hC := hC.arg rfl hl_0
  clear hO
  obtain ⟨rfl, hll_0, hcl_0⟩ := hl_0.sl_len
  refine calls_of_Wc Try.func39 rfl (by rw [Try.ntmps39]; exact Nat.le_of_ble_eq_true rfl) fun KR hKR => ?_
  refine Wc.seq fun K2 hK2 => ?_
  refine Wc.region (by decide +kernel) ?_
  refine lex.pure (v := .bool false) (pu_assign rfl) ?_
  refine lex.nil ?_
  refine hK2 _ _ ?_
  refine Wc.seq fun K3 hK3 => ?_
  refine Wc.seq fun K4 hK4 => ?_
  refine Wc.region (by decide +kernel) ?_
  refine lex.pure (v := .int .i64 0) (pu_assign rfl) ?_
  refine lex.nil ?_
  refine hK4 _ _ ?_
  obtain ⟨o5, hl0, hb⟩ := bd hb
  refine Wc.cut (fun E wv => ∃ (v5_0 : Int), E 4 = .bool false ∧ I64 v5_0 ∧ Cx (fun _ => False) O0 w wv [] ∧ (some false : Option (Bool)) = some r) (fun K6 hK6 => ?_) ?_
  · refine Wc.block ?_
    refine Wc.loop (fun m E wv => ∃ (v5_0 : Int), E 0 = .slice Al_0 l_0.length cl_0 ∧ E 1 = .int .i64 x_1 ∧ E 4 = .bool false ∧ E 5 = .int .i64 v5_0 ∧ I64 v5_0 ∧ Cx (fun _ => False) O0 w wv [.ro (.sl (.int .i64)) [.slice Al_0 l_0.length cl_0] l_0] ∧ loopN m (F.ref01_In_b0 n l_0 x_1) v5_0 = some o5) n ⟨0, rfl, rfl, rfl, rfl, (show I64 0 from by unfold I64; omega), hC.sel [0] (by decide), hl0⟩ ?_
    have hbK0 := hb
    clear hb hC hl0
    rintro m8 E10 w9 ⟨v5_0, e0, e1, e4, e5, hrv5_0, hC, hl0⟩ K7 hK7
    obtain ⟨m8', o11, rfl, hb, hl0⟩ := loopN_some hl0
    unfold F.ref01_In_b0 at hb
    refine Wc.seq fun K12 hK12 => ?_
    refine Wc.seq fun K13 hK13 => ?_
    refine Wc.region (by decide +kernel) ?_
    refine lex.pure (v := .int .i64 v5_0) (pu_move e5) ?_
    refine lex.pure (v := .slice Al_0 l_0.length cl_0) (pu_move e0) ?_
    refine lex.pure (v := .int .i64 (l_0.length : Int)) (pu_len (A := Al_0) (n := l_0.length) (m := cl_0) Try.underlying28 rfl) ?_
    refine lex.pure (v := .bool (decide (v5_0 < (l_0.length : Int)))) (pu_lss (k := .i64) (a := v5_0) (b := (l_0.length : Int)) rfl rfl) ?_
    refine lex.nil ?_
    refine hK13 _ _ ?_
    refine Wc.cond (t := (decide (v5_0 < (l_0.length : Int)))) (rfl) (fun hq14 => ?_) (fun hq14 => ?_)
    · replace hb := (cT hq14).symm.trans hb
      refine Wc.skip ?_
      refine hK12 _ _ ?_
      refine Wc.seq fun K15 hK15 => ?_
      refine Wc.block ?_
      refine Wc.seq fun K16 hK16 => ?_
      refine Wc.region (by decide +kernel) ?_
      refine lex.pure (v := .slice Al_0 l_0.length cl_0) (pu_move e0) ?_
      refine lex.pure (v := .int .i64 v5_0) (pu_move e5) ?_
      obtain ⟨x17, h18, hb⟩ := bd hb
      obtain ⟨ad19, cs20, hA, hc21, hr22⟩ := hC.elr (i := 0) rfl (get_some h18).2
      subst hA
      refine lex.pure (v := .pointer (some (ad19.add (v5_0.toNat * 1)))) (pu_index (a := v5_0) Try.underlying28 Try.sizeOf3 rfl rfl (get_some h18).1) ?_
      obtain ⟨rfl, hr22'⟩ := hr22
      refine lex.val (v := .int .i64 x17) (ld_one Try.isAgg3 rfl (hc21 0 _ rfl)) ?_
      refine lex.pure (v := .int .i64 x_1) (pu_move e1) ?_
      refine lex.pure (v := .bool (decide (x17 = x_1))) (pu_eql (k := .i64) (a := x17) (b := x_1) rfl rfl) ?_
      refine lex.nil ?_
      refine hK16 _ _ ?_
      refine Wc.cond (t := (decide (x17 = x_1))) (rfl) (fun hq23 => ?_) (fun hq23 => ?_)
      · replace hb := (cT hq23).symm.trans hb
        refine Wc.seq fun K24 hK24 => ?_
        refine Wc.region (by decide +kernel) ?_
        refine lex.pure (v := .bool true) (pu_assign rfl) ?_
        refine lex.nil ?_
        refine hK24 _ _ ?_
        obtain rfl := Option.some.inj hb
        obtain rfl := (lX hl0).symm
        replace hb := hbK0
        obtain rfl := Option.some.inj hb
        refine Wc.ret ?_
        refine hKR _ _ ?_
        refine ⟨_, res1 Try.results39 (show RV _ _ _ (.tmp _) (.bool true) from rfl), _, rfl, rfl, hC.sel [] (by decide)⟩
      · replace hb := (cF hq23).symm.trans hb
        refine Wc.skip ?_
        refine hK15 _ _ ?_
        refine Wc.region (by decide +kernel) ?_
        refine lex.pure (v := .int .i64 v5_0) (pu_move e5) ?_
        obtain ⟨z25, h26, hb⟩ := bd hb
        refine lex.pure (v := .int .i64 z25) (pu_addc (a := v5_0) (b := 1) rfl rfl h26) ?_
        refine lex.pure (v := .int .i64 z25) (pu_assign rfl) ?_
        refine lex.nil ?_
        obtain rfl := Option.some.inj hb
        exact hK7 m8' _ _ (Nat.lt_succ_self _) ⟨z25, e0, e1, e4, rfl, (chk_rng h26), hC.sel [0] (by decide), lN hl0⟩
    · replace hb := (cF hq14).symm.trans hb
      refine Wc.exit rfl ?_
      obtain rfl := Option.some.inj hb
      obtain rfl := (lX hl0).symm
      exact hK6 _ _ ⟨v5_0, e4, hrv5_0, hC.sel [] (by decide), hbK0⟩
  · clear hb hC hl0
    rintro E28 w27 ⟨v5_0, e4, hrv5_0, hC, hb⟩
    refine hK3 _ _ ?_
    refine Wc.seq fun K29 hK29 => ?_
    refine Wc.region (by decide +kernel) ?_
    refine lex.pure (v := .bool false) (pu_assign rfl) ?_
    refine lex.nil ?_
    refine hK29 _ _ ?_
    obtain rfl := Option.some.inj hb
    refine Wc.ret ?_
    refine hKR _ _ ?_
    refine ⟨_, res1 Try.results39 (show RV _ _ _ (.tmp _) (.bool false) from rfl), _, rfl, rfl, hC.sel [] (by decide)⟩
end Go.Proofs.Ytmlkiafidahnbaa
