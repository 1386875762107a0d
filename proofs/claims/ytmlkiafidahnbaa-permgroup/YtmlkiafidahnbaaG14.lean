/- The walks: part 14. -/
import Derived.Test.YtmlkiafidahnbaaS
import Derived.Test.YtmlkiafidahnbaaG0
import Derived.Test.YtmlkiafidahnbaaG1
set_option linter.unusedVariables false
set_option linter.unusedSimpArgs false
namespace Go.Proofs.Ytmlkiafidahnbaa
open Ev
set_option maxRecDepth 100000 in
set_option maxHeartbeats 4000000 in
theorem perm_Sign_ok (n : Nat) {w : World} {O0 : List Nat} (hO : ∀ k ∈ O0, k < w.heap.size) {Ap_0 : Option Addr} {mp_0 cp_0 : Nat} {p_0 : List Int} (hp_0 : Rep O0 w (.sl (.int .i64)) [.slice Ap_0 mp_0 cp_0] p_0) {r : Int} (hb : F.perm_Sign n p_0 = some r) :
    Calls Try.prog 26 #[.slice Ap_0 mp_0 cp_0] w fun e w' => ∃ v, e = .returned v ∧ v = .int .i64 r ∧ I64 r ∧ Cx (fun _ => False) O0 w w' [] := by
  unfold F.perm_Sign at hb
  have hC := Cx.start hO
  replace hC := hC.arg rfl hp_0
  clear hO
  obtain ⟨rfl, hlp_0, hcp_0⟩ := hp_0.sl_len
  refine calls_of_Wc Try.func26 rfl (by rw [Try.ntmps26]; exact Nat.le_of_ble_eq_true rfl) fun KR hKR => ?_
  refine Wc.seq fun K2 hK2 => ?_
  refine Wc.region (by decide +kernel) ?_
  refine lex.pure (v := .int .i64 0) (pu_assign rfl) ?_
  refine lex.nil ?_
  refine hK2 _ _ ?_
  refine Wc.seq fun K3 hK3 => ?_
  refine Wc.seq fun K4 hK4 => ?_
  refine Wc.region (by decide +kernel) ?_
  refine lex.pure (v := .slice Ap_0 p_0.length cp_0) (pu_move rfl) ?_
  obtain ⟨y5, h6, hb⟩ := bd hb
  refine lex.cl (⟨_, _, op_call (vs := [.slice Ap_0 p_0.length cp_0]) Try.call19 rfl rfl rfl, perm_Valid_ok n hC.lt (hC.rd (i := 0) rfl) h6⟩) ?_
  rintro _ w7 ⟨rfl, hK⟩
  replace hC := hC.merge hK
  clear hK
  refine lex.pure (v := .bool (!y5)) (pu_not (q := y5) rfl) ?_
  refine lex.nil ?_
  refine hK4 _ _ ?_
  refine Wc.cond (t := (!y5)) (rfl) (fun hq8 => ?_) (fun hq8 => ?_)
  · replace hb := (cT hq8).symm.trans hb
    refine Wc.seq fun K9 hK9 => ?_
    refine Wc.region (by decide +kernel) ?_
    refine lex.pure (v := .int .i64 0) (pu_assign rfl) ?_
    refine lex.nil ?_
    refine hK9 _ _ ?_
    obtain rfl := Option.some.inj hb
    refine Wc.ret ?_
    refine hKR _ _ ?_
    refine ⟨_, res1 Try.results26 (show RV _ _ _ (.tmp _) (.int .i64 0) from rfl), _, rfl, rfl, (show I64 0 from by unfold I64; omega), hC.sel [] (by decide)⟩
  · replace hb := (cF hq8).symm.trans hb
    refine Wc.skip ?_
    refine hK3 _ _ ?_
    refine Wc.seq fun K10 hK10 => ?_
    refine Wc.region (by decide +kernel) ?_
    refine lex.pure (v := .int .i64 1) (pu_assign rfl) ?_
    refine lex.nil ?_
    refine hK10 _ _ ?_
    refine Wc.seq fun K11 hK11 => ?_
    refine Wc.seq fun K12 hK12 => ?_
    refine Wc.region (by decide +kernel) ?_
    refine lex.pure (v := .slice Ap_0 p_0.length cp_0) (pu_move rfl) ?_
    obtain ⟨y13, h14, hb⟩ := bd hb
    refine lex.cl (⟨_, _, op_call (vs := [.slice Ap_0 p_0.length cp_0]) Try.call24 rfl rfl rfl, perm_Cycles_ok n hC.lt (hC.rd (i := 0) rfl) h14⟩) ?_
    rintro _ w19 ⟨A15, m16, c17, rfl, hK⟩
    replace hC := hC.merge hK
    clear hK
    obtain ⟨rfl, hl20, hc21⟩ := (hC.ow (i := 0) rfl).sl_len
    refine lex.pure (v := .int .i64 (y13.length : Int)) (pu_len (A := A15) (n := y13.length) (m := c17) Try.underlying23 rfl) ?_
    refine lex.pure (v := .int .i64 0) (pu_move rfl) ?_
    refine lex.nil ?_
    refine hK12 _ _ ?_
    obtain ⟨o22, hl0, hb⟩ := bd hb
    refine Wc.cut (fun E wv => ∃ (v3_0 : Int) (v12_0 : Int), E 2 = .int .i64 0 ∧ E 3 = .int .i64 v3_0 ∧ I64 v3_0 ∧ I64 v12_0 ∧ Cx (fun _ => False) O0 w wv [] ∧ (some v3_0 : Option (Int)) = some r) (fun K23 hK23 => ?_) ?_
    · refine Wc.block ?_
      refine Wc.loop (fun m E wv => ∃ (v3_0 : Int) (v12_0 : Int), E 2 = .int .i64 0 ∧ E 3 = .int .i64 v3_0 ∧ E 10 = .slice A15 y13.length c17 ∧ E 11 = .int .i64 (y13.length : Int) ∧ E 12 = .int .i64 v12_0 ∧ I64 v3_0 ∧ I64 v12_0 ∧ Cx (fun _ => False) O0 w wv [.own 28 (.sl (.int .i64)) (.slice A15 y13.length c17) y13] ∧ loopN m (F.perm_Sign_b0 n y13) (v3_0, v12_0) = some o22) n ⟨1, 0, rfl, rfl, rfl, rfl, rfl, (show I64 1 from by unfold I64; omega), (show I64 0 from by unfold I64; omega), hC.sel [0] (by decide), hl0⟩ ?_
      have hbK0 := hb
      clear hb hC hl0
      rintro m25 E27 w26 ⟨v3_0, v12_0, e2, e3, e10, e11, e12, hrv3_0, hrv12_0, hC, hl0⟩ K24 hK24
      obtain ⟨m25', o28, rfl, hb, hl0⟩ := loopN_some hl0
      unfold F.perm_Sign_b0 at hb
      refine Wc.seq fun K29 hK29 => ?_
      refine Wc.region (by decide +kernel) ?_
      refine lex.pure (v := .bool (decide (v12_0 < (y13.length : Int)))) (pu_lss (k := .i64) (a := v12_0) (b := (y13.length : Int)) e12 e11) ?_
      refine lex.nil ?_
      refine hK29 _ _ ?_
      refine Wc.seq fun K30 hK30 => ?_
      refine Wc.cond (t := (decide (v12_0 < (y13.length : Int)))) (rfl) (fun hq31 => ?_) (fun hq31 => ?_)
      · replace hb := (cT hq31).symm.trans hb
        refine Wc.skip ?_
        refine hK30 _ _ ?_
        refine Wc.seq fun K32 hK32 => ?_
        refine Wc.block ?_
        refine Wc.seq fun K33 hK33 => ?_
        refine Wc.region (by decide +kernel) ?_
        obtain ⟨x34, h35, hb⟩ := bd hb
        obtain ⟨ad36, cs37, hA, hc38, hr39⟩ := hC.elo (i := 0) rfl (get_some h35).2
        subst hA
        refine lex.pure (v := .pointer (some (ad36.add (v12_0.toNat * 1)))) (pu_index (a := v12_0) Try.underlying23 Try.sizeOf28 e10 e12 (get_some h35).1) ?_
        have hR := hr39
        obtain ⟨A40, c41, rfl, hl42, hc43, _⟩ := hr39
        replace hC := hC.ro hR
        clear hR
        refine lex.val (v := .slice A40 x34.length c41) (ld_one Try.isAgg28 rfl (hc38 0 _ rfl)) ?_
        refine lex.pure (v := .slice A40 x34.length c41) (pu_assign rfl) ?_
        refine lex.nil ?_
        refine hK33 _ _ ?_
        refine Wc.seq fun K45 hK45 => ?_
        refine Wc.region (by decide +kernel) ?_
        refine lex.pure (v := .slice A40 x34.length c41) (pu_move rfl) ?_
        refine lex.pure (v := .int .i64 (x34.length : Int)) (pu_len (A := A40) (n := x34.length) (m := c41) Try.underlying28 rfl) ?_
        obtain ⟨u46, h47, hb⟩ := bd hb
        refine lex.pure (v := .int .i64 (Int.tmod (x34.length : Int) 2)) (pu_remc (a := (x34.length : Int)) (b := 2) rfl rfl h47) ?_
        refine lex.pure (v := .bool (decide ((Int.tmod (x34.length : Int) 2) = 0))) (pu_eql (k := .i64) (a := (Int.tmod (x34.length : Int) 2)) (b := 0) rfl rfl) ?_
        refine lex.nil ?_
        refine hK45 _ _ ?_
        refine Wc.cond (t := (decide ((Int.tmod (x34.length : Int) 2) = 0))) (rfl) (fun hq48 => ?_) (fun hq48 => ?_)
        · replace hb := (cT hq48).symm.trans hb
          refine Wc.region (by decide +kernel) ?_
          refine lex.pure (v := .int .i64 v3_0) (pu_move e3) ?_
          obtain ⟨z49, h50, hb⟩ := bd hb
          refine lex.pure (v := .int .i64 z49) (pu_negc (a := v3_0) rfl h50) ?_
          refine lex.pure (v := .int .i64 z49) (pu_assign rfl) ?_
          refine lex.nil ?_
          refine hK32 _ _ ?_
          refine Wc.region (by decide +kernel) ?_
          obtain ⟨z51, h52, hb⟩ := bd hb
          refine lex.pure (v := .int .i64 z51) (pu_addc (a := v12_0) (b := 1) e12 rfl h52) ?_
          refine lex.pure (v := .int .i64 z51) (pu_move rfl) ?_
          refine lex.nil ?_
          obtain rfl := Option.some.inj hb
          exact hK24 m25' _ _ (Nat.lt_succ_self _) ⟨z49, z51, e2, rfl, e10, e11, rfl, (chk_rng h50), (chk_rng h52), hC.sel [1] (by decide), lN hl0⟩
        · replace hb := (cF hq48).symm.trans hb
          refine Wc.skip ?_
          refine hK32 _ _ ?_
          refine Wc.region (by decide +kernel) ?_
          obtain ⟨z53, h54, hb⟩ := bd hb
          refine lex.pure (v := .int .i64 z53) (pu_addc (a := v12_0) (b := 1) e12 rfl h54) ?_
          refine lex.pure (v := .int .i64 z53) (pu_move rfl) ?_
          refine lex.nil ?_
          obtain rfl := Option.some.inj hb
          exact hK24 m25' _ _ (Nat.lt_succ_self _) ⟨v3_0, z53, e2, e3, e10, e11, rfl, hrv3_0, (chk_rng h54), hC.sel [1] (by decide), lN hl0⟩
      · replace hb := (cF hq31).symm.trans hb
        refine Wc.exit rfl ?_
        obtain rfl := Option.some.inj hb
        obtain rfl := (lX hl0).symm
        exact hK23 _ _ ⟨v3_0, v12_0, e2, e3, hrv3_0, hrv12_0, hC.sel [] (by decide), hbK0⟩
    · clear hb hC hl0
      rintro E56 w55 ⟨v3_0, v12_0, e2, e3, hrv3_0, hrv12_0, hC, hb⟩
      refine hK11 _ _ ?_
      refine Wc.seq fun K57 hK57 => ?_
      refine Wc.region (by decide +kernel) ?_
      refine lex.pure (v := .int .i64 v3_0) (pu_move e3) ?_
      refine lex.pure (v := .int .i64 v3_0) (pu_assign rfl) ?_
      refine lex.nil ?_
      refine hK57 _ _ ?_
      obtain rfl := Option.some.inj hb
      refine Wc.ret ?_
      refine hKR _ _ ?_
      refine ⟨_, res1 Try.results26 (show RV _ _ _ (.tmp _) (.int .i64 v3_0) from rfl), _, rfl, rfl, hrv3_0, hC.sel [] (by decide)⟩
end Go.Proofs.Ytmlkiafidahnbaa
