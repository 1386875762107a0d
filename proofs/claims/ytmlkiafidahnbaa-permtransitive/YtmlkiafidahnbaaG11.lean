/- The walks: part 11. -/
import Derived.Test.YtmlkiafidahnbaaS
import Derived.Test.YtmlkiafidahnbaaG3
set_option linter.unusedVariables false
set_option linter.unusedSimpArgs false
namespace Go.Proofs.Ytmlkiafidahnbaa
open Ev
set_option maxRecDepth 100000 in
set_option maxHeartbeats 4000000 in
theorem ref01_IsPerm_ok (n : Nat) {w : World} {O0 : List Nat} (hO : ∀ k ∈ O0, k < w.heap.size) {Al_0 : Option Addr} {ml_0 cl_0 : Nat} {l_0 : List Int} (hl_0 : Rep O0 w (.sl (.int .i64)) [.slice Al_0 ml_0 cl_0] l_0) {nx_1 : Int} (hnx_1 : I64 nx_1) {r : Bool} (hb : F.ref01_IsPerm n l_0 nx_1 = some r) :
    Calls Try.prog 44 #[.slice Al_0 ml_0 cl_0, .int .i64 nx_1] w fun e w' => ∃ v, e = .returned v ∧ v = .bool r ∧ Cx (fun _ => False) O0 w w' [] := by
  unfold F.ref01_IsPerm at hb
  have hC := Cx.start hO
  replace hC := hC.arg rfl hl_0
  clear hO
  obtain ⟨rfl, hll_0, hcl_0⟩ := hl_0.sl_len
  refine calls_of_Wc Try.func44 rfl (by rw [Try.ntmps44]; exact Nat.le_of_ble_eq_true rfl) fun KR hKR => ?_
  refine Wc.seq fun K2 hK2 => ?_
  refine Wc.region (by decide +kernel) ?_
  refine lex.pure (v := .bool false) (pu_assign rfl) ?_
  refine lex.nil ?_
  refine hK2 _ _ ?_
  refine Wc.seq fun K3 hK3 => ?_
  refine Wc.seq fun K4 hK4 => ?_
  refine Wc.region (by decide +kernel) ?_
  refine lex.pure (v := .slice Al_0 l_0.length cl_0) (pu_move rfl) ?_
  refine lex.pure (v := .int .i64 (l_0.length : Int)) (pu_len (A := Al_0) (n := l_0.length) (m := cl_0) Try.underlying28 rfl) ?_
  refine lex.pure (v := .int .i64 nx_1) (pu_move rfl) ?_
  refine lex.pure (v := .bool (!(decide ((l_0.length : Int) = nx_1)))) (pu_neq (k := .i64) (a := (l_0.length : Int)) (b := nx_1) rfl rfl) ?_
  refine lex.nil ?_
  refine hK4 _ _ ?_
  refine Wc.cond (t := (!(decide ((l_0.length : Int) = nx_1)))) (rfl) (fun hq5 => ?_) (fun hq5 => ?_)
  · replace hb := (cT hq5).symm.trans hb
    refine Wc.seq fun K6 hK6 => ?_
    refine Wc.region (by decide +kernel) ?_
    refine lex.pure (v := .bool false) (pu_assign rfl) ?_
    refine lex.nil ?_
    refine hK6 _ _ ?_
    obtain rfl := Option.some.inj hb
    refine Wc.ret ?_
    refine hKR _ _ ?_
    refine ⟨_, res1 Try.results44 (show RV _ _ _ (.tmp _) (.bool false) from rfl), _, rfl, rfl, hC.sel [] (by decide)⟩
  · replace hb := (cF hq5).symm.trans hb
    refine Wc.skip ?_
    refine hK3 _ _ ?_
    refine Wc.seq fun K7 hK7 => ?_
    refine Wc.seq fun K8 hK8 => ?_
    refine Wc.region (by decide +kernel) ?_
    refine lex.pure (v := .int .i64 0) (pu_assign rfl) ?_
    refine lex.nil ?_
    refine hK8 _ _ ?_
    obtain ⟨o9, hl0, hb⟩ := bd hb
    refine Wc.cut (fun E wv => ∃ (v5_0 : Int), E 4 = .bool false ∧ I64 v5_0 ∧ Cx (fun _ => False) O0 w wv [] ∧ (some true : Option (Bool)) = some r) (fun K10 hK10 => ?_) ?_
    · refine Wc.block ?_
      refine Wc.loop (fun m E wv => ∃ (v5_0 : Int), E 0 = .slice Al_0 l_0.length cl_0 ∧ E 1 = .int .i64 nx_1 ∧ E 4 = .bool false ∧ E 5 = .int .i64 v5_0 ∧ I64 v5_0 ∧ Cx (fun _ => False) O0 w wv [.ro (.sl (.int .i64)) [.slice Al_0 l_0.length cl_0] l_0] ∧ loopN m (F.ref01_IsPerm_b0 n l_0 nx_1) v5_0 = some o9) n ⟨0, rfl, rfl, rfl, rfl, (show I64 0 from by unfold I64; omega), hC.sel [0] (by decide), hl0⟩ ?_
      have hbK0 := hb
      clear hb hC hl0
      rintro m12 E14 w13 ⟨v5_0, e0, e1, e4, e5, hrv5_0, hC, hl0⟩ K11 hK11
      obtain ⟨m12', o15, rfl, hb, hl0⟩ := loopN_some hl0
      unfold F.ref01_IsPerm_b0 at hb
      refine Wc.seq fun K16 hK16 => ?_
      refine Wc.seq fun K17 hK17 => ?_
      refine Wc.region (by decide +kernel) ?_
      refine lex.pure (v := .int .i64 v5_0) (pu_move e5) ?_
      refine lex.pure (v := .int .i64 nx_1) (pu_move e1) ?_
      refine lex.pure (v := .bool (decide (v5_0 < nx_1))) (pu_lss (k := .i64) (a := v5_0) (b := nx_1) rfl rfl) ?_
      refine lex.nil ?_
      refine hK17 _ _ ?_
      refine Wc.cond (t := (decide (v5_0 < nx_1))) (rfl) (fun hq18 => ?_) (fun hq18 => ?_)
      · replace hb := (cT hq18).symm.trans hb
        refine Wc.skip ?_
        refine hK16 _ _ ?_
        refine Wc.seq fun K19 hK19 => ?_
        refine Wc.block ?_
        refine Wc.seq fun K20 hK20 => ?_
        refine Wc.region (by decide +kernel) ?_
        refine lex.pure (v := .slice Al_0 l_0.length cl_0) (pu_move e0) ?_
        refine lex.pure (v := .int .i64 v5_0) (pu_move e5) ?_
        obtain ⟨y21, h22, hb⟩ := bd hb
        refine lex.cl (⟨_, _, op_call (vs := [.slice Al_0 l_0.length cl_0, .int .i64 v5_0]) Try.call39 rfl rfl rfl, ref01_In_ok n hC.lt (hC.rd (i := 0) rfl) hrv5_0 h22⟩) ?_
        rintro _ w23 ⟨rfl, hK⟩
        replace hC := hC.merge hK
        clear hK
        refine lex.pure (v := .bool (!y21)) (pu_not (q := y21) rfl) ?_
        refine lex.nil ?_
        refine hK20 _ _ ?_
        refine Wc.cond (t := (!y21)) (rfl) (fun hq24 => ?_) (fun hq24 => ?_)
        · replace hb := (cT hq24).symm.trans hb
          refine Wc.seq fun K25 hK25 => ?_
          refine Wc.region (by decide +kernel) ?_
          refine lex.pure (v := .bool false) (pu_assign rfl) ?_
          refine lex.nil ?_
          refine hK25 _ _ ?_
          obtain rfl := Option.some.inj hb
          obtain rfl := (lX hl0).symm
          replace hb := hbK0
          obtain rfl := Option.some.inj hb
          refine Wc.ret ?_
          refine hKR _ _ ?_
          refine ⟨_, res1 Try.results44 (show RV _ _ _ (.tmp _) (.bool false) from rfl), _, rfl, rfl, hC.sel [] (by decide)⟩
        · replace hb := (cF hq24).symm.trans hb
          refine Wc.skip ?_
          refine hK19 _ _ ?_
          refine Wc.region (by decide +kernel) ?_
          refine lex.pure (v := .int .i64 v5_0) (pu_move e5) ?_
          obtain ⟨z26, h27, hb⟩ := bd hb
          refine lex.pure (v := .int .i64 z26) (pu_addc (a := v5_0) (b := 1) rfl rfl h27) ?_
          refine lex.pure (v := .int .i64 z26) (pu_assign rfl) ?_
          refine lex.nil ?_
          obtain rfl := Option.some.inj hb
          exact hK11 m12' _ _ (Nat.lt_succ_self _) ⟨z26, e0, e1, e4, rfl, (chk_rng h27), hC.sel [0] (by decide), lN hl0⟩
      · replace hb := (cF hq18).symm.trans hb
        refine Wc.exit rfl ?_
        obtain rfl := Option.some.inj hb
        obtain rfl := (lX hl0).symm
        exact hK10 _ _ ⟨v5_0, e4, hrv5_0, hC.sel [] (by decide), hbK0⟩
    · clear hb hC hl0
      rintro E29 w28 ⟨v5_0, e4, hrv5_0, hC, hb⟩
      refine hK7 _ _ ?_
      refine Wc.seq fun K30 hK30 => ?_
      refine Wc.region (by decide +kernel) ?_
      refine lex.pure (v := .bool true) (pu_assign rfl) ?_
      refine lex.nil ?_
      refine hK30 _ _ ?_
      obtain rfl := Option.some.inj hb
      refine Wc.ret ?_
      refine hKR _ _ ?_
      refine ⟨_, res1 Try.results44 (show RV _ _ _ (.tmp _) (.bool true) from rfl), _, rfl, rfl, hC.sel [] (by decide)⟩

set_option maxRecDepth 100000 in
set_option maxHeartbeats 4000000 in
theorem ref30_Valid_ok (n : Nat) {w : World} {O0 : List Nat} (hO : ∀ k ∈ O0, k < w.heap.size) {Ap_0 : Option Addr} {mp_0 cp_0 : Nat} {p_0 : List Int} (hp_0 : Rep O0 w (.sl (.int .i64)) [.slice Ap_0 mp_0 cp_0] p_0) {r : Bool} (hb : F.ref30_Valid n p_0 = some r) :
    Calls Try.prog 18 #[.slice Ap_0 mp_0 cp_0] w fun e w' => ∃ v, e = .returned v ∧ v = .bool r ∧ Cx (fun _ => False) O0 w w' [] := by
  unfold F.ref30_Valid at hb
  have hC := Cx.start hO
  replace hC := hC.arg rfl hp_0
  clear hO
  obtain ⟨rfl, hlp_0, hcp_0⟩ := hp_0.sl_len
  refine calls_of_Wc Try.func18 rfl (by rw [Try.ntmps18]; exact Nat.le_of_ble_eq_true rfl) fun KR hKR => ?_
  refine Wc.seq fun K2 hK2 => ?_
  refine Wc.region (by decide +kernel) ?_
  refine lex.pure (v := .bool false) (pu_assign rfl) ?_
  refine lex.nil ?_
  refine hK2 _ _ ?_
  refine Wc.seq fun K3 hK3 => ?_
  refine Wc.region (by decide +kernel) ?_
  refine lex.pure (v := .slice Ap_0 p_0.length cp_0) (pu_move rfl) ?_
  refine lex.pure (v := .slice Ap_0 p_0.length cp_0) (pu_move rfl) ?_
  refine lex.pure (v := .int .i64 (p_0.length : Int)) (pu_len (A := Ap_0) (n := p_0.length) (m := cp_0) Try.underlying28 rfl) ?_
  obtain ⟨y4, h5, hb⟩ := bd hb
  refine lex.cl (⟨_, _, op_call (vs := [.slice Ap_0 p_0.length cp_0, .int .i64 (p_0.length : Int)]) Try.call44 rfl rfl rfl, ref01_IsPerm_ok n hC.lt (hC.rd (i := 0) rfl) (I64.len hlp_0 hcp_0) h5⟩) ?_
  rintro _ w6 ⟨rfl, hK⟩
  replace hC := hC.merge hK
  clear hK
  refine lex.pure (v := .bool y4) (pu_assign rfl) ?_
  refine lex.nil ?_
  refine hK3 _ _ ?_
  obtain rfl := Option.some.inj hb
  refine Wc.ret ?_
  refine hKR _ _ ?_
  refine ⟨_, res1 Try.results18 (show RV _ _ _ (.tmp _) (.bool y4) from rfl), _, rfl, rfl, hC.sel [] (by decide)⟩
end Go.Proofs.Ytmlkiafidahnbaa
