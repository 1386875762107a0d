/- The walks: part 5. -/
import Derived.Test.YtmlkiafidahnbaaS
set_option linter.unusedVariables false
set_option linter.unusedSimpArgs false
namespace Go.Proofs.Ytmlkiafidahnbaa
open Ev
set_option maxRecDepth 100000 in
set_option maxHeartbeats 4000000 in
theorem ref01_Ints_ok (n : Nat) {w : World} {O0 : List Nat} (hO : ∀ k ∈ O0, k < w.heap.size) {Aa_0 : Option Addr} {ma_0 ca_0 : Nat} {a_0 : List Int} (ha_0 : Rep O0 w (.sl (.int .i64)) [.slice Aa_0 ma_0 ca_0] a_0) {Ab_1 : Option Addr} {mb_1 cb_1 : Nat} {b_1 : List Int} (hb_1 : Rep O0 w (.sl (.int .i64)) [.slice Ab_1 mb_1 cb_1] b_1) {r : Bool} (hb : F.ref01_Ints n a_0 b_1 = some r) :
    Calls Try.prog 43 #[.slice Aa_0 ma_0 ca_0, .slice Ab_1 mb_1 cb_1] w fun e w' => ∃ v, e = .returned v ∧ v = .bool r ∧ Cx (fun _ => False) O0 w w' [] := by
  unfold F.ref01_Ints at hb
  have hC := Cx.start hO
  replace hC := hC.arg rfl ha_0
  replace hC := hC.arg rfl hb_1
  clear hO
  obtain ⟨rfl, hla_0, hca_0⟩ := ha_0.sl_len
  obtain ⟨rfl, hlb_1, hcb_1⟩ := hb_1.sl_len
  refine calls_of_Wc Try.func43 rfl (by rw [Try.ntmps43]; exact Nat.le_of_ble_eq_true rfl) fun KR hKR => ?_
  refine Wc.seq fun K3 hK3 => ?_
  refine Wc.region (by decide +kernel) ?_
  refine lex.pure (v := .bool false) (pu_assign rfl) ?_
  refine lex.nil ?_
  refine hK3 _ _ ?_
  refine Wc.seq fun K4 hK4 => ?_
  refine Wc.seq fun K5 hK5 => ?_
  refine Wc.region (by decide +kernel) ?_
  refine lex.pure (v := .slice Aa_0 a_0.length ca_0) (pu_move rfl) ?_
  refine lex.pure (v := .int .i64 (a_0.length : Int)) (pu_len (A := Aa_0) (n := a_0.length) (m := ca_0) Try.underlying28 rfl) ?_
  refine lex.pure (v := .slice Ab_1 b_1.length cb_1) (pu_move rfl) ?_
  refine lex.pure (v := .int .i64 (b_1.length : Int)) (pu_len (A := Ab_1) (n := b_1.length) (m := cb_1) Try.underlying28 rfl) ?_
  refine lex.pure (v := .bool (!(decide ((a_0.length : Int) = (b_1.length : Int))))) (pu_neq (k := .i64) (a := (a_0.length : Int)) (b := (b_1.length : Int)) rfl rfl) ?_
  refine lex.nil ?_
  refine hK5 _ _ ?_
  refine Wc.cond (t := (!(decide ((a_0.length : Int) = (b_1.length : Int))))) (rfl) (fun hq6 => ?_) (fun hq6 => ?_)
  · replace hb := (cT hq6).symm.trans hb
    refine Wc.seq fun K7 hK7 => ?_
    refine Wc.region (by decide +kernel) ?_
    refine lex.pure (v := .bool false) (pu_assign rfl) ?_
    refine lex.nil ?_
    refine hK7 _ _ ?_
    obtain rfl := Option.some.inj hb
    refine Wc.ret ?_
    refine hKR _ _ ?_
    refine ⟨_, res1 Try.results43 (show RV _ _ _ (.tmp _) (.bool false) from rfl), _, rfl, rfl, hC.sel [] (by decide)⟩
  · replace hb := (cF hq6).symm.trans hb
    refine Wc.skip ?_
    refine hK4 _ _ ?_
    refine Wc.seq fun K8 hK8 => ?_
    refine Wc.seq fun K9 hK9 => ?_
    refine Wc.region (by decide +kernel) ?_
    refine lex.pure (v := .int .i64 0) (pu_assign rfl) ?_
    refine lex.nil ?_
    refine hK9 _ _ ?_
    obtain ⟨o10, hl0, hb⟩ := bd hb
    refine Wc.cut (fun E wv => ∃ (v5_0 : Int), E 4 = .bool false ∧ I64 v5_0 ∧ Cx (fun _ => False) O0 w wv [] ∧ (some true : Option (Bool)) = some r) (fun K11 hK11 => ?_) ?_
    · refine Wc.block ?_
      refine Wc.loop (fun m E wv => ∃ (v5_0 : Int), E 0 = .slice Aa_0 a_0.length ca_0 ∧ E 1 = .slice Ab_1 b_1.length cb_1 ∧ E 4 = .bool false ∧ E 5 = .int .i64 v5_0 ∧ I64 v5_0 ∧ Cx (fun _ => False) O0 w wv [.ro (.sl (.int .i64)) [.slice Aa_0 a_0.length ca_0] a_0, .ro (.sl (.int .i64)) [.slice Ab_1 b_1.length cb_1] b_1] ∧ loopN m (F.ref01_Ints_b0 n a_0 b_1) v5_0 = some o10) n ⟨0, rfl, rfl, rfl, rfl, (show I64 0 from by unfold I64; omega), hC.sel [1, 0] (by decide), hl0⟩ ?_
      have hbK0 := hb
      clear hb hC hl0
      rintro m13 E15 w14 ⟨v5_0, e0, e1, e4, e5, hrv5_0, hC, hl0⟩ K12 hK12
      obtain ⟨m13', o16, rfl, hb, hl0⟩ := loopN_some hl0
      unfold F.ref01_Ints_b0 at hb
      refine Wc.seq fun K17 hK17 => ?_
      refine Wc.seq fun K18 hK18 => ?_
      refine Wc.region (by decide +kernel) ?_
      refine lex.pure (v := .int .i64 v5_0) (pu_move e5) ?_
      refine lex.pure (v := .slice Aa_0 a_0.length ca_0) (pu_move e0) ?_
      refine lex.pure (v := .int .i64 (a_0.length : Int)) (pu_len (A := Aa_0) (n := a_0.length) (m := ca_0) Try.underlying28 rfl) ?_
      refine lex.pure (v := .bool (decide (v5_0 < (a_0.length : Int)))) (pu_lss (k := .i64) (a := v5_0) (b := (a_0.length : Int)) rfl rfl) ?_
      refine lex.nil ?_
      refine hK18 _ _ ?_
      refine Wc.cond (t := (decide (v5_0 < (a_0.length : Int)))) (rfl) (fun hq19 => ?_) (fun hq19 => ?_)
      · replace hb := (cT hq19).symm.trans hb
        refine Wc.skip ?_
        refine hK17 _ _ ?_
        refine Wc.seq fun K20 hK20 => ?_
        refine Wc.block ?_
        refine Wc.seq fun K21 hK21 => ?_
        refine Wc.regionMix [] (frm [] ([] : List Fact) ([] : List Fact)) (fun _ => rfl) mixed (by decide +kernel) (by decide +kernel) fun w23 hw22 => ?_
        replace hC := hC.step (Fr.of_drew hw22)
        have hM := Fr.refl (fun k => k ∈ blocks ([] : List Fact)) w23
        clear hw22
        have hS := hC
        refine mixE.pure (v := .slice Aa_0 a_0.length ca_0) (pu_move e0) ?_
        refine mixE.pure (v := .int .i64 v5_0) (pu_move e5) ?_
        obtain ⟨x24, h25, hb⟩ := bd hb
        obtain ⟨ad26, cs27, hA, ho30, hc28, hr29⟩ := hS.elr2 (i := 0) rfl (get_some h25).2 []
        subst hA
        refine mixE.pure (v := .pointer (some (ad26.add (v5_0.toNat * 1)))) (pu_index (a := v5_0) Try.underlying28 Try.sizeOf3 rfl rfl (get_some h25).1) ?_
        obtain ⟨rfl, hr29'⟩ := hr29
        refine mixE.load hM (v := .int .i64 x24) (fun _ hF => ld_one Try.isAgg3 rfl (hF.cell (hc28 0 _ rfl) (off1 ho30))) ?_
        refine mixE.pure (v := .slice Ab_1 b_1.length cb_1) (pu_move e1) ?_
        refine mixE.pure (v := .int .i64 v5_0) (pu_move e5) ?_
        obtain ⟨x31, h32, hb⟩ := bd hb
        obtain ⟨ad33, cs34, hA, ho37, hc35, hr36⟩ := hS.elr2 (i := 1) rfl (get_some h32).2 []
        subst hA
        refine mixE.pure (v := .pointer (some (ad33.add (v5_0.toNat * 1)))) (pu_index (a := v5_0) Try.underlying28 Try.sizeOf3 rfl rfl (get_some h32).1) ?_
        obtain ⟨rfl, hr36'⟩ := hr36
        refine mixE.load hM (v := .int .i64 x31) (fun _ hF => ld_one Try.isAgg3 rfl (hF.cell (hc35 0 _ rfl) (off1 ho37))) ?_
        refine mixE.pure (v := .bool (!(decide (x24 = x31)))) (pu_neq (k := .i64) (a := x24) (b := x31) rfl rfl) ?_
        refine mixE.nil ?_
        clear hS hM
        refine hK21 _ _ ?_
        refine Wc.cond (t := (!(decide (x24 = x31)))) (rfl) (fun hq38 => ?_) (fun hq38 => ?_)
        · replace hb := (cT hq38).symm.trans hb
          refine Wc.seq fun K39 hK39 => ?_
          refine Wc.region (by decide +kernel) ?_
          refine lex.pure (v := .bool false) (pu_assign rfl) ?_
          refine lex.nil ?_
          refine hK39 _ _ ?_
          obtain rfl := Option.some.inj hb
          obtain rfl := (lX hl0).symm
          replace hb := hbK0
          obtain rfl := Option.some.inj hb
          refine Wc.ret ?_
          refine hKR _ _ ?_
          refine ⟨_, res1 Try.results43 (show RV _ _ _ (.tmp _) (.bool false) from rfl), _, rfl, rfl, hC.sel [] (by decide)⟩
        · replace hb := (cF hq38).symm.trans hb
          refine Wc.skip ?_
          refine hK20 _ _ ?_
          refine Wc.region (by decide +kernel) ?_
          refine lex.pure (v := .int .i64 v5_0) (pu_move e5) ?_
          obtain ⟨z40, h41, hb⟩ := bd hb
          refine lex.pure (v := .int .i64 z40) (pu_addc (a := v5_0) (b := 1) rfl rfl h41) ?_
          refine lex.pure (v := .int .i64 z40) (pu_assign rfl) ?_
          refine lex.nil ?_
          obtain rfl := Option.some.inj hb
          exact hK12 m13' _ _ (Nat.lt_succ_self _) ⟨z40, e0, e1, e4, rfl, (chk_rng h41), hC.sel [0, 1] (by decide), lN hl0⟩
      · replace hb := (cF hq19).symm.trans hb
        refine Wc.exit rfl ?_
        obtain rfl := Option.some.inj hb
        obtain rfl := (lX hl0).symm
        exact hK11 _ _ ⟨v5_0, e4, hrv5_0, hC.sel [] (by decide), hbK0⟩
    · clear hb hC hl0
      rintro E43 w42 ⟨v5_0, e4, hrv5_0, hC, hb⟩
      refine hK8 _ _ ?_
      refine Wc.seq fun K44 hK44 => ?_
      refine Wc.region (by decide +kernel) ?_
      refine lex.pure (v := .bool true) (pu_assign rfl) ?_
      refine lex.nil ?_
      refine hK44 _ _ ?_
      obtain rfl := Option.some.inj hb
      refine Wc.ret ?_
      refine hKR _ _ ?_
      refine ⟨_, res1 Try.results43 (show RV _ _ _ (.tmp _) (.bool true) from rfl), _, rfl, rfl, hC.sel [] (by decide)⟩

set_option maxRecDepth 100000 in
set_option maxHeartbeats 4000000 in
theorem ref01_Lists_ok (n : Nat) {w : World} {O0 : List Nat} (hO : ∀ k ∈ O0, k < w.heap.size) {Aa_0 : Option Addr} {ma_0 ca_0 : Nat} {a_0 : List (List Int)} (ha_0 : Rep O0 w (.sl (.sl (.int .i64))) [.slice Aa_0 ma_0 ca_0] a_0) {Ab_1 : Option Addr} {mb_1 cb_1 : Nat} {b_1 : List (List Int)} (hb_1 : Rep O0 w (.sl (.sl (.int .i64))) [.slice Ab_1 mb_1 cb_1] b_1) {r : Bool} (hb : F.ref01_Lists n a_0 b_1 = some r) :
    Calls Try.prog 13 #[.slice Aa_0 ma_0 ca_0, .slice Ab_1 mb_1 cb_1] w fun e w' => ∃ v, e = .returned v ∧ v = .bool r ∧ Cx (fun _ => False) O0 w w' [] := by
  unfold F.ref01_Lists at hb
  have hC := Cx.start hO
  replace hC := hC.arg rfl ha_0
  replace hC := hC.arg rfl hb_1
  clear hO
  obtain ⟨rfl, hla_0, hca_0⟩ := ha_0.sl_len
  obtain ⟨rfl, hlb_1, hcb_1⟩ := hb_1.sl_len
  refine calls_of_Wc Try.func13 rfl (by rw [Try.ntmps13]; exact Nat.le_of_ble_eq_true rfl) fun KR hKR => ?_
  refine Wc.seq fun K3 hK3 => ?_
  refine Wc.region (by decide +kernel) ?_
  refine lex.pure (v := .bool false) (pu_assign rfl) ?_
  refine lex.nil ?_
  refine hK3 _ _ ?_
  refine Wc.seq fun K4 hK4 => ?_
  refine Wc.seq fun K5 hK5 => ?_
  refine Wc.region (by decide +kernel) ?_
  refine lex.pure (v := .slice Aa_0 a_0.length ca_0) (pu_move rfl) ?_
  refine lex.pure (v := .int .i64 (a_0.length : Int)) (pu_len (A := Aa_0) (n := a_0.length) (m := ca_0) Try.underlying23 rfl) ?_
  refine lex.pure (v := .slice Ab_1 b_1.length cb_1) (pu_move rfl) ?_
  refine lex.pure (v := .int .i64 (b_1.length : Int)) (pu_len (A := Ab_1) (n := b_1.length) (m := cb_1) Try.underlying23 rfl) ?_
  refine lex.pure (v := .bool (!(decide ((a_0.length : Int) = (b_1.length : Int))))) (pu_neq (k := .i64) (a := (a_0.length : Int)) (b := (b_1.length : Int)) rfl rfl) ?_
  refine lex.nil ?_
  refine hK5 _ _ ?_
  refine Wc.cond (t := (!(decide ((a_0.length : Int) = (b_1.length : Int))))) (rfl) (fun hq6 => ?_) (fun hq6 => ?_)
  · replace hb := (cT hq6).symm.trans hb
    refine Wc.seq fun K7 hK7 => ?_
    refine Wc.region (by decide +kernel) ?_
    refine lex.pure (v := .bool false) (pu_assign rfl) ?_
    refine lex.nil ?_
    refine hK7 _ _ ?_
    obtain rfl := Option.some.inj hb
    refine Wc.ret ?_
    refine hKR _ _ ?_
    refine ⟨_, res1 Try.results13 (show RV _ _ _ (.tmp _) (.bool false) from rfl), _, rfl, rfl, hC.sel [] (by decide)⟩
  · replace hb := (cF hq6).symm.trans hb
    refine Wc.skip ?_
    refine hK4 _ _ ?_
    refine Wc.seq fun K8 hK8 => ?_
    refine Wc.seq fun K9 hK9 => ?_
    refine Wc.region (by decide +kernel) ?_
    refine lex.pure (v := .int .i64 0) (pu_assign rfl) ?_
    refine lex.nil ?_
    refine hK9 _ _ ?_
    obtain ⟨o10, hl0, hb⟩ := bd hb
    refine Wc.cut (fun E wv => ∃ (v5_0 : Int), E 4 = .bool false ∧ I64 v5_0 ∧ Cx (fun _ => False) O0 w wv [] ∧ (some true : Option (Bool)) = some r) (fun K11 hK11 => ?_) ?_
    · refine Wc.block ?_
      refine Wc.loop (fun m E wv => ∃ (v5_0 : Int), E 0 = .slice Aa_0 a_0.length ca_0 ∧ E 1 = .slice Ab_1 b_1.length cb_1 ∧ E 4 = .bool false ∧ E 5 = .int .i64 v5_0 ∧ I64 v5_0 ∧ Cx (fun _ => False) O0 w wv [.ro (.sl (.sl (.int .i64))) [.slice Aa_0 a_0.length ca_0] a_0, .ro (.sl (.sl (.int .i64))) [.slice Ab_1 b_1.length cb_1] b_1] ∧ loopN m (F.ref01_Lists_b0 n a_0 b_1) v5_0 = some o10) n ⟨0, rfl, rfl, rfl, rfl, (show I64 0 from by unfold I64; omega), hC.sel [1, 0] (by decide), hl0⟩ ?_
      have hbK0 := hb
      clear hb hC hl0
      rintro m13 E15 w14 ⟨v5_0, e0, e1, e4, e5, hrv5_0, hC, hl0⟩ K12 hK12
      obtain ⟨m13', o16, rfl, hb, hl0⟩ := loopN_some hl0
      unfold F.ref01_Lists_b0 at hb
      refine Wc.seq fun K17 hK17 => ?_
      refine Wc.seq fun K18 hK18 => ?_
      refine Wc.region (by decide +kernel) ?_
      refine lex.pure (v := .int .i64 v5_0) (pu_move e5) ?_
      refine lex.pure (v := .slice Aa_0 a_0.length ca_0) (pu_move e0) ?_
      refine lex.pure (v := .int .i64 (a_0.length : Int)) (pu_len (A := Aa_0) (n := a_0.length) (m := ca_0) Try.underlying23 rfl) ?_
      refine lex.pure (v := .bool (decide (v5_0 < (a_0.length : Int)))) (pu_lss (k := .i64) (a := v5_0) (b := (a_0.length : Int)) rfl rfl) ?_
      refine lex.nil ?_
      refine hK18 _ _ ?_
      refine Wc.cond (t := (decide (v5_0 < (a_0.length : Int)))) (rfl) (fun hq19 => ?_) (fun hq19 => ?_)
      · replace hb := (cT hq19).symm.trans hb
        refine Wc.skip ?_
        refine hK17 _ _ ?_
        refine Wc.seq fun K20 hK20 => ?_
        refine Wc.block ?_
        refine Wc.seq fun K21 hK21 => ?_
        refine Wc.regionMix [] (frm [] ([] : List Fact) ([] : List Fact)) (fun _ => rfl) mixed (by decide +kernel) (by decide +kernel) fun w23 hw22 => ?_
        replace hC := hC.step (Fr.of_drew hw22)
        have hM := Fr.refl (fun k => k ∈ blocks ([] : List Fact)) w23
        clear hw22
        have hS := hC
        refine mixE.pure (v := .slice Aa_0 a_0.length ca_0) (pu_move e0) ?_
        refine mixE.pure (v := .int .i64 v5_0) (pu_move e5) ?_
        obtain ⟨x24, h25, hb⟩ := bd hb
        obtain ⟨ad26, cs27, hA, ho30, hc28, hr29⟩ := hS.elr2 (i := 0) rfl (get_some h25).2 []
        subst hA
        refine mixE.pure (v := .pointer (some (ad26.add (v5_0.toNat * 1)))) (pu_index (a := v5_0) Try.underlying23 Try.sizeOf28 rfl rfl (get_some h25).1) ?_
        have hR := hr29
        obtain ⟨A31, c32, rfl, hl33, hc34, _⟩ := hr29
        replace hS := hS.ro hR
        replace hC := hC.ro hR
        clear hR
        refine mixE.load hM (v := .slice A31 x24.length c32) (fun _ hF => ld_one Try.isAgg28 rfl (hF.cell (hc28 0 _ rfl) (off1 ho30))) ?_
        refine mixE.pure (v := .slice Ab_1 b_1.length cb_1) (pu_move e1) ?_
        refine mixE.pure (v := .int .i64 v5_0) (pu_move e5) ?_
        obtain ⟨x36, h37, hb⟩ := bd hb
        obtain ⟨ad38, cs39, hA, ho42, hc40, hr41⟩ := hS.elr2 (i := 2) rfl (get_some h37).2 []
        subst hA
        refine mixE.pure (v := .pointer (some (ad38.add (v5_0.toNat * 1)))) (pu_index (a := v5_0) Try.underlying23 Try.sizeOf28 rfl rfl (get_some h37).1) ?_
        have hR := hr41
        obtain ⟨A43, c44, rfl, hl45, hc46, _⟩ := hr41
        replace hS := hS.ro hR
        replace hC := hC.ro hR
        clear hR
        refine mixE.load hM (v := .slice A43 x36.length c44) (fun _ hF => ld_one Try.isAgg28 rfl (hF.cell (hc40 0 _ rfl) (off1 ho42))) ?_
        obtain ⟨y48, h49, hb⟩ := bd hb
        refine mixE.cl hM (⟨_, _, op_call (vs := [.slice A31 x24.length c32, .slice A43 x36.length c44]) Try.call43 rfl rfl rfl, ref01_Ints_ok n hC.lt (hC.rd (i := 1) rfl) (hC.rd (i := 0) rfl) h49⟩) ?_
        rintro _ w50 ⟨rfl, hK⟩
        replace hM := hM.none hK.fr
        refine ⟨hM, ?_⟩
        replace hC := hC.merge hK
        clear hK
        refine mixE.pure (v := .bool (!y48)) (pu_not (q := y48) rfl) ?_
        refine mixE.nil ?_
        clear hS hM
        refine hK21 _ _ ?_
        refine Wc.cond (t := (!y48)) (rfl) (fun hq51 => ?_) (fun hq51 => ?_)
        · replace hb := (cT hq51).symm.trans hb
          refine Wc.seq fun K52 hK52 => ?_
          refine Wc.region (by decide +kernel) ?_
          refine lex.pure (v := .bool false) (pu_assign rfl) ?_
          refine lex.nil ?_
          refine hK52 _ _ ?_
          obtain rfl := Option.some.inj hb
          obtain rfl := (lX hl0).symm
          replace hb := hbK0
          obtain rfl := Option.some.inj hb
          refine Wc.ret ?_
          refine hKR _ _ ?_
          refine ⟨_, res1 Try.results13 (show RV _ _ _ (.tmp _) (.bool false) from rfl), _, rfl, rfl, hC.sel [] (by decide)⟩
        · replace hb := (cF hq51).symm.trans hb
          refine Wc.skip ?_
          refine hK20 _ _ ?_
          refine Wc.region (by decide +kernel) ?_
          refine lex.pure (v := .int .i64 v5_0) (pu_move e5) ?_
          obtain ⟨z53, h54, hb⟩ := bd hb
          refine lex.pure (v := .int .i64 z53) (pu_addc (a := v5_0) (b := 1) rfl rfl h54) ?_
          refine lex.pure (v := .int .i64 z53) (pu_assign rfl) ?_
          refine lex.nil ?_
          obtain rfl := Option.some.inj hb
          exact hK12 m13' _ _ (Nat.lt_succ_self _) ⟨z53, e0, e1, e4, rfl, (chk_rng h54), hC.sel [2, 3] (by decide), lN hl0⟩
      · replace hb := (cF hq19).symm.trans hb
        refine Wc.exit rfl ?_
        obtain rfl := Option.some.inj hb
        obtain rfl := (lX hl0).symm
        exact hK11 _ _ ⟨v5_0, e4, hrv5_0, hC.sel [] (by decide), hbK0⟩
    · clear hb hC hl0
      rintro E56 w55 ⟨v5_0, e4, hrv5_0, hC, hb⟩
      refine hK8 _ _ ?_
      refine Wc.seq fun K57 hK57 => ?_
      refine Wc.region (by decide +kernel) ?_
      refine lex.pure (v := .bool true) (pu_assign rfl) ?_
      refine lex.nil ?_
      refine hK57 _ _ ?_
      obtain rfl := Option.some.inj hb
      refine Wc.ret ?_
      refine hKR _ _ ?_
      refine ⟨_, res1 Try.results13 (show RV _ _ _ (.tmp _) (.bool true) from rfl), _, rfl, rfl, hC.sel [] (by decide)⟩
end Go.Proofs.Ytmlkiafidahnbaa
