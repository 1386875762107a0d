/- The walks: part 19. -/
import Derived.Test.YtlkmcbgkohpmiaaS
import Derived.Test.YtlkmcbgkohpmiaaG18
set_option linter.unusedVariables false
set_option linter.unusedSimpArgs false
namespace Go.Proofs.Ytlkmcbgkohpmiaa
open Ev
set_option maxRecDepth 100000 in
set_option maxHeartbeats 4000000 in
theorem cmp_isNaN_int_ok (n : Nat) {w : World} {O0 : List Nat} (hO : ∀ k ∈ O0, k < w.heap.size) {x_0 : Int} (hx_0 : I64 x_0) {r : Bool} (hb : F.cmp_isNaN_int n x_0 = some r) :
    Calls Try.prog 97 #[.int .i64 x_0] w fun e w' => ∃ v, e = .returned v ∧ v = .bool r ∧ Cx (fun _ => False) O0 w w' [] := by
  unfold F.cmp_isNaN_int at hb
  have hC := Cx.start hO
  clear hO
  refine calls_of_Wc Try.func97 rfl (by rw [Try.ntmps97]; exact Nat.le_of_ble_eq_true rfl) fun KR hKR => ?_
  refine Wc.seq fun K1 hK1 => ?_
  refine Wc.region (by decide +kernel) ?_
  refine lex.pure (v := .bool false) (pu_assign rfl) ?_
  refine lex.nil ?_
  refine hK1 _ _ ?_
  refine Wc.seq fun K2 hK2 => ?_
  refine Wc.region (by decide +kernel) ?_
  refine lex.pure (v := .int .i64 x_0) (pu_move rfl) ?_
  refine lex.pure (v := .int .i64 x_0) (pu_move rfl) ?_
  refine lex.pure (v := .bool (!(decide (x_0 = x_0)))) (pu_neq (k := .i64) (a := x_0) (b := x_0) rfl rfl) ?_
  refine lex.pure (v := .bool (!(decide (x_0 = x_0)))) (pu_assign rfl) ?_
  refine lex.nil ?_
  refine hK2 _ _ ?_
  obtain rfl := Option.some.inj hb
  refine Wc.ret ?_
  refine hKR _ _ ?_
  refine ⟨_, res1 Try.results97 (show RV _ _ _ (.tmp _) (.bool (!(decide (x_0 = x_0)))) from rfl), _, rfl, rfl, hC.sel [] (by decide)⟩

set_option maxRecDepth 100000 in
set_option maxHeartbeats 4000000 in
theorem cmp_Less_int_ok (n : Nat) {w : World} {O0 : List Nat} (hO : ∀ k ∈ O0, k < w.heap.size) {x_0 : Int} (hx_0 : I64 x_0) {y_1 : Int} (hy_1 : I64 y_1) {r : Bool} (hb : F.cmp_Less_int n x_0 y_1 = some r) :
    Calls Try.prog 92 #[.int .i64 x_0, .int .i64 y_1] w fun e w' => ∃ v, e = .returned v ∧ v = .bool r ∧ Cx (fun _ => False) O0 w w' [] := by
  unfold F.cmp_Less_int at hb
  have hC := Cx.start hO
  clear hO
  refine calls_of_Wc Try.func92 rfl (by rw [Try.ntmps92]; exact Nat.le_of_ble_eq_true rfl) fun KR hKR => ?_
  refine Wc.seq fun K1 hK1 => ?_
  refine Wc.region (by decide +kernel) ?_
  refine lex.pure (v := .bool false) (pu_assign rfl) ?_
  refine lex.nil ?_
  refine hK1 _ _ ?_
  refine Wc.seq fun K2 hK2 => ?_
  refine Wc.region (by decide +kernel) ?_
  refine lex.pure (v := .int .i64 x_0) (pu_move rfl) ?_
  obtain ⟨y3, h4, hb⟩ := bd hb
  refine lex.cl (⟨_, _, op_call (vs := [.int .i64 x_0]) Try.call97 rfl rfl rfl, cmp_isNaN_int_ok n hC.lt hx_0 h4⟩) ?_
  rintro _ w5 ⟨rfl, hK⟩
  replace hC := hC.merge hK
  clear hK
  refine lex.pure (v := .bool y3) (pu_move rfl) ?_
  rcases bS y3 with hq6 | hq6
  · replace hb := (cT hq6).symm.trans hb
    refine lex.gpure (want_t rfl rfl (show _ = Value.bool y3 from rfl) hq6) (v := .int .i64 y_1) (pu_move rfl) ?_
    obtain ⟨y7, h8, hb⟩ := bd hb
    refine lex.gcl (want_t rfl rfl (show _ = Value.bool y3 from rfl) hq6) (⟨_, _, op_call (vs := [.int .i64 y_1]) Try.call97 rfl rfl rfl, cmp_isNaN_int_ok n hC.lt hy_1 h8⟩) ?_
    rintro _ w9 ⟨rfl, hK⟩
    replace hC := hC.merge hK
    clear hK
    refine lex.gpure (want_t rfl rfl (show _ = Value.bool y3 from rfl) hq6) (v := .bool (!y7)) (pu_not (q := y7) rfl) ?_
    refine lex.pure (v := .bool (!y7)) (pu_pickT (q := y3) rfl hq6 rfl) ?_
    refine lex.pure (v := .bool (!y7)) (pu_move rfl) ?_
    rcases bS (!y7) with hq10 | hq10
    · replace hb := (cT hq10).symm.trans hb
      refine lex.gskip (want_f rfl rfl (show _ = Value.bool (!y7) from rfl) hq10) ?_
      refine lex.gskip (want_f rfl rfl (show _ = Value.bool (!y7) from rfl) hq10) ?_
      refine lex.gskip (want_f rfl rfl (show _ = Value.bool (!y7) from rfl) hq10) ?_
      refine lex.pure (v := .bool true) (pu_pickT (q := (!y7)) rfl hq10 rfl) ?_
      refine lex.pure (v := .bool true) (pu_assign rfl) ?_
      refine lex.nil ?_
      refine hK2 _ _ ?_
      obtain rfl := Option.some.inj hb
      refine Wc.ret ?_
      refine hKR _ _ ?_
      refine ⟨_, res1 Try.results92 (show RV _ _ _ (.tmp _) (.bool true) from rfl), _, rfl, rfl, hC.sel [] (by decide)⟩
    · replace hb := (cF hq10).symm.trans hb
      refine lex.gpure (want_t rfl rfl (show _ = Value.bool (!y7) from rfl) hq10) (v := .int .i64 x_0) (pu_move rfl) ?_
      refine lex.gpure (want_t rfl rfl (show _ = Value.bool (!y7) from rfl) hq10) (v := .int .i64 y_1) (pu_move rfl) ?_
      refine lex.gpure (want_t rfl rfl (show _ = Value.bool (!y7) from rfl) hq10) (v := .bool (decide (x_0 < y_1))) (pu_lss (k := .i64) (a := x_0) (b := y_1) rfl rfl) ?_
      refine lex.pure (v := .bool (decide (x_0 < y_1))) (pu_pickF (q := (!y7)) rfl hq10 rfl) ?_
      refine lex.pure (v := .bool (decide (x_0 < y_1))) (pu_assign rfl) ?_
      refine lex.nil ?_
      refine hK2 _ _ ?_
      obtain rfl := Option.some.inj hb
      refine Wc.ret ?_
      refine hKR _ _ ?_
      refine ⟨_, res1 Try.results92 (show RV _ _ _ (.tmp _) (.bool (decide (x_0 < y_1))) from rfl), _, rfl, rfl, hC.sel [] (by decide)⟩
  · replace hb := (cF hq6).symm.trans hb
    refine lex.gskip (want_f rfl rfl (show _ = Value.bool y3 from rfl) hq6) ?_
    refine lex.gskip (want_f rfl rfl (show _ = Value.bool y3 from rfl) hq6) ?_
    refine lex.gskip (want_f rfl rfl (show _ = Value.bool y3 from rfl) hq6) ?_
    refine lex.pure (v := .bool false) (pu_pickF (q := y3) rfl hq6 rfl) ?_
    refine lex.pure (v := .bool false) (pu_move rfl) ?_
    refine lex.gpure (want_t rfl rfl (show _ = Value.bool false from rfl) rfl) (v := .int .i64 x_0) (pu_move rfl) ?_
    refine lex.gpure (want_t rfl rfl (show _ = Value.bool false from rfl) rfl) (v := .int .i64 y_1) (pu_move rfl) ?_
    refine lex.gpure (want_t rfl rfl (show _ = Value.bool false from rfl) rfl) (v := .bool (decide (x_0 < y_1))) (pu_lss (k := .i64) (a := x_0) (b := y_1) rfl rfl) ?_
    refine lex.pure (v := .bool (decide (x_0 < y_1))) (pu_pickF (q := false) rfl rfl rfl) ?_
    refine lex.pure (v := .bool (decide (x_0 < y_1))) (pu_assign rfl) ?_
    refine lex.nil ?_
    refine hK2 _ _ ?_
    obtain rfl := Option.some.inj hb
    refine Wc.ret ?_
    refine hKR _ _ ?_
    refine ⟨_, res1 Try.results92 (show RV _ _ _ (.tmp _) (.bool (decide (x_0 < y_1))) from rfl), _, rfl, rfl, hC.sel [] (by decide)⟩

set_option maxRecDepth 100000 in
set_option maxHeartbeats 4000000 in
theorem slices_IsSorted_Perm_int_ok (n : Nat) {w : World} {O0 : List Nat} (hO : ∀ k ∈ O0, k < w.heap.size) {Ax_0 : Option Addr} {mx_0 cx_0 : Nat} {x_0 : List Int} (hx_0 : Rep O0 w (.sl (.int .i64)) [.slice Ax_0 mx_0 cx_0] x_0) {r : Bool} (hb : F.slices_IsSorted_Perm_int n x_0 = some r) :
    Calls Try.prog 85 #[.slice Ax_0 mx_0 cx_0] w fun e w' => ∃ v, e = .returned v ∧ v = .bool r ∧ Cx (fun _ => False) O0 w w' [] := by
  unfold F.slices_IsSorted_Perm_int at hb
  have hC := Cx.start hO
  replace hC := hC.arg rfl hx_0
  clear hO
  obtain ⟨rfl, hlx_0, hcx_0⟩ := hx_0.sl_len
  refine calls_of_Wc Try.func85 rfl (by rw [Try.ntmps85]; exact Nat.le_of_ble_eq_true rfl) fun KR hKR => ?_
  refine Wc.seq fun K2 hK2 => ?_
  refine Wc.region (by decide +kernel) ?_
  refine lex.pure (v := .bool false) (pu_assign rfl) ?_
  refine lex.nil ?_
  refine hK2 _ _ ?_
  refine Wc.seq fun K3 hK3 => ?_
  refine Wc.seq fun K4 hK4 => ?_
  refine Wc.region (by decide +kernel) ?_
  refine lex.pure (v := .slice Ax_0 x_0.length cx_0) (pu_move rfl) ?_
  refine lex.pure (v := .int .i64 (x_0.length : Int)) (pu_len (A := Ax_0) (n := x_0.length) (m := cx_0) Try.underlying52 rfl) ?_
  obtain ⟨z5, h6, hb⟩ := bd hb
  refine lex.pure (v := .int .i64 z5) (pu_subc (a := (x_0.length : Int)) (b := 1) rfl rfl h6) ?_
  refine lex.pure (v := .int .i64 z5) (pu_assign rfl) ?_
  refine lex.nil ?_
  refine hK4 _ _ ?_
  obtain ⟨o7, hl0, hb⟩ := bd hb
  refine Wc.cut (fun E wv => ∃ (v3_0 : Int), E 2 = .bool false ∧ I64 v3_0 ∧ Cx (fun _ => False) O0 w wv [] ∧ (some true : Option (Bool)) = some r) (fun K8 hK8 => ?_) ?_
  · refine Wc.block ?_
    refine Wc.loop (fun m E wv => ∃ (v3_0 : Int), E 0 = .slice Ax_0 x_0.length cx_0 ∧ E 2 = .bool false ∧ E 3 = .int .i64 v3_0 ∧ I64 v3_0 ∧ Cx (fun _ => False) O0 w wv [.ro (.sl (.int .i64)) [.slice Ax_0 x_0.length cx_0] x_0] ∧ loopN m (F.slices_IsSorted_Perm_int_b0 n x_0) v3_0 = some o7) n ⟨z5, rfl, rfl, rfl, (chk_rng h6), hC.sel [0] (by decide), hl0⟩ ?_
    have hbK0 := hb
    clear hb hC hl0
    rintro m10 E12 w11 ⟨v3_0, e0, e2, e3, hrv3_0, hC, hl0⟩ K9 hK9
    obtain ⟨m10', o13, rfl, hb, hl0⟩ := loopN_some hl0
    unfold F.slices_IsSorted_Perm_int_b0 at hb
    refine Wc.seq fun K14 hK14 => ?_
    refine Wc.seq fun K15 hK15 => ?_
    refine Wc.region (by decide +kernel) ?_
    refine lex.pure (v := .int .i64 v3_0) (pu_move e3) ?_
    refine lex.pure (v := .bool (decide (0 < v3_0))) (pu_gtr (k := .i64) (a := v3_0) (b := 0) rfl rfl) ?_
    refine lex.nil ?_
    refine hK15 _ _ ?_
    refine Wc.cond (t := (decide (0 < v3_0))) (rfl) (fun hq16 => ?_) (fun hq16 => ?_)
    · replace hb := (cT hq16).symm.trans hb
      refine Wc.skip ?_
      refine hK14 _ _ ?_
      refine Wc.seq fun K17 hK17 => ?_
      refine Wc.block ?_
      refine Wc.seq fun K18 hK18 => ?_
      refine Wc.regionMix [] (frm [] ([] : List Fact) ([] : List Fact)) (fun _ => rfl) mixed (by decide +kernel) (by decide +kernel) fun w20 hw19 => ?_
      replace hC := hC.step (Fr.of_drew hw19)
      have hM := Fr.refl (fun k => k ∈ blocks ([] : List Fact)) w20
      clear hw19
      have hS := hC
      refine mixE.pure (v := .slice Ax_0 x_0.length cx_0) (pu_move e0) ?_
      refine mixE.pure (v := .int .i64 v3_0) (pu_move e3) ?_
      obtain ⟨x21, h22, hb⟩ := bd hb
      obtain ⟨ad23, cs24, hA, ho27, hc25, hr26⟩ := hS.elr2 (i := 0) rfl (get_some h22).2 []
      subst hA
      refine mixE.pure (v := .pointer (some (ad23.add (v3_0.toNat * 1)))) (pu_index (a := v3_0) Try.underlying52 Try.sizeOf3 rfl rfl (get_some h22).1) ?_
      obtain ⟨rfl, hr26'⟩ := hr26
      refine mixE.load hM (v := .int .i64 x21) (fun _ hF => ld_one Try.isAgg3 rfl (hF.cell (hc25 0 _ rfl) (off1 ho27))) ?_
      refine mixE.pure (v := .slice (some ad23) x_0.length cx_0) (pu_move e0) ?_
      refine mixE.pure (v := .int .i64 v3_0) (pu_move e3) ?_
      obtain ⟨z28, h29, hb⟩ := bd hb
      refine mixE.pure (v := .int .i64 z28) (pu_subc (a := v3_0) (b := 1) rfl rfl h29) ?_
      obtain ⟨x30, h31, hb⟩ := bd hb
      obtain ⟨ad32, cs33, hA, ho36, hc34, hr35⟩ := hS.elr2 (i := 0) rfl (get_some h31).2 []
      obtain rfl := Option.some.inj hA
      refine mixE.pure (v := .pointer (some (ad23.add (z28.toNat * 1)))) (pu_index (a := z28) Try.underlying52 Try.sizeOf3 rfl rfl (get_some h31).1) ?_
      obtain ⟨rfl, hr35'⟩ := hr35
      refine mixE.load hM (v := .int .i64 x30) (fun _ hF => ld_one Try.isAgg3 rfl (hF.cell (hc34 0 _ rfl) (off1 ho36))) ?_
      obtain ⟨y37, h38, hb⟩ := bd hb
      refine mixE.cl hM (⟨_, _, op_call (vs := [.int .i64 x21, .int .i64 x30]) Try.call92 rfl rfl rfl, cmp_Less_int_ok n hC.lt (wrap_I64 hr26') (wrap_I64 hr35') h38⟩) ?_
      rintro _ w39 ⟨rfl, hK⟩
      replace hM := hM.none hK.fr
      refine ⟨hM, ?_⟩
      replace hC := hC.merge hK
      clear hK
      refine mixE.nil ?_
      clear hS hM
      refine hK18 _ _ ?_
      refine Wc.cond (t := y37) (rfl) (fun hq40 => ?_) (fun hq40 => ?_)
      · replace hb := (cT hq40).symm.trans hb
        refine Wc.seq fun K41 hK41 => ?_
        refine Wc.region (by decide +kernel) ?_
        refine lex.pure (v := .bool false) (pu_assign rfl) ?_
        refine lex.nil ?_
        refine hK41 _ _ ?_
        obtain rfl := Option.some.inj hb
        obtain rfl := (lX hl0).symm
        replace hb := hbK0
        obtain rfl := Option.some.inj hb
        refine Wc.ret ?_
        refine hKR _ _ ?_
        refine ⟨_, res1 Try.results85 (show RV _ _ _ (.tmp _) (.bool false) from rfl), _, rfl, rfl, hC.sel [] (by decide)⟩
      · replace hb := (cF hq40).symm.trans hb
        refine Wc.skip ?_
        refine hK17 _ _ ?_
        refine Wc.region (by decide +kernel) ?_
        refine lex.pure (v := .int .i64 v3_0) (pu_move e3) ?_
        obtain ⟨z42, h43, hb⟩ := bd hb
        refine lex.pure (v := .int .i64 z42) (pu_subc (a := v3_0) (b := 1) rfl rfl h43) ?_
        refine lex.pure (v := .int .i64 z42) (pu_assign rfl) ?_
        refine lex.nil ?_
        obtain rfl := Option.some.inj hb
        exact hK9 m10' _ _ (Nat.lt_succ_self _) ⟨z42, e0, e2, rfl, (chk_rng h43), hC.sel [0] (by decide), lN hl0⟩
    · replace hb := (cF hq16).symm.trans hb
      refine Wc.exit rfl ?_
      obtain rfl := Option.some.inj hb
      obtain rfl := (lX hl0).symm
      exact hK8 _ _ ⟨v3_0, e2, hrv3_0, hC.sel [] (by decide), hbK0⟩
  · clear hb hC hl0
    rintro E45 w44 ⟨v3_0, e2, hrv3_0, hC, hb⟩
    refine hK3 _ _ ?_
    refine Wc.seq fun K46 hK46 => ?_
    refine Wc.region (by decide +kernel) ?_
    refine lex.pure (v := .bool true) (pu_assign rfl) ?_
    refine lex.nil ?_
    refine hK46 _ _ ?_
    obtain rfl := Option.some.inj hb
    refine Wc.ret ?_
    refine hKR _ _ ?_
    refine ⟨_, res1 Try.results85 (show RV _ _ _ (.tmp _) (.bool true) from rfl), _, rfl, rfl, hC.sel [] (by decide)⟩

set_option maxRecDepth 100000 in
set_option maxHeartbeats 4000000 in
theorem garside_settle_ok (n : Nat) {w : World} {O0 : List Nat} (hO : ∀ k ∈ O0, k < w.heap.size) {Afactors_0 : Option Addr} {mfactors_0 cfactors_0 : Nat} {hsfactors_0 : List Value} {factors_0 : List (List Int)} (hNfactors_0 : hsfactors_0.length = factors_0.length) (hio : Tk O0 w ([.own 52 .raw (.slice Afactors_0 mfactors_0 cfactors_0) hsfactors_0] ++ rowsF 3 (.int .i64) hsfactors_0 factors_0)) {r : (List (List Int))} (hb : F.garside_settle n factors_0 = some r) :
    Calls Try.prog 65 #[.slice Afactors_0 mfactors_0 cfactors_0] w fun e w' => ∃ v, e = .returned v ∧ ∃ (A0 : Option Addr) (m0 c0 : Nat) (hs0 : List Value), v = .slice A0 m0 c0 ∧ hs0.length = r.length ∧ Cx (fun k => k ∈ blocks ([.own 52 .raw (.slice Afactors_0 mfactors_0 cfactors_0) hsfactors_0] ++ rowsF 3 (.int .i64) hsfactors_0 factors_0)) O0 w w' ([.own 52 .raw (.slice A0 m0 c0) hs0] ++ rowsF 3 (.int .i64) hs0 r) := by
  unfold F.garside_settle at hb
  have hC := Cx.startTk hO hio
  have hsub := hio.2.2
  clear hO
  obtain ⟨hm, hlfactors_0, hcfactors_0⟩ := (hC.ow (i := 0) rfl).sl_len
  rw [hNfactors_0] at hm hlfactors_0
  subst hm
  clear hio hsub
  obtain ⟨I, hI, hC⟩ : ∃ I : Nat → Prop, I = (fun k => k ∈ blocks ([.own 52 .raw (.slice Afactors_0 factors_0.length cfactors_0) hsfactors_0] ++ rowsF 3 (.int .i64) hsfactors_0 factors_0)) ∧ Cx I O0 w w ([.own 52 .raw (.slice Afactors_0 factors_0.length cfactors_0) hsfactors_0] ++ rowsF 3 (.int .i64) hsfactors_0 factors_0) := ⟨_, rfl, hC⟩
  refine calls_of_Wc Try.func65 rfl (by rw [Try.ntmps65]; exact Nat.le_of_ble_eq_true rfl) fun KR hKR => ?_
  refine Wc.seq fun K2 hK2 => ?_
  refine Wc.region (by decide +kernel) ?_
  replace hC : Cx I O0 w w ([.own 52 .raw (.slice Afactors_0 factors_0.length cfactors_0) hsfactors_0] ++ rowsF 3 (.int .i64) hsfactors_0 factors_0) := hC
  refine lex.pure (v := .slice none 0 0) (pu_assign rfl) ?_
  refine lex.nil ?_
  refine hK2 _ _ ?_
  refine Wc.scope ?_
  refine Wc.seq fun K3 hK3 => ?_
  refine Wc.label ?_
  refine hK3 _ _ ?_
  refine Wc.seq fun K4 hK4 => ?_
  obtain ⟨o5, hl0, hb⟩ := bd hb
  refine Wc.cut (fun E wv => ∃ (qf1_0 : List (List Int)), E 0 = .slice Afactors_0 factors_0.length cfactors_0 ∧ E 2 = .slice none 0 0 ∧ hsfactors_0.length = qf1_0.length ∧ Cx I O0 w wv ([.own 52 .raw (.slice Afactors_0 factors_0.length cfactors_0) hsfactors_0] ++ rowsF 3 (.int .i64) hsfactors_0 qf1_0) ∧ (((loopN n (F.garside_settle_b2 n) qf1_0).bind fun o81 => match o81 with     | l0_2 => some l0_2) : Option ((List (List Int)))) = some r) (fun K6 hK6 => ?_) ?_
  · refine Wc.block ?_
    refine Wc.loop (fun m E wv => ∃ (qf1_0 : List (List Int)), E 0 = .slice Afactors_0 factors_0.length cfactors_0 ∧ E 2 = .slice none 0 0 ∧ hsfactors_0.length = qf1_0.length ∧ Cx I O0 w wv ([.own 52 .raw (.slice Afactors_0 factors_0.length cfactors_0) hsfactors_0] ++ rowsF 3 (.int .i64) hsfactors_0 qf1_0) ∧ loopN m (F.garside_settle_b0 n factors_0) qf1_0 = some o5) n ⟨factors_0, rfl, rfl, hNfactors_0, hC.selT [0] (by decide), hl0⟩ ?_
    have hbK0 := hb
    clear hb hC hl0
    rintro m8 E10 w9 ⟨qf1_0, e0, e2, hNqf1_0, hC, hl0⟩ K7 hK7
    obtain ⟨m8', o11, rfl, hb, hl0⟩ := loopN_some hl0
    unfold F.garside_settle_b0 at hb
    refine Wc.block ?_
    refine Wc.seq fun K12 hK12 => ?_
    refine Wc.region (by decide +kernel) ?_
    replace hC : Cx I O0 w w9 ([.own 52 .raw (.slice Afactors_0 factors_0.length cfactors_0) hsfactors_0] ++ rowsF 3 (.int .i64) hsfactors_0 qf1_0) := hC
    refine lex.pure (v := .bool false) (pu_assign rfl) ?_
    refine lex.nil ?_
    refine hK12 _ _ ?_
    refine Wc.seq fun K13 hK13 => ?_
    refine Wc.seq fun K14 hK14 => ?_
    refine Wc.region (by decide +kernel) ?_
    refine lex.pure (v := .slice Afactors_0 factors_0.length cfactors_0) (pu_move e0) ?_
    refine lex.pure (v := .int .i64 (factors_0.length : Int)) (pu_len (A := Afactors_0) (n := factors_0.length) (m := cfactors_0) Try.underlying77 rfl) ?_
    obtain ⟨z15, h16, hb⟩ := bd hb
    have ez15 := (chk_some h16).1
    refine lex.pure (v := .int .i64 z15) (pu_subc (a := (factors_0.length : Int)) (b := 1) rfl rfl h16) ?_
    refine lex.pure (v := .int .i64 z15) (pu_assign rfl) ?_
    refine lex.nil ?_
    refine hK14 _ _ ?_
    obtain ⟨o17, hl1, hb⟩ := bd hb
    refine Wc.cut (fun E wv => ∃ (v3_1 : Bool) (v4_1 : Int) (qf1_1 : List (List Int)), E 0 = .slice Afactors_0 factors_0.length cfactors_0 ∧ E 2 = .slice none 0 0 ∧ E 3 = .bool v3_1 ∧ E 4 = .int .i64 v4_1 ∧ I64 v4_1 ∧ hsfactors_0.length = qf1_1.length ∧ Cx I O0 w wv ([.own 52 .raw (.slice Afactors_0 factors_0.length cfactors_0) hsfactors_0] ++ rowsF 3 (.int .i64) hsfactors_0 qf1_1) ∧ (cond v3_1 (some (.inl qf1_1)) (some (.inr qf1_1)) : Option (((List (List Int))) ⊕ (((List (List Int)))))) = some o11) (fun K18 hK18 => ?_) ?_
    · refine Wc.block ?_
      refine Wc.loop (fun m E wv => ∃ (v3_1 : Bool) (v4_1 : Int) (qf1_1 : List (List Int)), E 0 = .slice Afactors_0 factors_0.length cfactors_0 ∧ E 2 = .slice none 0 0 ∧ E 3 = .bool v3_1 ∧ E 4 = .int .i64 v4_1 ∧ I64 v4_1 ∧ hsfactors_0.length = qf1_1.length ∧ Cx I O0 w wv ([.own 52 .raw (.slice Afactors_0 factors_0.length cfactors_0) hsfactors_0] ++ rowsF 3 (.int .i64) hsfactors_0 qf1_1) ∧ loopN m (F.garside_settle_b1 n) (v3_1, v4_1, qf1_1) = some o17) n ⟨false, z15, qf1_0, e0, e2, rfl, rfl, (chk_rng h16), hNqf1_0, hC.selT [0] (by decide), hl1⟩ ?_
      have hbK1 := hb
      clear hb hC hl1
      rintro m20 E22 w21 ⟨v3_1, v4_1, qf1_1, e0, e2, e3, e4, hrv4_1, hNqf1_1, hC, hl1⟩ K19 hK19
      obtain ⟨m20', o23, rfl, hb, hl1⟩ := loopN_some hl1
      unfold F.garside_settle_b1 at hb
      refine Wc.seq fun K24 hK24 => ?_
      refine Wc.seq fun K25 hK25 => ?_
      refine Wc.region (by decide +kernel) ?_
      replace hC : Cx I O0 w w21 ([.own 52 .raw (.slice Afactors_0 factors_0.length cfactors_0) hsfactors_0] ++ rowsF 3 (.int .i64) hsfactors_0 qf1_1) := hC
      refine lex.pure (v := .int .i64 v4_1) (pu_move e4) ?_
      refine lex.pure (v := .bool (decide (0 < v4_1))) (pu_gtr (k := .i64) (a := v4_1) (b := 0) rfl rfl) ?_
      refine lex.nil ?_
      refine hK25 _ _ ?_
      refine Wc.cond (t := (decide (0 < v4_1))) (rfl) (fun hq26 => ?_) (fun hq26 => ?_)
      · replace hb := (cT hq26).symm.trans hb
        refine Wc.skip ?_
        refine hK24 _ _ ?_
        refine Wc.seq fun K27 hK27 => ?_
        refine Wc.block ?_
        refine Wc.seq fun K28 hK28 => ?_
        refine Wc.regionMix [] (frm [] (rowsF 3 (.int .i64) hsfactors_0 qf1_1) ([] : List Fact)) (fun _ => rfl) mixed (by decide +kernel) (by decide +kernel) fun w30 hw29 => ?_
        replace hC := hC.step (Fr.of_drew hw29)
        have hM := Fr.refl (fun k => k ∈ blocks (rowsF 3 (.int .i64) hsfactors_0 qf1_1)) w30
        clear hw29
        have hS := hC
        replace hC : Cx I O0 w w30 ([.own 52 .raw (.slice Afactors_0 factors_0.length cfactors_0) hsfactors_0] ++ rowsF 3 (.int .i64) hsfactors_0 qf1_1) := hC
        refine mixE.pure (v := .slice Afactors_0 factors_0.length cfactors_0) (pu_move e0) ?_
        refine mixE.pure (v := .int .i64 v4_1) (pu_move e4) ?_
        obtain ⟨z31, h32, hb⟩ := bd hb
        have ez31 := (chk_some h32).1
        refine mixE.pure (v := .int .i64 z31) (pu_subc (a := v4_1) (b := 1) rfl rfl h32) ?_
        obtain ⟨x33, h34, hb⟩ := bd hb
        obtain ⟨v39, hv40, -⟩ := rowsF_get (e := 3) (s := (.int .i64)) hNqf1_1 (get_some h34).2
        obtain ⟨ad35, cs36, hA, ho41, hc37, hr38⟩ := hS.eloT (i := 0) rfl hv40
        subst hA
        refine mixE.pure (v := .pointer (some (ad35.add (z31.toNat * 1)))) (pu_index (a := z31) Try.underlying77 Try.sizeOf52 rfl rfl (by rw [(hC.ow (i := 0) rfl).sl_len.1, hNqf1_1]; exact (get_some h34).1)) ?_
        replace hC : Cx I O0 w w30 ([.own 52 .raw (.slice (some ad35) factors_0.length cfactors_0) hsfactors_0] ++ rowsF 3 (.int .i64) hsfactors_0 qf1_1) := hC
        obtain ⟨A42, c43, hvf46, hl44, hc45⟩ := (hC.rowOw hv40 (get_some h34).2).form
        subst hvf46
        obtain ⟨rfl, -⟩ := hr38
        refine mixE.load hM (v := .slice A42 x33.length c43) (fun _ hF => ld_one Try.isAgg52 rfl (hF.cell (hc37 0 _ rfl) (off1 ho41))) ?_
        refine mixE.pure (v := .slice (some ad35) factors_0.length cfactors_0) (pu_move e0) ?_
        refine mixE.pure (v := .int .i64 v4_1) (pu_move e4) ?_
        obtain ⟨x48, h49, hb⟩ := bd hb
        obtain ⟨v54, hv55, -⟩ := rowsF_get (e := 3) (s := (.int .i64)) hNqf1_1 (get_some h49).2
        obtain ⟨ad50, cs51, hA, ho56, hc52, hr53⟩ := hS.eloT (i := 0) rfl hv55
        obtain rfl := Option.some.inj hA
        refine mixE.pure (v := .pointer (some (ad35.add (v4_1.toNat * 1)))) (pu_index (a := v4_1) Try.underlying77 Try.sizeOf52 rfl rfl (by rw [(hC.ow (i := 0) rfl).sl_len.1, hNqf1_1]; exact (get_some h49).1)) ?_
        obtain ⟨A57, c58, hvf61, hl59, hc60⟩ := (hC.rowOw hv55 (get_some h49).2).form
        subst hvf61
        obtain ⟨rfl, -⟩ := hr53
        refine mixE.load hM (v := .slice A57 x48.length c58) (fun _ hF => ld_one Try.isAgg52 rfl (hF.cell (hc52 0 _ rfl) (off1 ho56))) ?_
        have hne63 : z31.toNat ≠ v4_1.toNat := by have h1 := (get_some h34).1; have h2 := (get_some h49).1; omega
        obtain ⟨y64, h65, hb⟩ := bd hb
        refine mixE.cl hM (⟨_, _, op_call (vs := [.slice A42 x33.length c43, .slice A57 x48.length c58]) Try.call84 rfl rfl rfl, garside_moveLetters_ok n hC.lt (hC.rowIO2 hne63 hv40 (get_some h34).2 hv55 (get_some h49).2) h65⟩) ?_
        rintro _ w66 ⟨rfl, hK⟩
        replace hM := hM.row2 hv40 (get_some h34).2 hv55 (get_some h49).2 hK.fr
        refine ⟨hM, ?_⟩
        replace hC := hC.row2 hne63 hv40 (get_some h34).2 hv55 (get_some h49).2 hK rfl
        clear hK
        have hN67 : hsfactors_0.length = ((qf1_1.set z31.toNat y64.2.1).set v4_1.toNat y64.2.2).length := by simp only [List.length_set]; exact hNqf1_1
        replace hC : Cx I O0 w w66 ([.own 52 .raw (.slice (some ad35) factors_0.length cfactors_0) hsfactors_0] ++ rowsF 3 (.int .i64) hsfactors_0 ((qf1_1.set z31.toNat y64.2.1).set v4_1.toNat y64.2.2)) := hC
        refine mixE.nil ?_
        clear hS hM
        refine hK28 _ _ ?_
        refine Wc.cond (t := y64.1) (rfl) (fun hq68 => ?_) (fun hq68 => ?_)
        · replace hb := (cT hq68).symm.trans hb
          refine Wc.region (by decide +kernel) ?_
          refine lex.pure (v := .bool true) (pu_assign rfl) ?_
          refine lex.nil ?_
          refine hK27 _ _ ?_
          refine Wc.region (by decide +kernel) ?_
          refine lex.pure (v := .int .i64 v4_1) (pu_move e4) ?_
          obtain ⟨z69, h70, hb⟩ := bd hb
          have ez69 := (chk_some h70).1
          refine lex.pure (v := .int .i64 z69) (pu_subc (a := v4_1) (b := 1) rfl rfl h70) ?_
          refine lex.pure (v := .int .i64 z69) (pu_assign rfl) ?_
          refine lex.nil ?_
          obtain rfl := Option.some.inj hb
          exact hK19 m20' _ _ (Nat.lt_succ_self _) ⟨true, z69, ((qf1_1.set z31.toNat y64.2.1).set v4_1.toNat y64.2.2), e0, e2, rfl, rfl, (chk_rng h70), hN67, hC.selT [0] (by decide), lN hl1⟩
        · replace hb := (cF hq68).symm.trans hb
          refine Wc.skip ?_
          refine hK27 _ _ ?_
          refine Wc.region (by decide +kernel) ?_
          refine lex.pure (v := .int .i64 v4_1) (pu_move e4) ?_
          obtain ⟨z71, h72, hb⟩ := bd hb
          have ez71 := (chk_some h72).1
          refine lex.pure (v := .int .i64 z71) (pu_subc (a := v4_1) (b := 1) rfl rfl h72) ?_
          refine lex.pure (v := .int .i64 z71) (pu_assign rfl) ?_
          refine lex.nil ?_
          obtain rfl := Option.some.inj hb
          exact hK19 m20' _ _ (Nat.lt_succ_self _) ⟨v3_1, z71, ((qf1_1.set z31.toNat y64.2.1).set v4_1.toNat y64.2.2), e0, e2, e3, rfl, (chk_rng h72), hN67, hC.selT [0] (by decide), lN hl1⟩
      · replace hb := (cF hq26).symm.trans hb
        refine Wc.exit rfl ?_
        obtain rfl := Option.some.inj hb
        obtain rfl := (lX hl1).symm
        exact hK18 _ _ ⟨v3_1, v4_1, qf1_1, e0, e2, e3, e4, hrv4_1, hNqf1_1, hC.selT [0] (by decide), hbK1⟩
    · clear hb hC hl1
      rintro E74 w73 ⟨v3_1, v4_1, qf1_1, e0, e2, e3, e4, hrv4_1, hNqf1_1, hC, hb⟩
      refine hK13 _ _ ?_
      refine Wc.seq fun K75 hK75 => ?_
      refine Wc.seq fun K76 hK76 => ?_
      refine Wc.region (by decide +kernel) ?_
      replace hC : Cx I O0 w w73 ([.own 52 .raw (.slice Afactors_0 factors_0.length cfactors_0) hsfactors_0] ++ rowsF 3 (.int .i64) hsfactors_0 qf1_1) := hC
      refine lex.pure (v := .bool v3_1) (pu_move e3) ?_
      refine lex.nil ?_
      refine hK76 _ _ ?_
      refine Wc.cond (t := v3_1) (rfl) (fun hq77 => ?_) (fun hq77 => ?_)
      · replace hb := (cT hq77).symm.trans hb
        refine Wc.exit rfl ?_
        obtain rfl := Option.some.inj hb
        exact hK7 m8' _ _ (Nat.lt_succ_self _) ⟨qf1_1, e0, e2, hNqf1_1, hC.selT [0] (by decide), lN hl0⟩
      · replace hb := (cF hq77).symm.trans hb
        refine Wc.skip ?_
        refine hK75 _ _ ?_
        refine Wc.exit rfl ?_
        obtain rfl := Option.some.inj hb
        obtain rfl := (lX hl0).symm
        exact hK6 _ _ ⟨qf1_1, e0, e2, hNqf1_1, hC.selT [0] (by decide), hbK0⟩
  · clear hb hC hl0
    rintro E79 w78 ⟨qf1_0, e0, e2, hNqf1_0, hC, hb⟩
    refine hK4 _ _ ?_
    refine Wc.seq fun K80 hK80 => ?_
    obtain ⟨o81, hl2, hb⟩ := bd hb
    refine Wc.cut (fun E wv => ∃ (l0_2 : List (List Int)) (Al0_2 : Option Addr) (ml0_2 cl0_2 : Nat) (hsl0_2 : List Value), E 0 = .slice Al0_2 ml0_2 cl0_2 ∧ E 2 = .slice none 0 0 ∧ hsl0_2.length = l0_2.length ∧ Cx I O0 w wv ([.own 52 .raw (.slice Al0_2 ml0_2 cl0_2) hsl0_2] ++ rowsF 3 (.int .i64) hsl0_2 l0_2) ∧ (some l0_2 : Option ((List (List Int)))) = some r) (fun K82 hK82 => ?_) ?_
    · refine Wc.block ?_
      replace hC : Cx I O0 w w78 ([.own 52 .raw (.slice Afactors_0 factors_0.length cfactors_0) hsfactors_0] ++ rowsF 3 (.int .i64) hsfactors_0 qf1_0) := hC
      refine Wc.loop (fun m E wv => ∃ (l0_2 : List (List Int)) (Al0_2 : Option Addr) (ml0_2 cl0_2 : Nat) (hsl0_2 : List Value), E 0 = .slice Al0_2 ml0_2 cl0_2 ∧ E 2 = .slice none 0 0 ∧ hsl0_2.length = l0_2.length ∧ Cx I O0 w wv ([.own 52 .raw (.slice Al0_2 ml0_2 cl0_2) hsl0_2] ++ rowsF 3 (.int .i64) hsl0_2 l0_2) ∧ loopN m (F.garside_settle_b2 n) l0_2 = some o81) n ⟨qf1_0, Afactors_0, factors_0.length, cfactors_0, hsfactors_0, e0, e2, hNqf1_0, hC.selT [0] (by decide), hl2⟩ ?_
      have hbK2 := hb
      clear hb hC hl2
      rintro m84 E86 w85 ⟨l0_2, Al0_2, ml0_2, cl0_2, hsl0_2, e0, e2, hNl0_2, hC, hl2⟩ K83 hK83
      obtain ⟨m84', o87, rfl, hb, hl2⟩ := loopN_some hl2
      unfold F.garside_settle_b2 at hb
      obtain ⟨hm, hll0_2, hcl0_2⟩ := (hC.ow (i := 0) rfl).sl_len
      rw [hNl0_2] at hm hll0_2
      subst hm
      refine Wc.seq fun K88 hK88 => ?_
      refine Wc.seq fun K89 hK89 => ?_
      refine Wc.region (by decide +kernel) ?_
      replace hC : Cx I O0 w w85 ([.own 52 .raw (.slice Al0_2 l0_2.length cl0_2) hsl0_2] ++ rowsF 3 (.int .i64) hsl0_2 l0_2) := hC
      refine lex.pure (v := .slice Al0_2 l0_2.length cl0_2) (pu_move e0) ?_
      refine lex.pure (v := .int .i64 (l0_2.length : Int)) (pu_len (A := Al0_2) (n := l0_2.length) (m := cl0_2) Try.underlying77 rfl) ?_
      refine lex.pure (v := .bool (decide (0 < (l0_2.length : Int)))) (pu_gtr (k := .i64) (a := (l0_2.length : Int)) (b := 0) rfl rfl) ?_
      refine lex.pure (v := .bool (decide (0 < (l0_2.length : Int)))) (pu_move rfl) ?_
      rcases bS (decide (0 < (l0_2.length : Int))) with hq90 | hq90
      · replace hb := (cT hq90).symm.trans hb
        refine lex.gpure (want_t rfl rfl (show _ = Value.bool (decide (0 < (l0_2.length : Int))) from rfl) hq90) (v := .slice Al0_2 l0_2.length cl0_2) (pu_move e0) ?_
        refine lex.gpure (want_t rfl rfl (show _ = Value.bool (decide (0 < (l0_2.length : Int))) from rfl) hq90) (v := .slice Al0_2 l0_2.length cl0_2) (pu_move e0) ?_
        refine lex.gpure (want_t rfl rfl (show _ = Value.bool (decide (0 < (l0_2.length : Int))) from rfl) hq90) (v := .int .i64 (l0_2.length : Int)) (pu_len (A := Al0_2) (n := l0_2.length) (m := cl0_2) Try.underlying77 rfl) ?_
        obtain ⟨z91, h92, hb⟩ := bd hb
        have ez91 := (chk_some h92).1
        refine lex.gpure (want_t rfl rfl (show _ = Value.bool (decide (0 < (l0_2.length : Int))) from rfl) hq90) (v := .int .i64 z91) (pu_subc (a := (l0_2.length : Int)) (b := 1) rfl rfl h92) ?_
        obtain ⟨x93, h94, hb⟩ := bd hb
        obtain ⟨v99, hv100, -⟩ := rowsF_get (e := 3) (s := (.int .i64)) hNl0_2 (get_some h94).2
        obtain ⟨ad95, cs96, hA, hc97, hr98⟩ := hC.elo (i := 0) rfl hv100
        subst hA
        refine lex.gpure (want_t rfl rfl (show _ = Value.bool (decide (0 < (l0_2.length : Int))) from rfl) hq90) (v := .pointer (some (ad95.add (z91.toNat * 1)))) (pu_index (a := z91) Try.underlying77 Try.sizeOf52 rfl rfl (get_some h94).1) ?_
        replace hC : Cx I O0 w w85 ([.own 52 .raw (.slice (some ad95) l0_2.length cl0_2) hsl0_2] ++ rowsF 3 (.int .i64) hsl0_2 l0_2) := hC
        obtain ⟨A101, c102, hvf105, hl103, hc104⟩ := (hC.rowOw hv100 (get_some h94).2).form
        subst hvf105
        obtain ⟨rfl, -⟩ := hr98
        refine lex.gval (want_t rfl rfl (show _ = Value.bool (decide (0 < (l0_2.length : Int))) from rfl) hq90) (v := .slice A101 x93.length c102) (ld_one Try.isAgg52 rfl (hc97 0 _ rfl)) ?_
        obtain ⟨y107, h108, hb⟩ := bd hb
        refine lex.gcl (want_t rfl rfl (show _ = Value.bool (decide (0 < (l0_2.length : Int))) from rfl) hq90) (⟨_, _, op_call (vs := [.slice A101 x93.length c102]) Try.call85 rfl rfl rfl, slices_IsSorted_Perm_int_ok n (hC.lentLt [.slice A101 x93.length c102]) ((hC.rowOw hv100 (get_some h94).2).lend (vs := [.slice A101 x93.length c102]) (by simp)) h108⟩) ?_
        rintro _ w109 ⟨rfl, hK⟩
        replace hC := hC.mergeF hK rfl
        clear hK
        replace hC : Cx I O0 w w109 ([.own 52 .raw (.slice (some ad95) l0_2.length cl0_2) hsl0_2] ++ rowsF 3 (.int .i64) hsl0_2 l0_2) := hC
        refine lex.pure (v := .bool y107) (pu_pickT (q := (decide (0 < (l0_2.length : Int)))) rfl hq90 rfl) ?_
        refine lex.nil ?_
        refine hK89 _ _ ?_
        refine Wc.cond (t := y107) (rfl) (fun hq110 => ?_) (fun hq110 => ?_)
        · replace hb := (cT hq110).symm.trans hb
          refine Wc.skip ?_
          refine hK88 _ _ ?_
          refine Wc.fresh fun E111 hE => ?_
          have e0 : E111 0 = .slice (some ad95) l0_2.length cl0_2 := (congrFun hE 0).trans e0
          have e2 : E111 2 = .slice none 0 0 := (congrFun hE 2).trans e2
          have e34 : E111 34 = .bool y107 := (congrFun hE 34).trans rfl
          clear hE
          refine Wc.block ?_
          refine Wc.region (by decide +kernel) ?_
          refine lex.pure (v := .slice (some ad95) l0_2.length cl0_2) (pu_move e0) ?_
          refine lex.pure (v := .slice (some ad95) l0_2.length cl0_2) (pu_move e0) ?_
          refine lex.pure (v := .int .i64 (l0_2.length : Int)) (pu_len (A := (some ad95)) (n := l0_2.length) (m := cl0_2) Try.underlying77 rfl) ?_
          obtain ⟨z112, h113, hb⟩ := bd hb
          have ez112 := (chk_some h113).1
          refine lex.pure (v := .int .i64 z112) (pu_subc (a := (l0_2.length : Int)) (b := 1) rfl rfl h113) ?_
          obtain ⟨u114, h115, hb⟩ := bd hb
          have hnl : l0_2.length = l0_2.length ∧ l0_2.length ≤ cl0_2 ∧ cl0_2 ≤ 9223372036854775807 := by have hnl := (hC.ow (i := 0) rfl).sl_len; rwa [hNl0_2] at hnl
          refine lex.pure (v := .slice (some ad95) ((l0_2.take z112.toNat).length) cl0_2) (pu_cuth (b := z112) (xs := l0_2) Try.underlying77 Try.sizeOf52 rfl rfl hnl (cut_some h115)) ?_
          replace hC := hC.nestTake (i := 0) rfl hNl0_2 (k := z112.toNat) (by have := cut_some h115; omega)
          have hN118 : (hsl0_2.take z112.toNat).length = (l0_2.take z112.toNat).length := by rw [List.length_take, List.length_take, hNl0_2]
          replace hC : Cx I O0 w w109 ([.own 52 .raw (.slice (some ad95) ((l0_2.take z112.toNat).length) cl0_2) (hsl0_2.take z112.toNat)] ++ rowsF 3 (.int .i64) (hsl0_2.take z112.toNat) (l0_2.take z112.toNat)) := hC
          have hl116 := (hC.ow (i := 0) rfl).sl_len.2.1
          rw [hN118] at hl116
          have hc117 := (hC.ow (i := 0) rfl).sl_len.2.2
          refine lex.pure (v := .slice (some ad95) ((l0_2.take z112.toNat).length) cl0_2) (pu_assign rfl) ?_
          refine lex.nil ?_
          obtain rfl := Option.some.inj hb
          exact hK83 m84' _ _ (Nat.lt_succ_self _) ⟨(l0_2.take z112.toNat), (some ad95), (l0_2.take z112.toNat).length, cl0_2, (hsl0_2.take z112.toNat), rfl, e2, hN118, hC.selT [0] (by decide), lN hl2⟩
        · replace hb := (cF hq110).symm.trans hb
          refine Wc.exit rfl ?_
          obtain rfl := Option.some.inj hb
          obtain rfl := (lX hl2).symm
          exact hK82 _ _ ⟨l0_2, (some ad95), l0_2.length, cl0_2, hsl0_2, e0, e2, hNl0_2, hC.selT [0] (by decide), hbK2⟩
      · replace hb := (cF hq90).symm.trans hb
        refine lex.gskip (want_f rfl rfl (show _ = Value.bool (decide (0 < (l0_2.length : Int))) from rfl) hq90) ?_
        refine lex.gskip (want_f rfl rfl (show _ = Value.bool (decide (0 < (l0_2.length : Int))) from rfl) hq90) ?_
        refine lex.gskip (want_f rfl rfl (show _ = Value.bool (decide (0 < (l0_2.length : Int))) from rfl) hq90) ?_
        refine lex.gskip (want_f rfl rfl (show _ = Value.bool (decide (0 < (l0_2.length : Int))) from rfl) hq90) ?_
        refine lex.gskip (want_f rfl rfl (show _ = Value.bool (decide (0 < (l0_2.length : Int))) from rfl) hq90) ?_
        refine lex.gskip (want_f rfl rfl (show _ = Value.bool (decide (0 < (l0_2.length : Int))) from rfl) hq90) ?_
        refine lex.gskip (want_f rfl rfl (show _ = Value.bool (decide (0 < (l0_2.length : Int))) from rfl) hq90) ?_
        refine lex.pure (v := .bool false) (pu_pickF (q := (decide (0 < (l0_2.length : Int)))) rfl hq90 rfl) ?_
        refine lex.nil ?_
        refine hK89 _ _ ?_
        refine Wc.cond_false (rfl) ?_
        refine Wc.exit rfl ?_
        obtain rfl := Option.some.inj hb
        obtain rfl := (lX hl2).symm
        exact hK82 _ _ ⟨l0_2, Al0_2, l0_2.length, cl0_2, hsl0_2, e0, e2, hNl0_2, hC.selT [0] (by decide), hbK2⟩
    · clear hb hC hl2
      rintro E120 w119 ⟨l0_2, Al0_2, ml0_2, cl0_2, hsl0_2, e0, e2, hNl0_2, hC, hb⟩
      obtain ⟨hm, hll0_2, hcl0_2⟩ := (hC.ow (i := 0) rfl).sl_len
      rw [hNl0_2] at hm hll0_2
      subst hm
      refine hK80 _ _ ?_
      refine Wc.seq fun K121 hK121 => ?_
      refine Wc.region (by decide +kernel) ?_
      replace hC : Cx I O0 w w119 ([.own 52 .raw (.slice Al0_2 l0_2.length cl0_2) hsl0_2] ++ rowsF 3 (.int .i64) hsl0_2 l0_2) := hC
      refine lex.pure (v := .slice Al0_2 l0_2.length cl0_2) (pu_move e0) ?_
      refine lex.pure (v := .slice Al0_2 l0_2.length cl0_2) (pu_assign rfl) ?_
      refine lex.nil ?_
      refine hK121 _ _ ?_
      obtain rfl := Option.some.inj hb
      subst hI
      refine Wc.ret ?_
      refine hKR _ _ ?_
      refine ⟨_, res1 Try.results65 (show RV _ _ _ (.tmp _) (.slice Al0_2 l0_2.length cl0_2) from rfl), _, rfl, Al0_2, l0_2.length, cl0_2, hsl0_2, rfl, hNl0_2, hC.selT [0] (by decide)⟩

set_option maxRecDepth 100000 in
set_option maxHeartbeats 4000000 in
theorem slices_Equal_Perm_int_ok (n : Nat) {w : World} {O0 : List Nat} (hO : ∀ k ∈ O0, k < w.heap.size) {As1_0 : Option Addr} {ms1_0 cs1_0 : Nat} {s1_0 : List Int} (hs1_0 : Rep O0 w (.sl (.int .i64)) [.slice As1_0 ms1_0 cs1_0] s1_0) {As2_1 : Option Addr} {ms2_1 cs2_1 : Nat} {s2_1 : List Int} (hs2_1 : Rep O0 w (.sl (.int .i64)) [.slice As2_1 ms2_1 cs2_1] s2_1) {r : Bool} (hb : F.slices_Equal_Perm_int n s1_0 s2_1 = some r) :
    Calls Try.prog 46 #[.slice As1_0 ms1_0 cs1_0, .slice As2_1 ms2_1 cs2_1] w fun e w' => ∃ v, e = .returned v ∧ v = .bool r ∧ Cx (fun _ => False) O0 w w' [] := by
  unfold F.slices_Equal_Perm_int at hb
  have hC := Cx.start hO
  replace hC := hC.arg rfl hs1_0
  replace hC := hC.arg rfl hs2_1
  clear hO
  obtain ⟨rfl, hls1_0, hcs1_0⟩ := hs1_0.sl_len
  obtain ⟨rfl, hls2_1, hcs2_1⟩ := hs2_1.sl_len
  refine calls_of_Wc Try.func46 rfl (by rw [Try.ntmps46]; exact Nat.le_of_ble_eq_true rfl) fun KR hKR => ?_
  refine Wc.seq fun K3 hK3 => ?_
  refine Wc.region (by decide +kernel) ?_
  refine lex.pure (v := .bool false) (pu_assign rfl) ?_
  refine lex.nil ?_
  refine hK3 _ _ ?_
  refine Wc.seq fun K4 hK4 => ?_
  refine Wc.seq fun K5 hK5 => ?_
  refine Wc.region (by decide +kernel) ?_
  refine lex.pure (v := .slice As1_0 s1_0.length cs1_0) (pu_move rfl) ?_
  refine lex.pure (v := .int .i64 (s1_0.length : Int)) (pu_len (A := As1_0) (n := s1_0.length) (m := cs1_0) Try.underlying52 rfl) ?_
  refine lex.pure (v := .slice As2_1 s2_1.length cs2_1) (pu_move rfl) ?_
  refine lex.pure (v := .int .i64 (s2_1.length : Int)) (pu_len (A := As2_1) (n := s2_1.length) (m := cs2_1) Try.underlying52 rfl) ?_
  refine lex.pure (v := .bool (!(decide ((s1_0.length : Int) = (s2_1.length : Int))))) (pu_neq (k := .i64) (a := (s1_0.length : Int)) (b := (s2_1.length : Int)) rfl rfl) ?_
  refine lex.nil ?_
  refine hK5 _ _ ?_
  refine Wc.cond (t := (!(decide ((s1_0.length : Int) = (s2_1.length : Int))))) (rfl) (fun hq6 => ?_) (fun hq6 => ?_)
  · replace hb := (cT hq6).symm.trans hb
    refine Wc.seq fun K7 hK7 => ?_
    refine Wc.region (by decide +kernel) ?_
    refine lex.pure (v := .bool false) (pu_assign rfl) ?_
    refine lex.nil ?_
    refine hK7 _ _ ?_
    obtain rfl := Option.some.inj hb
    refine Wc.ret ?_
    refine hKR _ _ ?_
    refine ⟨_, res1 Try.results46 (show RV _ _ _ (.tmp _) (.bool false) from rfl), _, rfl, rfl, hC.sel [] (by decide)⟩
  · replace hb := (cF hq6).symm.trans hb
    refine Wc.skip ?_
    refine hK4 _ _ ?_
    refine Wc.seq fun K8 hK8 => ?_
    refine Wc.seq fun K9 hK9 => ?_
    refine Wc.region (by decide +kernel) ?_
    refine lex.pure (v := .slice As1_0 s1_0.length cs1_0) (pu_move rfl) ?_
    refine lex.pure (v := .int .i64 (s1_0.length : Int)) (pu_len (A := As1_0) (n := s1_0.length) (m := cs1_0) Try.underlying52 rfl) ?_
    refine lex.pure (v := .int .i64 0) (pu_move rfl) ?_
    refine lex.nil ?_
    refine hK9 _ _ ?_
    obtain ⟨o10, hl0, hb⟩ := bd hb
    refine Wc.cut (fun E wv => ∃ (v13_0 : Int), E 4 = .bool false ∧ I64 v13_0 ∧ Cx (fun _ => False) O0 w wv [] ∧ (some true : Option (Bool)) = some r) (fun K11 hK11 => ?_) ?_
    · refine Wc.block ?_
      refine Wc.loop (fun m E wv => ∃ (v13_0 : Int), E 0 = .slice As1_0 s1_0.length cs1_0 ∧ E 1 = .slice As2_1 s2_1.length cs2_1 ∧ E 4 = .bool false ∧ E 12 = .int .i64 (s1_0.length : Int) ∧ E 13 = .int .i64 v13_0 ∧ I64 v13_0 ∧ Cx (fun _ => False) O0 w wv [.ro (.sl (.int .i64)) [.slice As1_0 s1_0.length cs1_0] s1_0, .ro (.sl (.int .i64)) [.slice As2_1 s2_1.length cs2_1] s2_1] ∧ loopN m (F.slices_Equal_Perm_int_b0 n s1_0 s2_1) v13_0 = some o10) n ⟨0, rfl, rfl, rfl, rfl, rfl, (show I64 0 from by unfold I64; omega), hC.sel [1, 0] (by decide), hl0⟩ ?_
      have hbK0 := hb
      clear hb hC hl0
      rintro m13 E15 w14 ⟨v13_0, e0, e1, e4, e12, e13, hrv13_0, hC, hl0⟩ K12 hK12
      obtain ⟨m13', o16, rfl, hb, hl0⟩ := loopN_some hl0
      unfold F.slices_Equal_Perm_int_b0 at hb
      refine Wc.seq fun K17 hK17 => ?_
      refine Wc.region (by decide +kernel) ?_
      refine lex.pure (v := .bool (decide (v13_0 < (s1_0.length : Int)))) (pu_lss (k := .i64) (a := v13_0) (b := (s1_0.length : Int)) e13 e12) ?_
      refine lex.nil ?_
      refine hK17 _ _ ?_
      refine Wc.seq fun K18 hK18 => ?_
      refine Wc.cond (t := (decide (v13_0 < (s1_0.length : Int)))) (rfl) (fun hq19 => ?_) (fun hq19 => ?_)
      · replace hb := (cT hq19).symm.trans hb
        refine Wc.skip ?_
        refine hK18 _ _ ?_
        refine Wc.seq fun K20 hK20 => ?_
        refine Wc.block ?_
        refine Wc.seq fun K21 hK21 => ?_
        refine Wc.region (by decide +kernel) ?_
        refine lex.pure (v := .int .i64 v13_0) (pu_move e13) ?_
        refine lex.pure (v := .int .i64 v13_0) (pu_assign rfl) ?_
        refine lex.nil ?_
        refine hK21 _ _ ?_
        refine Wc.seq fun K22 hK22 => ?_
        refine Wc.regionMix [] (frm [] ([] : List Fact) ([] : List Fact)) (fun _ => rfl) mixed (by decide +kernel) (by decide +kernel) fun w24 hw23 => ?_
        replace hC := hC.step (Fr.of_drew hw23)
        have hM := Fr.refl (fun k => k ∈ blocks ([] : List Fact)) w24
        clear hw23
        have hS := hC
        refine mixE.pure (v := .slice As1_0 s1_0.length cs1_0) (pu_move e0) ?_
        refine mixE.pure (v := .int .i64 v13_0) (pu_move rfl) ?_
        obtain ⟨x25, h26, hb⟩ := bd hb
        obtain ⟨ad27, cs28, hA, ho31, hc29, hr30⟩ := hS.elr2 (i := 0) rfl (get_some h26).2 []
        subst hA
        refine mixE.pure (v := .pointer (some (ad27.add (v13_0.toNat * 1)))) (pu_index (a := v13_0) Try.underlying52 Try.sizeOf3 rfl rfl (get_some h26).1) ?_
        obtain ⟨rfl, hr30'⟩ := hr30
        refine mixE.load hM (v := .int .i64 x25) (fun _ hF => ld_one Try.isAgg3 rfl (hF.cell (hc29 0 _ rfl) (off1 ho31))) ?_
        refine mixE.pure (v := .slice As2_1 s2_1.length cs2_1) (pu_move e1) ?_
        refine mixE.pure (v := .int .i64 v13_0) (pu_move rfl) ?_
        obtain ⟨x32, h33, hb⟩ := bd hb
        obtain ⟨ad34, cs35, hA, ho38, hc36, hr37⟩ := hS.elr2 (i := 1) rfl (get_some h33).2 []
        subst hA
        refine mixE.pure (v := .pointer (some (ad34.add (v13_0.toNat * 1)))) (pu_index (a := v13_0) Try.underlying52 Try.sizeOf3 rfl rfl (get_some h33).1) ?_
        obtain ⟨rfl, hr37'⟩ := hr37
        refine mixE.load hM (v := .int .i64 x32) (fun _ hF => ld_one Try.isAgg3 rfl (hF.cell (hc36 0 _ rfl) (off1 ho38))) ?_
        refine mixE.pure (v := .bool (!(decide (x25 = x32)))) (pu_neq (k := .i64) (a := x25) (b := x32) rfl rfl) ?_
        refine mixE.nil ?_
        clear hS hM
        refine hK22 _ _ ?_
        refine Wc.cond (t := (!(decide (x25 = x32)))) (rfl) (fun hq39 => ?_) (fun hq39 => ?_)
        · replace hb := (cT hq39).symm.trans hb
          refine Wc.seq fun K40 hK40 => ?_
          refine Wc.region (by decide +kernel) ?_
          refine lex.pure (v := .bool false) (pu_assign rfl) ?_
          refine lex.nil ?_
          refine hK40 _ _ ?_
          obtain rfl := Option.some.inj hb
          obtain rfl := (lX hl0).symm
          replace hb := hbK0
          obtain rfl := Option.some.inj hb
          refine Wc.ret ?_
          refine hKR _ _ ?_
          refine ⟨_, res1 Try.results46 (show RV _ _ _ (.tmp _) (.bool false) from rfl), _, rfl, rfl, hC.sel [] (by decide)⟩
        · replace hb := (cF hq39).symm.trans hb
          refine Wc.skip ?_
          refine hK20 _ _ ?_
          refine Wc.region (by decide +kernel) ?_
          obtain ⟨z41, h42, hb⟩ := bd hb
          refine lex.pure (v := .int .i64 z41) (pu_addc (a := v13_0) (b := 1) e13 rfl h42) ?_
          refine lex.pure (v := .int .i64 z41) (pu_move rfl) ?_
          refine lex.nil ?_
          obtain rfl := Option.some.inj hb
          exact hK12 m13' _ _ (Nat.lt_succ_self _) ⟨z41, e0, e1, e4, e12, rfl, (chk_rng h42), hC.sel [0, 1] (by decide), lN hl0⟩
      · replace hb := (cF hq19).symm.trans hb
        refine Wc.exit rfl ?_
        obtain rfl := Option.some.inj hb
        obtain rfl := (lX hl0).symm
        exact hK11 _ _ ⟨v13_0, e4, hrv13_0, hC.sel [] (by decide), hbK0⟩
    · clear hb hC hl0
      rintro E44 w43 ⟨v13_0, e4, hrv13_0, hC, hb⟩
      refine hK8 _ _ ?_
      refine Wc.seq fun K45 hK45 => ?_
      refine Wc.region (by decide +kernel) ?_
      refine lex.pure (v := .bool true) (pu_assign rfl) ?_
      refine lex.nil ?_
      refine hK45 _ _ ?_
      obtain rfl := Option.some.inj hb
      refine Wc.ret ?_
      refine hKR _ _ ?_
      refine ⟨_, res1 Try.results46 (show RV _ _ _ (.tmp _) (.bool true) from rfl), _, rfl, rfl, hC.sel [] (by decide)⟩

set_option maxRecDepth 100000 in
set_option maxHeartbeats 4000000 in
theorem garside_Same_c1_ok (n : Nat) {w : World} {O0 : List Nat} (hO : ∀ k ∈ O0, k < w.heap.size) {Ap_0 : Option Addr} {mp_0 cp_0 : Nat} {p_0 : List Int} (hp_0 : Rep O0 w (.sl (.int .i64)) [.slice Ap_0 mp_0 cp_0] p_0) {Aq_1 : Option Addr} {mq_1 cq_1 : Nat} {q_1 : List Int} (hq_1 : Rep O0 w (.sl (.int .i64)) [.slice Aq_1 mq_1 cq_1] q_1) {r : Bool} (hb : F.garside_Same_c1 n p_0 q_1 = some r) :
    Calls Try.prog 45 #[.slice Ap_0 mp_0 cp_0, .slice Aq_1 mq_1 cq_1] w fun e w' => ∃ v, e = .returned v ∧ v = .bool r ∧ Cx (fun _ => False) O0 w w' [] := by
  unfold F.garside_Same_c1 at hb
  have hC := Cx.start hO
  replace hC := hC.arg rfl hp_0
  replace hC := hC.arg rfl hq_1
  clear hO
  obtain ⟨rfl, hlp_0, hcp_0⟩ := hp_0.sl_len
  obtain ⟨rfl, hlq_1, hcq_1⟩ := hq_1.sl_len
  refine calls_of_Wc Try.func45 rfl (by rw [Try.ntmps45]; exact Nat.le_of_ble_eq_true rfl) fun KR hKR => ?_
  refine Wc.seq fun K3 hK3 => ?_
  refine Wc.region (by decide +kernel) ?_
  refine lex.pure (v := .bool false) (pu_assign rfl) ?_
  refine lex.nil ?_
  refine hK3 _ _ ?_
  refine Wc.seq fun K4 hK4 => ?_
  refine Wc.region (by decide +kernel) ?_
  refine lex.pure (v := .slice Ap_0 p_0.length cp_0) (pu_move rfl) ?_
  refine lex.pure (v := .slice Aq_1 q_1.length cq_1) (pu_move rfl) ?_
  obtain ⟨y5, h6, hb⟩ := bd hb
  refine lex.cl (⟨_, _, op_call (vs := [.slice Ap_0 p_0.length cp_0, .slice Aq_1 q_1.length cq_1]) Try.call46 rfl rfl rfl, slices_Equal_Perm_int_ok n hC.lt (hC.rd (i := 1) rfl) (hC.rd (i := 0) rfl) h6⟩) ?_
  rintro _ w7 ⟨rfl, hK⟩
  replace hC := hC.merge hK
  clear hK
  refine lex.pure (v := .bool y5) (pu_assign rfl) ?_
  refine lex.nil ?_
  refine hK4 _ _ ?_
  obtain rfl := Option.some.inj hb
  refine Wc.ret ?_
  refine hKR _ _ ?_
  refine ⟨_, res1 Try.results45 (show RV _ _ _ (.tmp _) (.bool y5) from rfl), _, rfl, rfl, hC.sel [] (by decide)⟩

set_option maxRecDepth 100000 in
set_option maxHeartbeats 4000000 in
theorem slices_EqualFunc_Perm_Perm_Perm_Perm_garside_Same_c1_ok (n : Nat) {w : World} {O0 : List Nat} (hO : ∀ k ∈ O0, k < w.heap.size) {As1_0 : Option Addr} {ms1_0 cs1_0 : Nat} {s1_0 : List (List Int)} (hs1_0 : Rep O0 w (.sl (.sl (.int .i64))) [.slice As1_0 ms1_0 cs1_0] s1_0) {As2_1 : Option Addr} {ms2_1 cs2_1 : Nat} {s2_1 : List (List Int)} (hs2_1 : Rep O0 w (.sl (.sl (.int .i64))) [.slice As2_1 ms2_1 cs2_1] s2_1) {r : Bool} (hb : F.slices_EqualFunc_Perm_Perm_Perm_Perm_garside_Same_c1 n s1_0 s2_1 = some r) :
    Calls Try.prog 44 #[.slice As1_0 ms1_0 cs1_0, .slice As2_1 ms2_1 cs2_1, .func (.func 45) #[] #[]] w fun e w' => ∃ v, e = .returned v ∧ v = .bool r ∧ Cx (fun _ => False) O0 w w' [] := by
  unfold F.slices_EqualFunc_Perm_Perm_Perm_Perm_garside_Same_c1 at hb
  have hC := Cx.start hO
  replace hC := hC.arg rfl hs1_0
  replace hC := hC.arg rfl hs2_1
  clear hO
  obtain ⟨rfl, hls1_0, hcs1_0⟩ := hs1_0.sl_len
  obtain ⟨rfl, hls2_1, hcs2_1⟩ := hs2_1.sl_len
  refine calls_of_Wc Try.func44 rfl (by rw [Try.ntmps44]; exact Nat.le_of_ble_eq_true rfl) fun KR hKR => ?_
  refine Wc.seq fun K3 hK3 => ?_
  refine Wc.region (by decide +kernel) ?_
  refine lex.pure (v := .bool false) (pu_assign rfl) ?_
  refine lex.nil ?_
  refine hK3 _ _ ?_
  refine Wc.seq fun K4 hK4 => ?_
  refine Wc.seq fun K5 hK5 => ?_
  refine Wc.region (by decide +kernel) ?_
  refine lex.pure (v := .slice As1_0 s1_0.length cs1_0) (pu_move rfl) ?_
  refine lex.pure (v := .int .i64 (s1_0.length : Int)) (pu_len (A := As1_0) (n := s1_0.length) (m := cs1_0) Try.underlying77 rfl) ?_
  refine lex.pure (v := .slice As2_1 s2_1.length cs2_1) (pu_move rfl) ?_
  refine lex.pure (v := .int .i64 (s2_1.length : Int)) (pu_len (A := As2_1) (n := s2_1.length) (m := cs2_1) Try.underlying77 rfl) ?_
  refine lex.pure (v := .bool (!(decide ((s1_0.length : Int) = (s2_1.length : Int))))) (pu_neq (k := .i64) (a := (s1_0.length : Int)) (b := (s2_1.length : Int)) rfl rfl) ?_
  refine lex.nil ?_
  refine hK5 _ _ ?_
  refine Wc.cond (t := (!(decide ((s1_0.length : Int) = (s2_1.length : Int))))) (rfl) (fun hq6 => ?_) (fun hq6 => ?_)
  · replace hb := (cT hq6).symm.trans hb
    refine Wc.seq fun K7 hK7 => ?_
    refine Wc.region (by decide +kernel) ?_
    refine lex.pure (v := .bool false) (pu_assign rfl) ?_
    refine lex.nil ?_
    refine hK7 _ _ ?_
    obtain rfl := Option.some.inj hb
    refine Wc.ret ?_
    refine hKR _ _ ?_
    refine ⟨_, res1 Try.results44 (show RV _ _ _ (.tmp _) (.bool false) from rfl), _, rfl, rfl, hC.sel [] (by decide)⟩
  · replace hb := (cF hq6).symm.trans hb
    refine Wc.skip ?_
    refine hK4 _ _ ?_
    refine Wc.seq fun K8 hK8 => ?_
    refine Wc.seq fun K9 hK9 => ?_
    refine Wc.region (by decide +kernel) ?_
    refine lex.pure (v := .slice As1_0 s1_0.length cs1_0) (pu_move rfl) ?_
    refine lex.pure (v := .int .i64 (s1_0.length : Int)) (pu_len (A := As1_0) (n := s1_0.length) (m := cs1_0) Try.underlying77 rfl) ?_
    refine lex.pure (v := .int .i64 0) (pu_move rfl) ?_
    refine lex.nil ?_
    refine hK9 _ _ ?_
    obtain ⟨o10, hl0, hb⟩ := bd hb
    refine Wc.cut (fun E wv => ∃ (v17_0 : Int), E 6 = .bool false ∧ I64 v17_0 ∧ Cx (fun _ => False) O0 w wv [] ∧ (some true : Option (Bool)) = some r) (fun K11 hK11 => ?_) ?_
    · refine Wc.block ?_
      refine Wc.loop (fun m E wv => ∃ (v17_0 : Int), E 1 = .slice As2_1 s2_1.length cs2_1 ∧ E 2 = .func (.func 45) #[] #[] ∧ E 6 = .bool false ∧ E 15 = .slice As1_0 s1_0.length cs1_0 ∧ E 16 = .int .i64 (s1_0.length : Int) ∧ E 17 = .int .i64 v17_0 ∧ I64 v17_0 ∧ Cx (fun _ => False) O0 w wv [.ro (.sl (.sl (.int .i64))) [.slice As2_1 s2_1.length cs2_1] s2_1, .ro (.sl (.sl (.int .i64))) [.slice As1_0 s1_0.length cs1_0] s1_0] ∧ loopN m (F.slices_EqualFunc_Perm_Perm_Perm_Perm_garside_Same_c1_b0 n s1_0 s2_1) v17_0 = some o10) n ⟨0, rfl, rfl, rfl, rfl, rfl, rfl, (show I64 0 from by unfold I64; omega), hC.sel [0, 1] (by decide), hl0⟩ ?_
      have hbK0 := hb
      clear hb hC hl0
      rintro m13 E15 w14 ⟨v17_0, e1, e2, e6, e15, e16, e17, hrv17_0, hC, hl0⟩ K12 hK12
      obtain ⟨m13', o16, rfl, hb, hl0⟩ := loopN_some hl0
      unfold F.slices_EqualFunc_Perm_Perm_Perm_Perm_garside_Same_c1_b0 at hb
      refine Wc.seq fun K17 hK17 => ?_
      refine Wc.region (by decide +kernel) ?_
      refine lex.pure (v := .bool (decide (v17_0 < (s1_0.length : Int)))) (pu_lss (k := .i64) (a := v17_0) (b := (s1_0.length : Int)) e17 e16) ?_
      refine lex.nil ?_
      refine hK17 _ _ ?_
      refine Wc.seq fun K18 hK18 => ?_
      refine Wc.cond (t := (decide (v17_0 < (s1_0.length : Int)))) (rfl) (fun hq19 => ?_) (fun hq19 => ?_)
      · replace hb := (cT hq19).symm.trans hb
        refine Wc.skip ?_
        refine hK18 _ _ ?_
        refine Wc.seq fun K20 hK20 => ?_
        refine Wc.block ?_
        refine Wc.seq fun K21 hK21 => ?_
        refine Wc.region (by decide +kernel) ?_
        refine lex.pure (v := .int .i64 v17_0) (pu_move e17) ?_
        obtain ⟨x22, h23, hb⟩ := bd hb
        obtain ⟨ad24, cs25, hA, hc26, hr27⟩ := hC.elr (i := 1) rfl (get_some h23).2
        subst hA
        refine lex.pure (v := .pointer (some (ad24.add (v17_0.toNat * 1)))) (pu_index (a := v17_0) Try.underlying77 Try.sizeOf52 e15 e17 (get_some h23).1) ?_
        have hR := hr27
        obtain ⟨A28, c29, rfl, hl30, hc31, _⟩ := hr27
        replace hC := hC.ro hR
        clear hR
        refine lex.val (v := .slice A28 x22.length c29) (ld_one Try.isAgg52 rfl (hc26 0 _ rfl)) ?_
        refine lex.pure (v := .int .i64 v17_0) (pu_assign rfl) ?_
        refine lex.pure (v := .slice A28 x22.length c29) (pu_assign rfl) ?_
        refine lex.nil ?_
        refine hK21 _ _ ?_
        refine Wc.seq fun K33 hK33 => ?_
        refine Wc.region (by decide +kernel) ?_
        refine lex.pure (v := .slice As2_1 s2_1.length cs2_1) (pu_move e1) ?_
        refine lex.pure (v := .int .i64 v17_0) (pu_move rfl) ?_
        obtain ⟨x34, h35, hb⟩ := bd hb
        obtain ⟨ad36, cs37, hA, hc38, hr39⟩ := hC.elr (i := 1) rfl (get_some h35).2
        subst hA
        refine lex.pure (v := .pointer (some (ad36.add (v17_0.toNat * 1)))) (pu_index (a := v17_0) Try.underlying77 Try.sizeOf52 rfl rfl (get_some h35).1) ?_
        have hR := hr39
        obtain ⟨A40, c41, rfl, hl42, hc43, _⟩ := hr39
        replace hC := hC.ro hR
        clear hR
        refine lex.val (v := .slice A40 x34.length c41) (ld_one Try.isAgg52 rfl (hc38 0 _ rfl)) ?_
        refine lex.pure (v := .slice A40 x34.length c41) (pu_assign rfl) ?_
        refine lex.nil ?_
        refine hK33 _ _ ?_
        refine Wc.fresh fun E45 hE => ?_
        have e1 : E45 1 = .slice (some ad36) s2_1.length cs2_1 := (congrFun hE 1).trans e1
        have e2 : E45 2 = .func (.func 45) #[] #[] := (congrFun hE 2).trans e2
        have e6 : E45 6 = .bool false := (congrFun hE 6).trans e6
        have e7 : E45 7 = .int .i64 v17_0 := (congrFun hE 7).trans rfl
        have e8 : E45 8 = .slice A28 x22.length c29 := (congrFun hE 8).trans rfl
        have e9 : E45 9 = .slice A40 x34.length c41 := (congrFun hE 9).trans rfl
        have e15 : E45 15 = .slice (some ad24) s1_0.length cs1_0 := (congrFun hE 15).trans e15
        have e16 : E45 16 = .int .i64 (s1_0.length : Int) := (congrFun hE 16).trans e16
        have e17 : E45 17 = .int .i64 v17_0 := (congrFun hE 17).trans e17
        have e18 : E45 18 = .bool (decide (v17_0 < (s1_0.length : Int))) := (congrFun hE 18).trans rfl
        clear hE
        refine Wc.seq fun K46 hK46 => ?_
        refine Wc.region (by decide +kernel) ?_
        refine lex.pure (v := .func (.func 45) #[] #[]) (pu_move e2) ?_
        refine lex.pure (v := .slice A28 x22.length c29) (pu_move e8) ?_
        refine lex.pure (v := .slice A40 x34.length c41) (pu_move e9) ?_
        obtain ⟨y47, h48, hb⟩ := bd hb
        refine lex.cl (⟨_, _, op_callv (vs := [.slice A28 x22.length c29, .slice A40 x34.length c41]) (ca := #[]) Try.call45 rfl rfl rfl, garside_Same_c1_ok n hC.lt (hC.rd (i := 1) rfl) (hC.rd (i := 0) rfl) h48⟩) ?_
        rintro _ w49 ⟨rfl, hK⟩
        replace hC := hC.merge hK
        clear hK
        refine lex.pure (v := .bool (!y47)) (pu_not (q := y47) rfl) ?_
        refine lex.nil ?_
        refine hK46 _ _ ?_
        refine Wc.cond (t := (!y47)) (rfl) (fun hq50 => ?_) (fun hq50 => ?_)
        · replace hb := (cT hq50).symm.trans hb
          refine Wc.seq fun K51 hK51 => ?_
          refine Wc.region (by decide +kernel) ?_
          refine lex.pure (v := .bool false) (pu_assign rfl) ?_
          refine lex.nil ?_
          refine hK51 _ _ ?_
          obtain rfl := Option.some.inj hb
          obtain rfl := (lX hl0).symm
          replace hb := hbK0
          obtain rfl := Option.some.inj hb
          refine Wc.ret ?_
          refine hKR _ _ ?_
          refine ⟨_, res1 Try.results44 (show RV _ _ _ (.tmp _) (.bool false) from rfl), _, rfl, rfl, hC.sel [] (by decide)⟩
        · replace hb := (cF hq50).symm.trans hb
          refine Wc.skip ?_
          refine hK20 _ _ ?_
          refine Wc.region (by decide +kernel) ?_
          obtain ⟨z52, h53, hb⟩ := bd hb
          refine lex.pure (v := .int .i64 z52) (pu_addc (a := v17_0) (b := 1) e17 rfl h53) ?_
          refine lex.pure (v := .int .i64 z52) (pu_move rfl) ?_
          refine lex.nil ?_
          obtain rfl := Option.some.inj hb
          exact hK12 m13' _ _ (Nat.lt_succ_self _) ⟨z52, e1, e2, e6, e15, e16, rfl, (chk_rng h53), hC.sel [2, 3] (by decide), lN hl0⟩
      · replace hb := (cF hq19).symm.trans hb
        refine Wc.exit rfl ?_
        obtain rfl := Option.some.inj hb
        obtain rfl := (lX hl0).symm
        exact hK11 _ _ ⟨v17_0, e6, hrv17_0, hC.sel [] (by decide), hbK0⟩
    · clear hb hC hl0
      rintro E55 w54 ⟨v17_0, e6, hrv17_0, hC, hb⟩
      refine hK8 _ _ ?_
      refine Wc.seq fun K56 hK56 => ?_
      refine Wc.region (by decide +kernel) ?_
      refine lex.pure (v := .bool true) (pu_assign rfl) ?_
      refine lex.nil ?_
      refine hK56 _ _ ?_
      obtain rfl := Option.some.inj hb
      refine Wc.ret ?_
      refine hKR _ _ ?_
      refine ⟨_, res1 Try.results44 (show RV _ _ _ (.tmp _) (.bool true) from rfl), _, rfl, rfl, hC.sel [] (by decide)⟩
end Go.Proofs.Ytlkmcbgkohpmiaa
