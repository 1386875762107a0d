/- The walks: part 18. -/
import Derived.Test.YtlkmcbgkohpmiaaS
import Derived.Test.YtlkmcbgkohpmiaaG2
set_option linter.unusedVariables false
set_option linter.unusedSimpArgs false
namespace Go.Proofs.Ytlkmcbgkohpmiaa
open Ev
set_option maxRecDepth 100000 in
set_option maxHeartbeats 4000000 in
theorem garside_halfTwist_ok (n : Nat) {w : World} {O0 : List Nat} (hO : ∀ k ∈ O0, k < w.heap.size) {nx_0 : Int} (hnx_0 : I64 nx_0) {r : (List Int)} (hb : F.garside_halfTwist n nx_0 = some r) :
    Calls Try.prog 61 #[.int .i64 nx_0] w fun e w' => ∃ v, e = .returned v ∧ ∃ (A0 : Option Addr) (m0 c0 : Nat), v = .slice A0 m0 c0 ∧ Cx (fun _ => False) O0 w w' [.own 3 (.int .i64) (.slice A0 m0 c0) r] := by
  unfold F.garside_halfTwist at hb
  have hC := Cx.start hO
  clear hO
  refine calls_of_Wc Try.func61 rfl (by rw [Try.ntmps61]; exact Nat.le_of_ble_eq_true rfl) fun KR hKR => ?_
  refine Wc.seq fun K1 hK1 => ?_
  refine Wc.region (by decide +kernel) ?_
  refine lex.pure (v := .slice none 0 0) (pu_assign rfl) ?_
  refine lex.nil ?_
  refine hK1 _ _ ?_
  refine Wc.seq fun K2 hK2 => ?_
  refine Wc.region (by decide +kernel) ?_
  refine lex.pure (v := .int .i64 nx_0) (pu_move rfl) ?_
  obtain ⟨u3, h4, hb⟩ := bd hb
  refine lex.op (hC.make (s := (.int .i64)) (n := nx_0) Try.underlying52 Try.type3 rfl rfl rfl rfl rfl (pos_some h4).1 (pos_some h4).2 (by decide)) ?_
  rintro _ w9 ⟨A5, c6, rfl, hl7, hc8, hC, hF, hN⟩
  clear hF hN
  refine lex.pure (v := .slice A5 (((List.replicate nx_0.toNat (0 : Int))).length) c6) (pu_assign rfl) ?_
  refine lex.nil ?_
  refine hK2 _ _ ?_
  refine Wc.seq fun K11 hK11 => ?_
  refine Wc.seq fun K12 hK12 => ?_
  refine Wc.region (by decide +kernel) ?_
  refine lex.pure (v := .slice A5 (((List.replicate nx_0.toNat (0 : Int))).length) c6) (pu_move rfl) ?_
  refine lex.pure (v := .int .i64 (((List.replicate nx_0.toNat (0 : Int))).length : Int)) (pu_len (A := A5) (n := ((List.replicate nx_0.toNat (0 : Int))).length) (m := c6) Try.underlying52 rfl) ?_
  refine lex.pure (v := .int .i64 0) (pu_move rfl) ?_
  refine lex.nil ?_
  refine hK12 _ _ ?_
  obtain ⟨o13, hl0, hb⟩ := bd hb
  refine Wc.cut (fun E wv => ∃ (v9_0 : Int) (qf10_0 : List Int), E 2 = .slice none 0 0 ∧ E 3 = .slice A5 (((List.replicate nx_0.toNat (0 : Int))).length) c6 ∧ I64 v9_0 ∧ Cx (fun _ => False) O0 w wv [.own 3 (.int .i64) (.slice A5 (((List.replicate nx_0.toNat (0 : Int))).length) c6) qf10_0] ∧ (some qf10_0 : Option ((List Int))) = some r) (fun K14 hK14 => ?_) ?_
  · refine Wc.block ?_
    refine Wc.loop (fun m E wv => ∃ (v9_0 : Int) (qf10_0 : List Int), E 0 = .int .i64 nx_0 ∧ E 2 = .slice none 0 0 ∧ E 3 = .slice A5 (((List.replicate nx_0.toNat (0 : Int))).length) c6 ∧ E 8 = .int .i64 (((List.replicate nx_0.toNat (0 : Int))).length : Int) ∧ E 9 = .int .i64 v9_0 ∧ I64 v9_0 ∧ Cx (fun _ => False) O0 w wv [.own 3 (.int .i64) (.slice A5 (((List.replicate nx_0.toNat (0 : Int))).length) c6) qf10_0] ∧ loopN m (F.garside_halfTwist_b0 n nx_0) (v9_0, qf10_0) = some o13) n ⟨0, (List.replicate nx_0.toNat (0 : Int)), rfl, rfl, rfl, rfl, rfl, (show I64 0 from by unfold I64; omega), hC.sel [0] (by decide), hl0⟩ ?_
    have hbK0 := hb
    clear hb hC hl0
    rintro m16 E18 w17 ⟨v9_0, qf10_0, e0, e2, e3, e8, e9, hrv9_0, hC, hl0⟩ K15 hK15
    obtain ⟨m16', o19, rfl, hb, hl0⟩ := loopN_some hl0
    unfold F.garside_halfTwist_b0 at hb
    refine Wc.seq fun K20 hK20 => ?_
    refine Wc.region (by decide +kernel) ?_
    refine lex.pure (v := .bool (decide (v9_0 < (((List.replicate nx_0.toNat (0 : Int))).length : Int)))) (pu_lss (k := .i64) (a := v9_0) (b := (((List.replicate nx_0.toNat (0 : Int))).length : Int)) e9 e8) ?_
    refine lex.nil ?_
    refine hK20 _ _ ?_
    refine Wc.seq fun K21 hK21 => ?_
    refine Wc.cond (t := (decide (v9_0 < (((List.replicate nx_0.toNat (0 : Int))).length : Int)))) (rfl) (fun hq22 => ?_) (fun hq22 => ?_)
    · replace hb := (cT hq22).symm.trans hb
      refine Wc.skip ?_
      refine hK21 _ _ ?_
      refine Wc.seq fun K23 hK23 => ?_
      refine Wc.block ?_
      refine Wc.seq fun K24 hK24 => ?_
      refine Wc.region (by decide +kernel) ?_
      refine lex.pure (v := .int .i64 v9_0) (pu_move e9) ?_
      refine lex.pure (v := .int .i64 v9_0) (pu_assign rfl) ?_
      refine lex.nil ?_
      refine hK24 _ _ ?_
      refine Wc.region (by decide +kernel) ?_
      refine lex.pure (v := .slice A5 (((List.replicate nx_0.toNat (0 : Int))).length) c6) (pu_move e3) ?_
      refine lex.pure (v := .int .i64 v9_0) (pu_move rfl) ?_
      refine lex.pure (v := .int .i64 nx_0) (pu_move e0) ?_
      obtain ⟨z25, h26, hb⟩ := bd hb
      refine lex.pure (v := .int .i64 z25) (pu_subc (a := nx_0) (b := 1) rfl rfl h26) ?_
      refine lex.pure (v := .int .i64 v9_0) (pu_move rfl) ?_
      obtain ⟨z27, h28, hb⟩ := bd hb
      refine lex.pure (v := .int .i64 z27) (pu_subc (a := z25) (b := v9_0) rfl rfl h28) ?_
      obtain ⟨x29, h30, hb⟩ := bd hb
      obtain ⟨ad31, cs32, hA, hc33, hr34⟩ := hC.elo (i := 0) rfl (get_some h30).2
      subst hA
      refine lex.pure (v := .pointer (some (ad31.add (v9_0.toNat * 1)))) (pu_index (a := v9_0) Try.underlying52 Try.sizeOf3 rfl rfl (by rw [(hC.ow (i := 0) rfl).sl_len.1]; exact (get_some h30).1)) ?_
      refine lex.sk (hC.put (i := 0) rfl rfl Try.sizeOf3 (k := v9_0.toNat) (a := z27) (by have := (get_some h30).1; simp at this ⊢; omega) (⟨rfl, I64.wr (chk_rng h28)⟩) rfl rfl rfl) ?_
      rintro w35 ⟨hC, hF⟩
      refine lex.nil ?_
      refine hK23 _ _ ?_
      refine Wc.region (by decide +kernel) ?_
      obtain ⟨z36, h37, hb⟩ := bd hb
      refine lex.pure (v := .int .i64 z36) (pu_addc (a := v9_0) (b := 1) e9 rfl h37) ?_
      refine lex.pure (v := .int .i64 z36) (pu_move rfl) ?_
      refine lex.nil ?_
      obtain rfl := Option.some.inj hb
      exact hK15 m16' _ _ (Nat.lt_succ_self _) ⟨z36, (qf10_0.set v9_0.toNat z27), e0, e2, e3, e8, rfl, (chk_rng h37), hC.sel [0] (by decide), lN hl0⟩
    · replace hb := (cF hq22).symm.trans hb
      refine Wc.exit rfl ?_
      obtain rfl := Option.some.inj hb
      obtain rfl := (lX hl0).symm
      exact hK14 _ _ ⟨v9_0, qf10_0, e2, e3, hrv9_0, hC.sel [0] (by decide), hbK0⟩
  · clear hb hC hl0
    rintro E39 w38 ⟨v9_0, qf10_0, e2, e3, hrv9_0, hC, hb⟩
    refine hK11 _ _ ?_
    refine Wc.seq fun K40 hK40 => ?_
    refine Wc.region (by decide +kernel) ?_
    refine lex.pure (v := .slice A5 (((List.replicate nx_0.toNat (0 : Int))).length) c6) (pu_move e3) ?_
    refine lex.pure (v := .slice A5 (((List.replicate nx_0.toNat (0 : Int))).length) c6) (pu_assign rfl) ?_
    refine lex.nil ?_
    refine hK40 _ _ ?_
    obtain rfl := Option.some.inj hb
    refine Wc.ret ?_
    refine hKR _ _ ?_
    refine ⟨_, res1 Try.results61 (show RV _ _ _ (.tmp _) (.slice A5 (((List.replicate nx_0.toNat (0 : Int))).length) c6) from rfl), _, rfl, A5, ((List.replicate nx_0.toNat (0 : Int))).length, c6, rfl, hC.sel [0] (by decide)⟩

set_option maxRecDepth 100000 in
set_option maxHeartbeats 4000000 in
theorem garside_identity_ok (n : Nat) {w : World} {O0 : List Nat} (hO : ∀ k ∈ O0, k < w.heap.size) {nx_0 : Int} (hnx_0 : I64 nx_0) {r : (List Int)} (hb : F.garside_identity n nx_0 = some r) :
    Calls Try.prog 62 #[.int .i64 nx_0] w fun e w' => ∃ v, e = .returned v ∧ ∃ (A0 : Option Addr) (m0 c0 : Nat), v = .slice A0 m0 c0 ∧ Cx (fun _ => False) O0 w w' [.own 3 (.int .i64) (.slice A0 m0 c0) r] := by
  unfold F.garside_identity at hb
  have hC := Cx.start hO
  clear hO
  refine calls_of_Wc Try.func62 rfl (by rw [Try.ntmps62]; exact Nat.le_of_ble_eq_true rfl) fun KR hKR => ?_
  refine Wc.seq fun K1 hK1 => ?_
  refine Wc.region (by decide +kernel) ?_
  refine lex.pure (v := .slice none 0 0) (pu_assign rfl) ?_
  refine lex.nil ?_
  refine hK1 _ _ ?_
  refine Wc.seq fun K2 hK2 => ?_
  refine Wc.region (by decide +kernel) ?_
  refine lex.pure (v := .int .i64 nx_0) (pu_move rfl) ?_
  obtain ⟨u3, h4, hb⟩ := bd hb
  refine lex.op (hC.make (s := (.int .i64)) (n := nx_0) Try.underlying52 Try.type3 rfl rfl rfl rfl rfl (pos_some h4).1 (pos_some h4).2 (by decide)) ?_
  rintro _ w9 ⟨A5, c6, rfl, hl7, hc8, hC, hF, hN⟩
  clear hF hN
  refine lex.pure (v := .slice A5 (((List.replicate nx_0.toNat (0 : Int))).length) c6) (pu_assign rfl) ?_
  refine lex.nil ?_
  refine hK2 _ _ ?_
  refine Wc.seq fun K11 hK11 => ?_
  refine Wc.seq fun K12 hK12 => ?_
  refine Wc.region (by decide +kernel) ?_
  refine lex.pure (v := .slice A5 (((List.replicate nx_0.toNat (0 : Int))).length) c6) (pu_move rfl) ?_
  refine lex.pure (v := .int .i64 (((List.replicate nx_0.toNat (0 : Int))).length : Int)) (pu_len (A := A5) (n := ((List.replicate nx_0.toNat (0 : Int))).length) (m := c6) Try.underlying52 rfl) ?_
  refine lex.pure (v := .int .i64 0) (pu_move rfl) ?_
  refine lex.nil ?_
  refine hK12 _ _ ?_
  obtain ⟨o13, hl0, hb⟩ := bd hb
  refine Wc.cut (fun E wv => ∃ (v9_0 : Int) (qf10_0 : List Int), E 2 = .slice none 0 0 ∧ E 3 = .slice A5 (((List.replicate nx_0.toNat (0 : Int))).length) c6 ∧ I64 v9_0 ∧ Cx (fun _ => False) O0 w wv [.own 3 (.int .i64) (.slice A5 (((List.replicate nx_0.toNat (0 : Int))).length) c6) qf10_0] ∧ (some qf10_0 : Option ((List Int))) = some r) (fun K14 hK14 => ?_) ?_
  · refine Wc.block ?_
    refine Wc.loop (fun m E wv => ∃ (v9_0 : Int) (qf10_0 : List Int), E 2 = .slice none 0 0 ∧ E 3 = .slice A5 (((List.replicate nx_0.toNat (0 : Int))).length) c6 ∧ E 8 = .int .i64 (((List.replicate nx_0.toNat (0 : Int))).length : Int) ∧ E 9 = .int .i64 v9_0 ∧ I64 v9_0 ∧ Cx (fun _ => False) O0 w wv [.own 3 (.int .i64) (.slice A5 (((List.replicate nx_0.toNat (0 : Int))).length) c6) qf10_0] ∧ loopN m (F.garside_identity_b0 n nx_0) (v9_0, qf10_0) = some o13) n ⟨0, (List.replicate nx_0.toNat (0 : Int)), rfl, rfl, rfl, rfl, (show I64 0 from by unfold I64; omega), hC.sel [0] (by decide), hl0⟩ ?_
    have hbK0 := hb
    clear hb hC hl0
    rintro m16 E18 w17 ⟨v9_0, qf10_0, e2, e3, e8, e9, hrv9_0, hC, hl0⟩ K15 hK15
    obtain ⟨m16', o19, rfl, hb, hl0⟩ := loopN_some hl0
    unfold F.garside_identity_b0 at hb
    refine Wc.seq fun K20 hK20 => ?_
    refine Wc.region (by decide +kernel) ?_
    refine lex.pure (v := .bool (decide (v9_0 < (((List.replicate nx_0.toNat (0 : Int))).length : Int)))) (pu_lss (k := .i64) (a := v9_0) (b := (((List.replicate nx_0.toNat (0 : Int))).length : Int)) e9 e8) ?_
    refine lex.nil ?_
    refine hK20 _ _ ?_
    refine Wc.seq fun K21 hK21 => ?_
    refine Wc.cond (t := (decide (v9_0 < (((List.replicate nx_0.toNat (0 : Int))).length : Int)))) (rfl) (fun hq22 => ?_) (fun hq22 => ?_)
    · replace hb := (cT hq22).symm.trans hb
      refine Wc.skip ?_
      refine hK21 _ _ ?_
      refine Wc.seq fun K23 hK23 => ?_
      refine Wc.block ?_
      refine Wc.seq fun K24 hK24 => ?_
      refine Wc.region (by decide +kernel) ?_
      refine lex.pure (v := .int .i64 v9_0) (pu_move e9) ?_
      refine lex.pure (v := .int .i64 v9_0) (pu_assign rfl) ?_
      refine lex.nil ?_
      refine hK24 _ _ ?_
      refine Wc.region (by decide +kernel) ?_
      refine lex.pure (v := .slice A5 (((List.replicate nx_0.toNat (0 : Int))).length) c6) (pu_move e3) ?_
      refine lex.pure (v := .int .i64 v9_0) (pu_move rfl) ?_
      refine lex.pure (v := .int .i64 v9_0) (pu_move rfl) ?_
      obtain ⟨x25, h26, hb⟩ := bd hb
      obtain ⟨ad27, cs28, hA, hc29, hr30⟩ := hC.elo (i := 0) rfl (get_some h26).2
      subst hA
      refine lex.pure (v := .pointer (some (ad27.add (v9_0.toNat * 1)))) (pu_index (a := v9_0) Try.underlying52 Try.sizeOf3 rfl rfl (by rw [(hC.ow (i := 0) rfl).sl_len.1]; exact (get_some h26).1)) ?_
      refine lex.sk (hC.put (i := 0) rfl rfl Try.sizeOf3 (k := v9_0.toNat) (a := v9_0) (by have := (get_some h26).1; simp at this ⊢; omega) (⟨rfl, I64.wr hrv9_0⟩) rfl rfl rfl) ?_
      rintro w31 ⟨hC, hF⟩
      refine lex.nil ?_
      refine hK23 _ _ ?_
      refine Wc.region (by decide +kernel) ?_
      obtain ⟨z32, h33, hb⟩ := bd hb
      refine lex.pure (v := .int .i64 z32) (pu_addc (a := v9_0) (b := 1) e9 rfl h33) ?_
      refine lex.pure (v := .int .i64 z32) (pu_move rfl) ?_
      refine lex.nil ?_
      obtain rfl := Option.some.inj hb
      exact hK15 m16' _ _ (Nat.lt_succ_self _) ⟨z32, (qf10_0.set v9_0.toNat v9_0), e2, e3, e8, rfl, (chk_rng h33), hC.sel [0] (by decide), lN hl0⟩
    · replace hb := (cF hq22).symm.trans hb
      refine Wc.exit rfl ?_
      obtain rfl := Option.some.inj hb
      obtain rfl := (lX hl0).symm
      exact hK14 _ _ ⟨v9_0, qf10_0, e2, e3, hrv9_0, hC.sel [0] (by decide), hbK0⟩
  · clear hb hC hl0
    rintro E35 w34 ⟨v9_0, qf10_0, e2, e3, hrv9_0, hC, hb⟩
    refine hK11 _ _ ?_
    refine Wc.seq fun K36 hK36 => ?_
    refine Wc.region (by decide +kernel) ?_
    refine lex.pure (v := .slice A5 (((List.replicate nx_0.toNat (0 : Int))).length) c6) (pu_move e3) ?_
    refine lex.pure (v := .slice A5 (((List.replicate nx_0.toNat (0 : Int))).length) c6) (pu_assign rfl) ?_
    refine lex.nil ?_
    refine hK36 _ _ ?_
    obtain rfl := Option.some.inj hb
    refine Wc.ret ?_
    refine hKR _ _ ?_
    refine ⟨_, res1 Try.results62 (show RV _ _ _ (.tmp _) (.slice A5 (((List.replicate nx_0.toNat (0 : Int))).length) c6) from rfl), _, rfl, A5, ((List.replicate nx_0.toNat (0 : Int))).length, c6, rfl, hC.sel [0] (by decide)⟩

set_option maxRecDepth 100000 in
set_option maxHeartbeats 4000000 in
theorem slices_Reverse_Perm_int_ok (n : Nat) {w : World} {O0 : List Nat} (hO : ∀ k ∈ O0, k < w.heap.size) {As_0 : Option Addr} {ms_0 cs_0 : Nat} {s_0 : List Int} (hio : Tk O0 w [.own 3 (.int .i64) (.slice As_0 ms_0 cs_0) s_0]) {r : (List Int)} (hb : F.slices_Reverse_Perm_int n s_0 = some r) :
    Calls Try.prog 83 #[.slice As_0 ms_0 cs_0] w fun e w' => ∃ v, e = .returned v ∧ v = .tuple #[] ∧ Cx (fun k => k ∈ blocks [.own 3 (.int .i64) (.slice As_0 ms_0 cs_0) s_0]) O0 w w' [.own 3 (.int .i64) (.slice As_0 ms_0 cs_0) r] := by
  unfold F.slices_Reverse_Perm_int at hb
  have hC := Cx.startTk hO hio
  have hsub := hio.2.2
  clear hO
  obtain ⟨rfl, hls_0, hcs_0⟩ := (hC.ow (i := 0) rfl).sl_len
  clear hio hsub
  obtain ⟨I, hI, hC⟩ : ∃ I : Nat → Prop, I = (fun k => k ∈ blocks [.own 3 (.int .i64) (.slice As_0 s_0.length cs_0) s_0]) ∧ Cx I O0 w w ([.own 3 (.int .i64) (.slice As_0 s_0.length cs_0) s_0]) := ⟨_, rfl, hC⟩
  refine calls_of_Wc Try.func83 rfl (by rw [Try.ntmps83]; exact Nat.le_of_ble_eq_true rfl) fun KR hKR => ?_
  refine Wc.seq fun K2 hK2 => ?_
  refine Wc.region (by decide +kernel) ?_
  refine lex.pure (v := .slice As_0 s_0.length cs_0) (pu_move rfl) ?_
  refine lex.pure (v := .int .i64 (s_0.length : Int)) (pu_len (A := As_0) (n := s_0.length) (m := cs_0) Try.underlying52 rfl) ?_
  obtain ⟨z3, h4, hb⟩ := bd hb
  refine lex.pure (v := .int .i64 z3) (pu_subc (a := (s_0.length : Int)) (b := 1) rfl rfl h4) ?_
  refine lex.pure (v := .int .i64 0) (pu_assign rfl) ?_
  refine lex.pure (v := .int .i64 z3) (pu_assign rfl) ?_
  refine lex.nil ?_
  refine hK2 _ _ ?_
  obtain ⟨o5, hl0, hb⟩ := bd hb
  refine Wc.cut (fun E wv => ∃ (v2_0 : Int) (v3_0 : Int) (qf1_0 : List Int), I64 v2_0 ∧ I64 v3_0 ∧ Cx I O0 w wv [.own 3 (.int .i64) (.slice As_0 s_0.length cs_0) qf1_0] ∧ (some qf1_0 : Option ((List Int))) = some r) (fun K6 hK6 => ?_) ?_
  · refine Wc.block ?_
    refine Wc.loop (fun m E wv => ∃ (v2_0 : Int) (v3_0 : Int) (qf1_0 : List Int), E 0 = .slice As_0 s_0.length cs_0 ∧ E 2 = .int .i64 v2_0 ∧ E 3 = .int .i64 v3_0 ∧ I64 v2_0 ∧ I64 v3_0 ∧ Cx I O0 w wv [.own 3 (.int .i64) (.slice As_0 s_0.length cs_0) qf1_0] ∧ loopN m (F.slices_Reverse_Perm_int_b0 n) (v2_0, v3_0, qf1_0) = some o5) n ⟨0, z3, s_0, rfl, rfl, rfl, (show I64 0 from by unfold I64; omega), (chk_rng h4), hC.sel [0] (by decide), hl0⟩ ?_
    have hbK0 := hb
    clear hb hC hl0
    rintro m8 E10 w9 ⟨v2_0, v3_0, qf1_0, e0, e2, e3, hrv2_0, hrv3_0, hC, hl0⟩ K7 hK7
    obtain ⟨m8', o11, rfl, hb, hl0⟩ := loopN_some hl0
    unfold F.slices_Reverse_Perm_int_b0 at hb
    refine Wc.seq fun K12 hK12 => ?_
    refine Wc.seq fun K13 hK13 => ?_
    refine Wc.region (by decide +kernel) ?_
    refine lex.pure (v := .int .i64 v2_0) (pu_move e2) ?_
    refine lex.pure (v := .int .i64 v3_0) (pu_move e3) ?_
    refine lex.pure (v := .bool (decide (v2_0 < v3_0))) (pu_lss (k := .i64) (a := v2_0) (b := v3_0) rfl rfl) ?_
    refine lex.nil ?_
    refine hK13 _ _ ?_
    refine Wc.cond (t := (decide (v2_0 < v3_0))) (rfl) (fun hq14 => ?_) (fun hq14 => ?_)
    · replace hb := (cT hq14).symm.trans hb
      refine Wc.skip ?_
      refine hK12 _ _ ?_
      refine Wc.seq fun K15 hK15 => ?_
      refine Wc.block ?_
      refine Wc.regionMix [] (frm [] ([] : List Fact) [.own 3 (.int .i64) (.slice As_0 s_0.length cs_0) qf1_0]) (fun _ => rfl) mixed (by decide +kernel) (by decide +kernel) fun w17 hw16 => ?_
      replace hC := hC.step (Fr.of_drew hw16)
      have hM := Fr.refl (fun k => k ∈ blocks ([] : List Fact)) w17
      clear hw16
      have hS := hC
      have hD : Fr (fun k => k ∈ blocks (([] : List Fact) ++ [.own 3 (.int .i64) (.slice As_0 s_0.length cs_0) qf1_0])) w17 w17 := hM.wide
      have hUf1 : Beside (([] : List Fact) ++ [.own 3 (.int .i64) (.slice As_0 s_0.length cs_0) qf1_0]) w17 (.slice As_0 s_0.length cs_0) := Beside.of (i := 0) rfl
      refine mixE.pure (v := .slice As_0 s_0.length cs_0) (pu_move e0) ?_
      refine mixE.pure (v := .int .i64 v2_0) (pu_move e2) ?_
      refine mixE.pure (v := .slice As_0 s_0.length cs_0) (pu_move e0) ?_
      refine mixE.pure (v := .int .i64 v3_0) (pu_move e3) ?_
      refine mixE.pure (v := .slice As_0 s_0.length cs_0) (pu_move e0) ?_
      refine mixE.pure (v := .int .i64 v3_0) (pu_move e3) ?_
      obtain ⟨x18, h19, hb⟩ := bd hb
      obtain ⟨ad20, cs21, hA, ho24, hc22, hr23⟩ := hS.elo2 (i := 0) rfl (get_some h19).2 [] (by decide)
      subst hA
      refine mixE.pure (v := .pointer (some (ad20.add (v3_0.toNat * 1)))) (pu_index (a := v3_0) Try.underlying52 Try.sizeOf3 rfl rfl (by rw [(hC.ow (i := 0) rfl).sl_len.1]; exact (get_some h19).1)) ?_
      obtain ⟨rfl, hr23'⟩ := hr23
      refine mixE.load hM (v := .int .i64 x18) (fun _ hF => ld_one Try.isAgg3 rfl (hF.cell (hc22 0 _ rfl) (off1 ho24))) ?_
      refine mixE.pure (v := .slice (some ad20) s_0.length cs_0) (pu_move e0) ?_
      refine mixE.pure (v := .int .i64 v2_0) (pu_move e2) ?_
      obtain ⟨x25, h26, hb⟩ := bd hb
      obtain ⟨ad27, cs28, hA, ho31, hc29, hr30⟩ := hS.elo2 (i := 0) rfl (get_some h26).2 [] (by decide)
      obtain rfl := Option.some.inj hA
      refine mixE.pure (v := .pointer (some (ad20.add (v2_0.toNat * 1)))) (pu_index (a := v2_0) Try.underlying52 Try.sizeOf3 rfl rfl (by rw [(hC.ow (i := 0) rfl).sl_len.1]; exact (get_some h26).1)) ?_
      obtain ⟨rfl, hr30'⟩ := hr30
      refine mixE.load hM (v := .int .i64 x25) (fun _ hF => ld_one Try.isAgg3 rfl (hF.cell (hc29 0 _ rfl) (off1 ho31))) ?_
      obtain ⟨x32, h33, hb⟩ := bd hb
      obtain ⟨ad34, cs35, hA, ho38, hc36, hr37⟩ := hS.elo2 (i := 0) rfl (get_some h33).2 [] (by decide)
      obtain rfl := Option.some.inj hA
      refine mixE.pure (v := .pointer (some (ad20.add (v2_0.toNat * 1)))) (pu_index (a := v2_0) Try.underlying52 Try.sizeOf3 rfl rfl (by rw [(hC.ow (i := 0) rfl).sl_len.1]; exact (get_some h33).1)) ?_
      refine mixE.sk hD (hC.put (i := 0) rfl rfl Try.sizeOf3 (k := v2_0.toNat) (a := x18) (by have := (get_some h33).1; simp at this ⊢; omega) (⟨rfl, I64.wr (wrap_I64 hr23')⟩) rfl rfl rfl) ?_
      rintro w39 ⟨hC, hF⟩
      replace hD := hD.beside hUf1 hF
      clear hF
      refine ⟨hD, ?_⟩
      obtain ⟨x40, h41, hb⟩ := bd hb
      obtain ⟨ad42, cs43, hA, hc44, hr45⟩ := hC.elo (i := 0) rfl (get_some h41).2
      obtain rfl := Option.some.inj hA
      refine mixE.pure (v := .pointer (some (ad20.add (v3_0.toNat * 1)))) (pu_index (a := v3_0) Try.underlying52 Try.sizeOf3 rfl rfl (by rw [(hC.ow (i := 0) rfl).sl_len.1]; exact (get_some h41).1)) ?_
      refine mixE.sk hD (hC.put (i := 0) rfl rfl Try.sizeOf3 (k := v3_0.toNat) (a := x25) (by have := (get_some h41).1; simp at this ⊢; omega) (⟨rfl, I64.wr (wrap_I64 hr30')⟩) rfl rfl rfl) ?_
      rintro w46 ⟨hC, hF⟩
      replace hD := hD.beside hUf1 hF
      clear hF
      refine ⟨hD, ?_⟩
      refine mixE.nil ?_
      clear hS hM
      clear hD
      refine hK15 _ _ ?_
      refine Wc.fresh fun E47 hE => ?_
      have e0 : E47 0 = .slice (some ad20) s_0.length cs_0 := (congrFun hE 0).trans e0
      have e2 : E47 2 = .int .i64 v2_0 := (congrFun hE 2).trans e2
      have e3 : E47 3 = .int .i64 v3_0 := (congrFun hE 3).trans e3
      have e9 : E47 9 = .bool (decide (v2_0 < v3_0)) := (congrFun hE 9).trans rfl
      clear hE
      refine Wc.region (by decide +kernel) ?_
      refine lex.pure (v := .int .i64 v2_0) (pu_move e2) ?_
      obtain ⟨z48, h49, hb⟩ := bd hb
      refine lex.pure (v := .int .i64 z48) (pu_addc (a := v2_0) (b := 1) rfl rfl h49) ?_
      refine lex.pure (v := .int .i64 v3_0) (pu_move e3) ?_
      obtain ⟨z50, h51, hb⟩ := bd hb
      refine lex.pure (v := .int .i64 z50) (pu_subc (a := v3_0) (b := 1) rfl rfl h51) ?_
      refine lex.pure (v := .int .i64 z48) (pu_assign rfl) ?_
      refine lex.pure (v := .int .i64 z50) (pu_assign rfl) ?_
      refine lex.nil ?_
      obtain rfl := Option.some.inj hb
      exact hK7 m8' _ _ (Nat.lt_succ_self _) ⟨z48, z50, ((qf1_0.set v2_0.toNat x18).set v3_0.toNat x25), e0, rfl, rfl, (chk_rng h49), (chk_rng h51), hC.sel [0] (by decide), lN hl0⟩
    · replace hb := (cF hq14).symm.trans hb
      refine Wc.exit rfl ?_
      obtain rfl := Option.some.inj hb
      obtain rfl := (lX hl0).symm
      exact hK6 _ _ ⟨v2_0, v3_0, qf1_0, hrv2_0, hrv3_0, hC.sel [0] (by decide), hbK0⟩
  · clear hb hC hl0
    rintro E53 w52 ⟨v2_0, v3_0, qf1_0, hrv2_0, hrv3_0, hC, hb⟩
    obtain rfl := Option.some.inj hb
    subst hI
    refine hKR _ _ ?_
    refine ⟨_, res0 Try.results83, _, rfl, rfl, hC.sel [0] (by decide)⟩

set_option maxRecDepth 100000 in
set_option maxHeartbeats 4000000 in
theorem garside_turnAround_ok (n : Nat) {w : World} {O0 : List Nat} (hO : ∀ k ∈ O0, k < w.heap.size) {Ap_0 : Option Addr} {mp_0 cp_0 : Nat} {p_0 : List Int} (hio : Tk O0 w [.own 3 (.int .i64) (.slice Ap_0 mp_0 cp_0) p_0]) {r : (List Int)} (hb : F.garside_turnAround n p_0 = some r) :
    Calls Try.prog 63 #[.slice Ap_0 mp_0 cp_0] w fun e w' => ∃ v, e = .returned v ∧ v = .tuple #[] ∧ Cx (fun k => k ∈ blocks [.own 3 (.int .i64) (.slice Ap_0 mp_0 cp_0) p_0]) O0 w w' [.own 3 (.int .i64) (.slice Ap_0 mp_0 cp_0) r] := by
  unfold F.garside_turnAround at hb
  have hC := Cx.startTk hO hio
  have hsub := hio.2.2
  clear hO
  obtain ⟨rfl, hlp_0, hcp_0⟩ := (hC.ow (i := 0) rfl).sl_len
  clear hio hsub
  obtain ⟨I, hI, hC⟩ : ∃ I : Nat → Prop, I = (fun k => k ∈ blocks [.own 3 (.int .i64) (.slice Ap_0 p_0.length cp_0) p_0]) ∧ Cx I O0 w w ([.own 3 (.int .i64) (.slice Ap_0 p_0.length cp_0) p_0]) := ⟨_, rfl, hC⟩
  refine calls_of_Wc Try.func63 rfl (by rw [Try.ntmps63]; exact Nat.le_of_ble_eq_true rfl) fun KR hKR => ?_
  refine Wc.seq fun K2 hK2 => ?_
  refine Wc.region (by decide +kernel) ?_
  refine lex.pure (v := .slice Ap_0 p_0.length cp_0) (pu_move rfl) ?_
  replace hC : Cx I O0 w w ([.own 3 (.int .i64) (.slice Ap_0 p_0.length cp_0) p_0] ++ ([] : List Fact)) := hC.sel [0] (by decide)
  obtain ⟨y3, h4, hb⟩ := bd hb
  refine lex.cl (⟨_, _, op_call (vs := [.slice Ap_0 p_0.length cp_0]) Try.call83 rfl rfl rfl, slices_Reverse_Perm_int_ok n hC.lt hC.give h4⟩) ?_
  rintro _ w5 ⟨rfl, hK⟩
  replace hC := hC.back hK
  clear hK
  refine lex.nil ?_
  refine hK2 _ _ ?_
  refine Wc.seq fun K6 hK6 => ?_
  refine Wc.region (by decide +kernel) ?_
  refine lex.pure (v := .slice Ap_0 p_0.length cp_0) (pu_move rfl) ?_
  refine lex.pure (v := .int .i64 (p_0.length : Int)) (pu_len (A := Ap_0) (n := p_0.length) (m := cp_0) Try.underlying52 rfl) ?_
  refine lex.pure (v := .int .i64 0) (pu_move rfl) ?_
  refine lex.nil ?_
  refine hK6 _ _ ?_
  obtain ⟨o7, hl0, hb⟩ := bd hb
  refine Wc.cut (fun E wv => ∃ (v7_0 : Int) (qf1_0 : List Int), I64 v7_0 ∧ Cx I O0 w wv [.own 3 (.int .i64) (.slice Ap_0 p_0.length cp_0) qf1_0] ∧ (some qf1_0 : Option ((List Int))) = some r) (fun K8 hK8 => ?_) ?_
  · refine Wc.block ?_
    refine Wc.loop (fun m E wv => ∃ (v7_0 : Int) (qf1_0 : List Int), E 0 = .slice Ap_0 p_0.length cp_0 ∧ E 6 = .int .i64 (p_0.length : Int) ∧ E 7 = .int .i64 v7_0 ∧ I64 v7_0 ∧ Cx I O0 w wv [.own 3 (.int .i64) (.slice Ap_0 p_0.length cp_0) qf1_0] ∧ loopN m (F.garside_turnAround_b0 n p_0) (v7_0, qf1_0) = some o7) n ⟨0, y3, rfl, rfl, rfl, (show I64 0 from by unfold I64; omega), hC.sel [0] (by decide), hl0⟩ ?_
    have hbK0 := hb
    clear hb hC hl0
    rintro m10 E12 w11 ⟨v7_0, qf1_0, e0, e6, e7, hrv7_0, hC, hl0⟩ K9 hK9
    obtain ⟨m10', o13, rfl, hb, hl0⟩ := loopN_some hl0
    unfold F.garside_turnAround_b0 at hb
    refine Wc.seq fun K14 hK14 => ?_
    refine Wc.region (by decide +kernel) ?_
    refine lex.pure (v := .bool (decide (v7_0 < (p_0.length : Int)))) (pu_lss (k := .i64) (a := v7_0) (b := (p_0.length : Int)) e7 e6) ?_
    refine lex.nil ?_
    refine hK14 _ _ ?_
    refine Wc.seq fun K15 hK15 => ?_
    refine Wc.cond (t := (decide (v7_0 < (p_0.length : Int)))) (rfl) (fun hq16 => ?_) (fun hq16 => ?_)
    · replace hb := (cT hq16).symm.trans hb
      refine Wc.skip ?_
      refine hK15 _ _ ?_
      refine Wc.seq fun K17 hK17 => ?_
      refine Wc.block ?_
      refine Wc.seq fun K18 hK18 => ?_
      refine Wc.region (by decide +kernel) ?_
      refine lex.pure (v := .int .i64 v7_0) (pu_move e7) ?_
      refine lex.pure (v := .int .i64 v7_0) (pu_assign rfl) ?_
      refine lex.nil ?_
      refine hK18 _ _ ?_
      refine Wc.region (by decide +kernel) ?_
      refine lex.pure (v := .slice Ap_0 p_0.length cp_0) (pu_move e0) ?_
      refine lex.pure (v := .int .i64 v7_0) (pu_move rfl) ?_
      refine lex.pure (v := .slice Ap_0 p_0.length cp_0) (pu_move e0) ?_
      refine lex.pure (v := .int .i64 (p_0.length : Int)) (pu_len (A := Ap_0) (n := p_0.length) (m := cp_0) Try.underlying52 rfl) ?_
      obtain ⟨z19, h20, hb⟩ := bd hb
      refine lex.pure (v := .int .i64 z19) (pu_subc (a := (p_0.length : Int)) (b := 1) rfl rfl h20) ?_
      refine lex.pure (v := .slice Ap_0 p_0.length cp_0) (pu_move e0) ?_
      refine lex.pure (v := .int .i64 v7_0) (pu_move rfl) ?_
      obtain ⟨x21, h22, hb⟩ := bd hb
      obtain ⟨ad23, cs24, hA, hc25, hr26⟩ := hC.elo (i := 0) rfl (get_some h22).2
      subst hA
      refine lex.pure (v := .pointer (some (ad23.add (v7_0.toNat * 1)))) (pu_index (a := v7_0) Try.underlying52 Try.sizeOf3 rfl rfl (by rw [(hC.ow (i := 0) rfl).sl_len.1]; exact (get_some h22).1)) ?_
      obtain ⟨rfl, hr26'⟩ := hr26
      refine lex.val (v := .int .i64 x21) (ld_one Try.isAgg3 rfl (hc25 0 _ rfl)) ?_
      obtain ⟨z27, h28, hb⟩ := bd hb
      refine lex.pure (v := .int .i64 z27) (pu_subc (a := z19) (b := x21) rfl rfl h28) ?_
      obtain ⟨x29, h30, hb⟩ := bd hb
      obtain ⟨ad31, cs32, hA, hc33, hr34⟩ := hC.elo (i := 0) rfl (get_some h30).2
      obtain rfl := Option.some.inj hA
      refine lex.pure (v := .pointer (some (ad23.add (v7_0.toNat * 1)))) (pu_index (a := v7_0) Try.underlying52 Try.sizeOf3 rfl rfl (by rw [(hC.ow (i := 0) rfl).sl_len.1]; exact (get_some h30).1)) ?_
      refine lex.sk (hC.put (i := 0) rfl rfl Try.sizeOf3 (k := v7_0.toNat) (a := z27) (by have := (get_some h30).1; simp at this ⊢; omega) (⟨rfl, I64.wr (chk_rng h28)⟩) rfl rfl rfl) ?_
      rintro w35 ⟨hC, hF⟩
      refine lex.nil ?_
      refine hK17 _ _ ?_
      refine Wc.region (by decide +kernel) ?_
      obtain ⟨z36, h37, hb⟩ := bd hb
      refine lex.pure (v := .int .i64 z36) (pu_addc (a := v7_0) (b := 1) e7 rfl h37) ?_
      refine lex.pure (v := .int .i64 z36) (pu_move rfl) ?_
      refine lex.nil ?_
      obtain rfl := Option.some.inj hb
      exact hK9 m10' _ _ (Nat.lt_succ_self _) ⟨z36, (qf1_0.set v7_0.toNat z27), e0, e6, rfl, (chk_rng h37), hC.sel [0] (by decide), lN hl0⟩
    · replace hb := (cF hq16).symm.trans hb
      refine Wc.exit rfl ?_
      obtain rfl := Option.some.inj hb
      obtain rfl := (lX hl0).symm
      exact hK8 _ _ ⟨v7_0, qf1_0, hrv7_0, hC.sel [0] (by decide), hbK0⟩
  · clear hb hC hl0
    rintro E39 w38 ⟨v7_0, qf1_0, hrv7_0, hC, hb⟩
    obtain rfl := Option.some.inj hb
    subst hI
    refine hKR _ _ ?_
    refine ⟨_, res0 Try.results63, _, rfl, rfl, hC.sel [0] (by decide)⟩

set_option maxRecDepth 100000 in
set_option maxHeartbeats 4000000 in
theorem slices_Clone_Perm_int_ok (n : Nat) {w : World} {O0 : List Nat} (hO : ∀ k ∈ O0, k < w.heap.size) {As_0 : Option Addr} {ms_0 cs_0 : Nat} {s_0 : List Int} (hs_0 : Rep O0 w (.sl (.int .i64)) [.slice As_0 ms_0 cs_0] s_0) {r : (List Int)} (hb : F.slices_Clone_Perm_int n s_0 = some r) :
    Calls Try.prog 64 #[.slice As_0 ms_0 cs_0] w fun e w' => ∃ v, e = .returned v ∧ ∃ (A0 : Option Addr) (m0 c0 : Nat), v = .slice A0 m0 c0 ∧ Cx (fun _ => False) O0 w w' [.own 3 (.int .i64) (.slice A0 m0 c0) r] := by
  unfold F.slices_Clone_Perm_int at hb
  have hC := Cx.start hO
  replace hC := hC.arg rfl hs_0
  clear hO
  obtain ⟨rfl, hls_0, hcs_0⟩ := hs_0.sl_len
  refine calls_of_Wc Try.func64 rfl (by rw [Try.ntmps64]; exact Nat.le_of_ble_eq_true rfl) fun KR hKR => ?_
  refine Wc.seq fun K2 hK2 => ?_
  refine Wc.region (by decide +kernel) ?_
  refine lex.pure (v := .slice none 0 0) (pu_assign rfl) ?_
  refine lex.nil ?_
  refine hK2 _ _ ?_
  refine Wc.seq fun K3 hK3 => ?_
  refine Wc.seq fun K4 hK4 => ?_
  refine Wc.region (by decide +kernel) ?_
  refine lex.pure (v := .slice As_0 s_0.length cs_0) (pu_move rfl) ?_
  refine lex.pure (v := .bool As_0.isNone) (pu_eqlnil Try.underlying52 rfl rfl) ?_
  refine lex.nil ?_
  refine hK4 _ _ ?_
  refine Wc.cond (t := As_0.isNone) (rfl) (fun hq5 => ?_) (fun hq5 => ?_)
  · have hz : As_0 = none := by simpa using hq5
    have hx := (hC.rd (i := 0) rfl).none_nil' hz
    replace hb : some ([]) = some r := by have hb2 := hb; rw [hx] at hb2; first | exact hb2 | simpa [lim] using hb2
    refine Wc.seq fun K7 hK7 => ?_
    refine Wc.region (by decide +kernel) ?_
    refine lex.pure (v := .slice none 0 0) (pu_assign rfl) ?_
    refine lex.nil ?_
    refine hK7 _ _ ?_
    replace hC := hC.nil 3 (.int .i64)
    obtain rfl := Option.some.inj hb
    refine Wc.ret ?_
    refine hKR _ _ ?_
    refine ⟨_, res1 Try.results64 (show RV _ _ _ (.tmp _) (.slice none 0 0) from rfl), _, rfl, none, 0, 0, rfl, hC.sel [0] (by decide)⟩
  ·
    skip
    refine Wc.skip ?_
    refine hK3 _ _ ?_
    refine Wc.seq fun K9 hK9 => ?_
    refine Wc.region (by decide +kernel) ?_
    refine lex.op (hC.lit (s := (.int .i64)) (vs := []) (xs := []) Try.underlying52 Try.type3 rfl rfl (Nat.le_of_ble_eq_true rfl) rfl rfl (by simp [Value.cells, Sh.n]) rfl (show Elems _ _ (.int .i64) ([]) ([] : List Int) from Elems.nil _ _ _)) ?_
    rintro _ w14 ⟨A10, c11, rfl, hl12, hc13, hC, hF, hN⟩
    clear hF hN
    refine lex.pure (v := .slice As_0 s_0.length cs_0) (pu_move rfl) ?_
    obtain ⟨u16, h17, hb⟩ := bd hb
    refine lex.op (hC.app (i := 0) (s := (.int .i64)) (xs := ([] : List Int)) (ys := s_0) (m := s_0.length) rfl Try.underlying52 Try.underlying52 Try.type3 rfl rfl rfl (hC.srcr (i := 1) rfl) rfl rfl (by have := lim_some h17; simp at this ⊢ <;> omega) (by decide)) ?_
    rintro _ w22 ⟨A18, c19, rfl, hl20, hc21, hC, hF, hN⟩
    clear hF hN
    refine lex.pure (v := .slice A18 ((([] : List Int) ++ s_0).length) c19) (pu_assign rfl) ?_
    refine lex.nil ?_
    refine hK9 _ _ ?_
    obtain rfl := Option.some.inj hb
    refine Wc.ret ?_
    refine hKR _ _ ?_
    refine ⟨_, res1 Try.results64 (show RV _ _ _ (.tmp _) (.slice A18 ((([] : List Int) ++ s_0).length) c19) from rfl), _, rfl, A18, (([] : List Int) ++ s_0).length, c19, rfl, hC.sel [0] (by decide)⟩

set_option maxRecDepth 100000 in
set_option maxHeartbeats 4000000 in
theorem perm_Inverse_ok (n : Nat) {w : World} {O0 : List Nat} (hO : ∀ k ∈ O0, k < w.heap.size) {Ap_0 : Option Addr} {mp_0 cp_0 : Nat} {p_0 : List Int} (hp_0 : Rep O0 w (.sl (.int .i64)) [.slice Ap_0 mp_0 cp_0] p_0) {r : (List Int)} (hb : F.perm_Inverse n p_0 = some r) :
    Calls Try.prog 80 #[.slice Ap_0 mp_0 cp_0] w fun e w' => ∃ v, e = .returned v ∧ ∃ (A0 : Option Addr) (m0 c0 : Nat), v = .slice A0 m0 c0 ∧ Cx (fun _ => False) O0 w w' [.own 3 (.int .i64) (.slice A0 m0 c0) r] := by
  unfold F.perm_Inverse at hb
  have hC := Cx.start hO
  replace hC := hC.arg rfl hp_0
  clear hO
  obtain ⟨rfl, hlp_0, hcp_0⟩ := hp_0.sl_len
  refine calls_of_Wc Try.func80 rfl (by rw [Try.ntmps80]; exact Nat.le_of_ble_eq_true rfl) fun KR hKR => ?_
  refine Wc.seq fun K2 hK2 => ?_
  refine Wc.region (by decide +kernel) ?_
  refine lex.pure (v := .slice none 0 0) (pu_assign rfl) ?_
  refine lex.nil ?_
  refine hK2 _ _ ?_
  refine Wc.seq fun K3 hK3 => ?_
  refine Wc.seq fun K4 hK4 => ?_
  refine Wc.region (by decide +kernel) ?_
  refine lex.pure (v := .slice Ap_0 p_0.length cp_0) (pu_move rfl) ?_
  obtain ⟨y5, h6, hb⟩ := bd hb
  refine lex.cl (⟨_, _, op_call (vs := [.slice Ap_0 p_0.length cp_0]) Try.call59 rfl rfl rfl, perm_Valid_ok n hC.lt (hC.rd (i := 0) rfl) h6⟩) ?_
  rintro _ w7 ⟨rfl, hK⟩
  replace hC := hC.merge hK
  clear hK
  refine lex.pure (v := .bool (!y5)) (pu_not (q := y5) rfl) ?_
  refine lex.nil ?_
  refine hK4 _ _ ?_
  refine Wc.cond (t := (!y5)) (rfl) (fun hq8 => ?_) (fun hq8 => ?_)
  · replace hb := (cT hq8).symm.trans hb
    refine Wc.seq fun K9 hK9 => ?_
    refine Wc.region (by decide +kernel) ?_
    refine lex.pure (v := .slice none 0 0) (pu_assign rfl) ?_
    refine lex.nil ?_
    refine hK9 _ _ ?_
    replace hC := hC.nil 3 (.int .i64)
    obtain rfl := Option.some.inj hb
    refine Wc.ret ?_
    refine hKR _ _ ?_
    refine ⟨_, res1 Try.results80 (show RV _ _ _ (.tmp _) (.slice none 0 0) from rfl), _, rfl, none, 0, 0, rfl, hC.sel [0] (by decide)⟩
  · replace hb := (cF hq8).symm.trans hb
    refine Wc.skip ?_
    refine hK3 _ _ ?_
    refine Wc.seq fun K11 hK11 => ?_
    refine Wc.region (by decide +kernel) ?_
    refine lex.pure (v := .slice Ap_0 p_0.length cp_0) (pu_move rfl) ?_
    refine lex.pure (v := .int .i64 (p_0.length : Int)) (pu_len (A := Ap_0) (n := p_0.length) (m := cp_0) Try.underlying52 rfl) ?_
    obtain ⟨u12, h13, hb⟩ := bd hb
    refine lex.op (hC.make (s := (.int .i64)) (n := (p_0.length : Int)) Try.underlying52 Try.type3 rfl rfl rfl rfl rfl (pos_some h13).1 (pos_some h13).2 (by decide)) ?_
    rintro _ w18 ⟨A14, c15, rfl, hl16, hc17, hC, hF, hN⟩
    clear hF hN
    refine lex.pure (v := .slice A14 (((List.replicate (p_0.length : Int).toNat (0 : Int))).length) c15) (pu_assign rfl) ?_
    refine lex.nil ?_
    refine hK11 _ _ ?_
    refine Wc.seq fun K20 hK20 => ?_
    refine Wc.seq fun K21 hK21 => ?_
    refine Wc.region (by decide +kernel) ?_
    refine lex.pure (v := .slice Ap_0 p_0.length cp_0) (pu_move rfl) ?_
    refine lex.pure (v := .int .i64 (p_0.length : Int)) (pu_len (A := Ap_0) (n := p_0.length) (m := cp_0) Try.underlying52 rfl) ?_
    refine lex.pure (v := .int .i64 0) (pu_move rfl) ?_
    refine lex.nil ?_
    refine hK21 _ _ ?_
    refine Wc.fresh fun E22 hE => ?_
    have e2 : E22 2 = .slice none 0 0 := (congrFun hE 2).trans rfl
    have e3 : E22 3 = .slice A14 (((List.replicate (p_0.length : Int).toNat (0 : Int))).length) c15 := (congrFun hE 3).trans rfl
    have e12 : E22 12 = .slice Ap_0 p_0.length cp_0 := (congrFun hE 12).trans rfl
    have e13 : E22 13 = .int .i64 (p_0.length : Int) := (congrFun hE 13).trans rfl
    have e14 : E22 14 = .int .i64 0 := (congrFun hE 14).trans rfl
    clear hE
    obtain ⟨o23, hl0, hb⟩ := bd hb
    refine Wc.cut (fun E wv => ∃ (v14_0 : Int) (qf19_0 : List Int), E 2 = .slice none 0 0 ∧ E 3 = .slice A14 (((List.replicate (p_0.length : Int).toNat (0 : Int))).length) c15 ∧ I64 v14_0 ∧ Cx (fun _ => False) O0 w wv [.own 3 (.int .i64) (.slice A14 (((List.replicate (p_0.length : Int).toNat (0 : Int))).length) c15) qf19_0] ∧ (some qf19_0 : Option ((List Int))) = some r) (fun K24 hK24 => ?_) ?_
    · refine Wc.block ?_
      refine Wc.loop (fun m E wv => ∃ (v14_0 : Int) (qf19_0 : List Int), E 2 = .slice none 0 0 ∧ E 3 = .slice A14 (((List.replicate (p_0.length : Int).toNat (0 : Int))).length) c15 ∧ E 12 = .slice Ap_0 p_0.length cp_0 ∧ E 13 = .int .i64 (p_0.length : Int) ∧ E 14 = .int .i64 v14_0 ∧ I64 v14_0 ∧ Cx (fun _ => False) O0 w wv [.own 3 (.int .i64) (.slice A14 (((List.replicate (p_0.length : Int).toNat (0 : Int))).length) c15) qf19_0, .ro (.sl (.int .i64)) [.slice Ap_0 p_0.length cp_0] p_0] ∧ loopN m (F.perm_Inverse_b0 n p_0) (v14_0, qf19_0) = some o23) n ⟨0, (List.replicate (p_0.length : Int).toNat (0 : Int)), e2, e3, e12, e13, e14, (show I64 0 from by unfold I64; omega), hC.sel [0, 1] (by decide), hl0⟩ ?_
      have hbK0 := hb
      clear hb hC hl0
      rintro m26 E28 w27 ⟨v14_0, qf19_0, e2, e3, e12, e13, e14, hrv14_0, hC, hl0⟩ K25 hK25
      obtain ⟨m26', o29, rfl, hb, hl0⟩ := loopN_some hl0
      unfold F.perm_Inverse_b0 at hb
      refine Wc.seq fun K30 hK30 => ?_
      refine Wc.region (by decide +kernel) ?_
      refine lex.pure (v := .bool (decide (v14_0 < (p_0.length : Int)))) (pu_lss (k := .i64) (a := v14_0) (b := (p_0.length : Int)) e14 e13) ?_
      refine lex.nil ?_
      refine hK30 _ _ ?_
      refine Wc.seq fun K31 hK31 => ?_
      refine Wc.cond (t := (decide (v14_0 < (p_0.length : Int)))) (rfl) (fun hq32 => ?_) (fun hq32 => ?_)
      · replace hb := (cT hq32).symm.trans hb
        refine Wc.skip ?_
        refine hK31 _ _ ?_
        refine Wc.seq fun K33 hK33 => ?_
        refine Wc.block ?_
        refine Wc.seq fun K34 hK34 => ?_
        refine Wc.region (by decide +kernel) ?_
        refine lex.pure (v := .int .i64 v14_0) (pu_move e14) ?_
        obtain ⟨x35, h36, hb⟩ := bd hb
        obtain ⟨ad37, cs38, hA, hc39, hr40⟩ := hC.elr (i := 1) rfl (get_some h36).2
        subst hA
        refine lex.pure (v := .pointer (some (ad37.add (v14_0.toNat * 1)))) (pu_index (a := v14_0) Try.underlying52 Try.sizeOf3 e12 e14 (get_some h36).1) ?_
        obtain ⟨rfl, hr40'⟩ := hr40
        refine lex.val (v := .int .i64 x35) (ld_one Try.isAgg3 rfl (hc39 0 _ rfl)) ?_
        refine lex.pure (v := .int .i64 v14_0) (pu_assign rfl) ?_
        refine lex.pure (v := .int .i64 x35) (pu_assign rfl) ?_
        refine lex.nil ?_
        refine hK34 _ _ ?_
        refine Wc.region (by decide +kernel) ?_
        refine lex.pure (v := .slice A14 (((List.replicate (p_0.length : Int).toNat (0 : Int))).length) c15) (pu_move e3) ?_
        refine lex.pure (v := .int .i64 x35) (pu_move rfl) ?_
        refine lex.pure (v := .int .i64 v14_0) (pu_move rfl) ?_
        obtain ⟨x41, h42, hb⟩ := bd hb
        obtain ⟨ad43, cs44, hA, hc45, hr46⟩ := hC.elo (i := 0) rfl (get_some h42).2
        subst hA
        refine lex.pure (v := .pointer (some (ad43.add (x35.toNat * 1)))) (pu_index (a := x35) Try.underlying52 Try.sizeOf3 rfl rfl (by rw [(hC.ow (i := 0) rfl).sl_len.1]; exact (get_some h42).1)) ?_
        refine lex.sk (hC.put (i := 0) rfl rfl Try.sizeOf3 (k := x35.toNat) (a := v14_0) (by have := (get_some h42).1; simp at this ⊢; omega) (⟨rfl, I64.wr hrv14_0⟩) rfl rfl rfl) ?_
        rintro w47 ⟨hC, hF⟩
        refine lex.nil ?_
        refine hK33 _ _ ?_
        refine Wc.region (by decide +kernel) ?_
        obtain ⟨z48, h49, hb⟩ := bd hb
        refine lex.pure (v := .int .i64 z48) (pu_addc (a := v14_0) (b := 1) e14 rfl h49) ?_
        refine lex.pure (v := .int .i64 z48) (pu_move rfl) ?_
        refine lex.nil ?_
        obtain rfl := Option.some.inj hb
        exact hK25 m26' _ _ (Nat.lt_succ_self _) ⟨z48, (qf19_0.set x35.toNat v14_0), e2, e3, e12, e13, rfl, (chk_rng h49), hC.sel [0, 1] (by decide), lN hl0⟩
      · replace hb := (cF hq32).symm.trans hb
        refine Wc.exit rfl ?_
        obtain rfl := Option.some.inj hb
        obtain rfl := (lX hl0).symm
        exact hK24 _ _ ⟨v14_0, qf19_0, e2, e3, hrv14_0, hC.sel [0] (by decide), hbK0⟩
    · clear hb hC hl0
      rintro E51 w50 ⟨v14_0, qf19_0, e2, e3, hrv14_0, hC, hb⟩
      refine hK20 _ _ ?_
      refine Wc.seq fun K52 hK52 => ?_
      refine Wc.region (by decide +kernel) ?_
      refine lex.pure (v := .slice A14 (((List.replicate (p_0.length : Int).toNat (0 : Int))).length) c15) (pu_move e3) ?_
      refine lex.pure (v := .slice A14 (((List.replicate (p_0.length : Int).toNat (0 : Int))).length) c15) (pu_assign rfl) ?_
      refine lex.nil ?_
      refine hK52 _ _ ?_
      obtain rfl := Option.some.inj hb
      refine Wc.ret ?_
      refine hKR _ _ ?_
      refine ⟨_, res1 Try.results80 (show RV _ _ _ (.tmp _) (.slice A14 (((List.replicate (p_0.length : Int).toNat (0 : Int))).length) c15) from rfl), _, rfl, A14, ((List.replicate (p_0.length : Int).toNat (0 : Int))).length, c15, rfl, hC.sel [0] (by decide)⟩

set_option maxRecDepth 100000 in
set_option maxHeartbeats 4000000 in
theorem garside_moveLetters_ok (n : Nat) {w : World} {O0 : List Nat} (hO : ∀ k ∈ O0, k < w.heap.size) {Abefore_0 : Option Addr} {mbefore_0 cbefore_0 : Nat} {before_0 : List Int} {Aafter_1 : Option Addr} {mafter_1 cafter_1 : Nat} {after_1 : List Int} (hio : Tk O0 w [.own 3 (.int .i64) (.slice Abefore_0 mbefore_0 cbefore_0) before_0, .own 3 (.int .i64) (.slice Aafter_1 mafter_1 cafter_1) after_1]) {r : Bool × (List Int) × (List Int)} (hb : F.garside_moveLetters n before_0 after_1 = some r) :
    Calls Try.prog 84 #[.slice Abefore_0 mbefore_0 cbefore_0, .slice Aafter_1 mafter_1 cafter_1] w fun e w' => ∃ v, e = .returned v ∧ v = .bool r.1 ∧ Cx (fun k => k ∈ blocks [.own 3 (.int .i64) (.slice Abefore_0 mbefore_0 cbefore_0) before_0, .own 3 (.int .i64) (.slice Aafter_1 mafter_1 cafter_1) after_1]) O0 w w' [.own 3 (.int .i64) (.slice Abefore_0 mbefore_0 cbefore_0) r.2.1, .own 3 (.int .i64) (.slice Aafter_1 mafter_1 cafter_1) r.2.2] := by
  unfold F.garside_moveLetters at hb
  have hC := Cx.startTk hO hio
  have hsub := hio.2.2
  clear hO
  obtain ⟨rfl, hlbefore_0, hcbefore_0⟩ := (hC.ow (i := 0) rfl).sl_len
  obtain ⟨rfl, hlafter_1, hcafter_1⟩ := (hC.ow (i := 1) rfl).sl_len
  clear hio hsub
  obtain ⟨I, hI, hC⟩ : ∃ I : Nat → Prop, I = (fun k => k ∈ blocks [.own 3 (.int .i64) (.slice Abefore_0 before_0.length cbefore_0) before_0, .own 3 (.int .i64) (.slice Aafter_1 after_1.length cafter_1) after_1]) ∧ Cx I O0 w w ([.own 3 (.int .i64) (.slice Abefore_0 before_0.length cbefore_0) before_0, .own 3 (.int .i64) (.slice Aafter_1 after_1.length cafter_1) after_1]) := ⟨_, rfl, hC⟩
  refine calls_of_Wc Try.func84 rfl (by rw [Try.ntmps84]; exact Nat.le_of_ble_eq_true rfl) fun KR hKR => ?_
  refine Wc.seq fun K3 hK3 => ?_
  refine Wc.region (by decide +kernel) ?_
  refine lex.pure (v := .bool false) (pu_assign rfl) ?_
  refine lex.nil ?_
  refine hK3 _ _ ?_
  refine Wc.seq fun K4 hK4 => ?_
  refine Wc.region (by decide +kernel) ?_
  refine lex.pure (v := .bool false) (pu_assign rfl) ?_
  refine lex.nil ?_
  refine hK4 _ _ ?_
  refine Wc.seq fun K5 hK5 => ?_
  refine Wc.region (by decide +kernel) ?_
  refine lex.pure (v := .slice Abefore_0 before_0.length cbefore_0) (pu_move rfl) ?_
  obtain ⟨y6, h7, hb⟩ := bd hb
  refine lex.cl (⟨_, _, op_call (vs := [.slice Abefore_0 before_0.length cbefore_0]) Try.call80 rfl rfl rfl, perm_Inverse_ok n (hC.lentLt [.slice Abefore_0 before_0.length cbefore_0]) ((hC.ow (i := 0) rfl).lend (vs := [.slice Abefore_0 before_0.length cbefore_0]) (by simp)) h7⟩) ?_
  rintro _ w12 ⟨A8, m9, c10, rfl, hK⟩
  replace hC := hC.mergeF hK rfl
  clear hK
  obtain ⟨rfl, hl13, hc14⟩ := (hC.ow (i := 0) rfl).sl_len
  refine lex.pure (v := .slice A8 y6.length c10) (pu_assign rfl) ?_
  refine lex.nil ?_
  refine hK5 _ _ ?_
  refine Wc.seq fun K15 hK15 => ?_
  refine Wc.seq fun K16 hK16 => ?_
  refine Wc.region (by decide +kernel) ?_
  refine lex.pure (v := .int .i64 1) (pu_assign rfl) ?_
  refine lex.nil ?_
  refine hK16 _ _ ?_
  obtain ⟨o17, hl0, hb⟩ := bd hb
  refine Wc.cut (fun E wv => ∃ (v5_0 : Bool) (v7_0 : Int) (qf2_0 : List Int) (qf11_0 : List Int), E 0 = .slice Abefore_0 before_0.length cbefore_0 ∧ E 4 = .bool false ∧ E 5 = .bool v5_0 ∧ E 6 = .slice A8 y6.length c10 ∧ I64 v7_0 ∧ Cx I O0 w wv [.own 3 (.int .i64) (.slice Abefore_0 before_0.length cbefore_0) before_0, .own 3 (.int .i64) (.slice A8 y6.length c10) qf11_0, .own 3 (.int .i64) (.slice Aafter_1 after_1.length cafter_1) qf2_0] ∧ ((F.perm_Inverse n qf11_0).bind fun y153 => some (v5_0, (y153.take (min y153.length before_0.length) ++ before_0.drop (min y153.length before_0.length)), qf2_0) : Option (Bool × (List Int) × (List Int))) = some r) (fun K18 hK18 => ?_) ?_
  · refine Wc.block ?_
    refine Wc.loop (fun m E wv => ∃ (v5_0 : Bool) (v7_0 : Int) (qf2_0 : List Int) (qf11_0 : List Int), E 0 = .slice Abefore_0 before_0.length cbefore_0 ∧ E 1 = .slice Aafter_1 after_1.length cafter_1 ∧ E 4 = .bool false ∧ E 5 = .bool v5_0 ∧ E 6 = .slice A8 y6.length c10 ∧ E 7 = .int .i64 v7_0 ∧ I64 v7_0 ∧ Cx I O0 w wv [.own 3 (.int .i64) (.slice Abefore_0 before_0.length cbefore_0) before_0, .own 3 (.int .i64) (.slice Aafter_1 after_1.length cafter_1) qf2_0, .own 3 (.int .i64) (.slice A8 y6.length c10) qf11_0] ∧ loopN m (F.garside_moveLetters_b0 n after_1) (v5_0, v7_0, qf2_0, qf11_0) = some o17) n ⟨false, 1, after_1, y6, rfl, rfl, rfl, rfl, rfl, rfl, (show I64 1 from by unfold I64; omega), hC.sel [1, 2, 0] (by decide), hl0⟩ ?_
    have hbK0 := hb
    clear hb hC hl0
    rintro m20 E22 w21 ⟨v5_0, v7_0, qf2_0, qf11_0, e0, e1, e4, e5, e6, e7, hrv7_0, hC, hl0⟩ K19 hK19
    obtain ⟨m20', o23, rfl, hb, hl0⟩ := loopN_some hl0
    unfold F.garside_moveLetters_b0 at hb
    refine Wc.seq fun K24 hK24 => ?_
    refine Wc.seq fun K25 hK25 => ?_
    refine Wc.region (by decide +kernel) ?_
    refine lex.pure (v := .int .i64 v7_0) (pu_move e7) ?_
    refine lex.pure (v := .slice Aafter_1 after_1.length cafter_1) (pu_move e1) ?_
    refine lex.pure (v := .int .i64 (after_1.length : Int)) (pu_len (A := Aafter_1) (n := after_1.length) (m := cafter_1) Try.underlying52 rfl) ?_
    refine lex.pure (v := .bool (decide (v7_0 < (after_1.length : Int)))) (pu_lss (k := .i64) (a := v7_0) (b := (after_1.length : Int)) rfl rfl) ?_
    refine lex.nil ?_
    refine hK25 _ _ ?_
    refine Wc.cond (t := (decide (v7_0 < (after_1.length : Int)))) (rfl) (fun hq26 => ?_) (fun hq26 => ?_)
    · replace hb := (cT hq26).symm.trans hb
      refine Wc.skip ?_
      refine hK24 _ _ ?_
      refine Wc.block ?_
      refine Wc.seq fun K27 hK27 => ?_
      refine Wc.seq fun K28 hK28 => ?_
      refine Wc.regionMix [] (frm [] ([] : List Fact) ([] : List Fact)) (fun _ => rfl) mixed (by decide +kernel) (by decide +kernel) fun w30 hw29 => ?_
      replace hC := hC.step (Fr.of_drew hw29)
      have hM := Fr.refl (fun k => k ∈ blocks ([] : List Fact)) w30
      clear hw29
      have hS := hC
      refine mixE.pure (v := .slice Aafter_1 after_1.length cafter_1) (pu_move e1) ?_
      refine mixE.pure (v := .int .i64 v7_0) (pu_move e7) ?_
      obtain ⟨z31, h32, hb⟩ := bd hb
      refine mixE.pure (v := .int .i64 z31) (pu_subc (a := v7_0) (b := 1) rfl rfl h32) ?_
      obtain ⟨x33, h34, hb⟩ := bd hb
      obtain ⟨ad35, cs36, hA, ho39, hc37, hr38⟩ := hS.elo2 (i := 1) rfl (get_some h34).2 [] (by decide)
      subst hA
      refine mixE.pure (v := .pointer (some (ad35.add (z31.toNat * 1)))) (pu_index (a := z31) Try.underlying52 Try.sizeOf3 rfl rfl (by rw [(hC.ow (i := 1) rfl).sl_len.1]; exact (get_some h34).1)) ?_
      obtain ⟨rfl, hr38'⟩ := hr38
      refine mixE.load hM (v := .int .i64 x33) (fun _ hF => ld_one Try.isAgg3 rfl (hF.cell (hc37 0 _ rfl) (off1 ho39))) ?_
      refine mixE.pure (v := .slice (some ad35) after_1.length cafter_1) (pu_move e1) ?_
      refine mixE.pure (v := .int .i64 v7_0) (pu_move e7) ?_
      obtain ⟨x40, h41, hb⟩ := bd hb
      obtain ⟨ad42, cs43, hA, ho46, hc44, hr45⟩ := hS.elo2 (i := 1) rfl (get_some h41).2 [] (by decide)
      obtain rfl := Option.some.inj hA
      refine mixE.pure (v := .pointer (some (ad35.add (v7_0.toNat * 1)))) (pu_index (a := v7_0) Try.underlying52 Try.sizeOf3 rfl rfl (by rw [(hC.ow (i := 1) rfl).sl_len.1]; exact (get_some h41).1)) ?_
      obtain ⟨rfl, hr45'⟩ := hr45
      refine mixE.load hM (v := .int .i64 x40) (fun _ hF => ld_one Try.isAgg3 rfl (hF.cell (hc44 0 _ rfl) (off1 ho46))) ?_
      refine mixE.pure (v := .bool (decide (x33 < x40))) (pu_lss (k := .i64) (a := x33) (b := x40) rfl rfl) ?_
      refine mixE.pure (v := .bool (decide (x33 < x40))) (pu_move rfl) ?_
      rcases bS (decide (x33 < x40)) with hq47 | hq47
      · replace hb := (cT hq47).symm.trans hb
        refine mixE.gskip (want_f rfl rfl (show _ = Value.bool (decide (x33 < x40)) from rfl) hq47) ?_
        refine mixE.gskip (want_f rfl rfl (show _ = Value.bool (decide (x33 < x40)) from rfl) hq47) ?_
        refine mixE.gskip (want_f rfl rfl (show _ = Value.bool (decide (x33 < x40)) from rfl) hq47) ?_
        refine mixE.gskip (want_f rfl rfl (show _ = Value.bool (decide (x33 < x40)) from rfl) hq47) ?_
        refine mixE.gskip (want_f rfl rfl (show _ = Value.bool (decide (x33 < x40)) from rfl) hq47) ?_
        refine mixE.gskip (want_f rfl rfl (show _ = Value.bool (decide (x33 < x40)) from rfl) hq47) ?_
        refine mixE.gskip (want_f rfl rfl (show _ = Value.bool (decide (x33 < x40)) from rfl) hq47) ?_
        refine mixE.gskip (want_f rfl rfl (show _ = Value.bool (decide (x33 < x40)) from rfl) hq47) ?_
        refine mixE.gskip (want_f rfl rfl (show _ = Value.bool (decide (x33 < x40)) from rfl) hq47) ?_
        refine mixE.gskip (want_f rfl rfl (show _ = Value.bool (decide (x33 < x40)) from rfl) hq47) ?_
        refine mixE.pure (v := .bool true) (pu_pickT (q := (decide (x33 < x40))) rfl hq47 rfl) ?_
        refine mixE.nil ?_
        clear hS hM
        refine hK28 _ _ ?_
        refine Wc.fresh fun E48 hE => ?_
        have e0 : E48 0 = .slice Abefore_0 before_0.length cbefore_0 := (congrFun hE 0).trans e0
        have e1 : E48 1 = .slice (some ad35) after_1.length cafter_1 := (congrFun hE 1).trans e1
        have e4 : E48 4 = .bool false := (congrFun hE 4).trans e4
        have e5 : E48 5 = .bool v5_0 := (congrFun hE 5).trans e5
        have e6 : E48 6 = .slice A8 y6.length c10 := (congrFun hE 6).trans e6
        have e7 : E48 7 = .int .i64 v7_0 := (congrFun hE 7).trans e7
        have e13 : E48 13 = .bool (decide (v7_0 < (after_1.length : Int))) := (congrFun hE 13).trans rfl
        have e35 : E48 35 = .bool true := (congrFun hE 35).trans rfl
        clear hE
        refine Wc.cond_true (e35) ?_
        refine Wc.seq fun K49 hK49 => ?_
        refine Wc.region (by decide +kernel) ?_
        refine lex.pure (v := .int .i64 v7_0) (pu_move e7) ?_
        obtain ⟨z50, h51, hb⟩ := bd hb
        refine lex.pure (v := .int .i64 z50) (pu_addc (a := v7_0) (b := 1) rfl rfl h51) ?_
        refine lex.pure (v := .int .i64 z50) (pu_assign rfl) ?_
        refine lex.nil ?_
        refine hK49 _ _ ?_
        refine Wc.exit rfl ?_
        obtain rfl := Option.some.inj hb
        exact hK19 m20' _ _ (Nat.lt_succ_self _) ⟨v5_0, z50, qf2_0, qf11_0, e0, e1, e4, e5, e6, rfl, (chk_rng h51), hC.sel [0, 1, 2] (by decide), lN hl0⟩
      · replace hb := (cF hq47).symm.trans hb
        refine mixE.gpure rfl (want_t rfl rfl (show _ = Value.bool (decide (x33 < x40)) from rfl) hq47) (v := .slice A8 y6.length c10) (pu_move e6) ?_
        refine mixE.gpure rfl (want_t rfl rfl (show _ = Value.bool (decide (x33 < x40)) from rfl) hq47) (v := .int .i64 v7_0) (pu_move e7) ?_
        obtain ⟨z52, h53, hb⟩ := bd hb
        refine mixE.gpure rfl (want_t rfl rfl (show _ = Value.bool (decide (x33 < x40)) from rfl) hq47) (v := .int .i64 z52) (pu_subc (a := v7_0) (b := 1) rfl rfl h53) ?_
        obtain ⟨x54, h55, hb⟩ := bd hb
        obtain ⟨ad56, cs57, hA, ho60, hc58, hr59⟩ := hS.elo2 (i := 2) rfl (get_some h55).2 [] (by decide)
        subst hA
        refine mixE.gpure rfl (want_t rfl rfl (show _ = Value.bool (decide (x33 < x40)) from rfl) hq47) (v := .pointer (some (ad56.add (z52.toNat * 1)))) (pu_index (a := z52) Try.underlying52 Try.sizeOf3 rfl rfl (by rw [(hC.ow (i := 2) rfl).sl_len.1]; exact (get_some h55).1)) ?_
        obtain ⟨rfl, hr59'⟩ := hr59
        refine mixE.gload rfl (want_t rfl rfl (show _ = Value.bool (decide (x33 < x40)) from rfl) hq47) hM (v := .int .i64 x54) (fun _ hF => ld_one Try.isAgg3 rfl (hF.cell (hc58 0 _ rfl) (off1 ho60))) ?_
        refine mixE.gpure rfl (want_t rfl rfl (show _ = Value.bool (decide (x33 < x40)) from rfl) hq47) (v := .slice (some ad56) y6.length c10) (pu_move e6) ?_
        refine mixE.gpure rfl (want_t rfl rfl (show _ = Value.bool (decide (x33 < x40)) from rfl) hq47) (v := .int .i64 v7_0) (pu_move e7) ?_
        obtain ⟨x61, h62, hb⟩ := bd hb
        obtain ⟨ad63, cs64, hA, ho67, hc65, hr66⟩ := hS.elo2 (i := 2) rfl (get_some h62).2 [] (by decide)
        obtain rfl := Option.some.inj hA
        refine mixE.gpure rfl (want_t rfl rfl (show _ = Value.bool (decide (x33 < x40)) from rfl) hq47) (v := .pointer (some (ad56.add (v7_0.toNat * 1)))) (pu_index (a := v7_0) Try.underlying52 Try.sizeOf3 rfl rfl (by rw [(hC.ow (i := 2) rfl).sl_len.1]; exact (get_some h62).1)) ?_
        obtain ⟨rfl, hr66'⟩ := hr66
        refine mixE.gload rfl (want_t rfl rfl (show _ = Value.bool (decide (x33 < x40)) from rfl) hq47) hM (v := .int .i64 x61) (fun _ hF => ld_one Try.isAgg3 rfl (hF.cell (hc65 0 _ rfl) (off1 ho67))) ?_
        refine mixE.gpure rfl (want_t rfl rfl (show _ = Value.bool (decide (x33 < x40)) from rfl) hq47) (v := .bool (decide (x61 < x54))) (pu_gtr (k := .i64) (a := x54) (b := x61) rfl rfl) ?_
        refine mixE.pure (v := .bool (decide (x61 < x54))) (pu_pickF (q := (decide (x33 < x40))) rfl hq47 rfl) ?_
        refine mixE.nil ?_
        clear hS hM
        refine hK28 _ _ ?_
        refine Wc.fresh fun E68 hE => ?_
        have e0 : E68 0 = .slice Abefore_0 before_0.length cbefore_0 := (congrFun hE 0).trans e0
        have e1 : E68 1 = .slice (some ad35) after_1.length cafter_1 := (congrFun hE 1).trans e1
        have e4 : E68 4 = .bool false := (congrFun hE 4).trans e4
        have e5 : E68 5 = .bool v5_0 := (congrFun hE 5).trans e5
        have e6 : E68 6 = .slice (some ad56) y6.length c10 := (congrFun hE 6).trans e6
        have e7 : E68 7 = .int .i64 v7_0 := (congrFun hE 7).trans e7
        have e13 : E68 13 = .bool (decide (v7_0 < (after_1.length : Int))) := (congrFun hE 13).trans rfl
        have e35 : E68 35 = .bool (decide (x61 < x54)) := (congrFun hE 35).trans rfl
        clear hE
        refine Wc.cond (t := (decide (x61 < x54))) (e35) (fun hq69 => ?_) (fun hq69 => ?_)
        · replace hb := (cT hq69).symm.trans hb
          refine Wc.seq fun K70 hK70 => ?_
          refine Wc.region (by decide +kernel) ?_
          refine lex.pure (v := .int .i64 v7_0) (pu_move e7) ?_
          obtain ⟨z71, h72, hb⟩ := bd hb
          refine lex.pure (v := .int .i64 z71) (pu_addc (a := v7_0) (b := 1) rfl rfl h72) ?_
          refine lex.pure (v := .int .i64 z71) (pu_assign rfl) ?_
          refine lex.nil ?_
          refine hK70 _ _ ?_
          refine Wc.exit rfl ?_
          obtain rfl := Option.some.inj hb
          exact hK19 m20' _ _ (Nat.lt_succ_self _) ⟨v5_0, z71, qf2_0, qf11_0, e0, e1, e4, e5, e6, rfl, (chk_rng h72), hC.sel [0, 1, 2] (by decide), lN hl0⟩
        · replace hb := (cF hq69).symm.trans hb
          refine Wc.skip ?_
          refine hK27 _ _ ?_
          refine Wc.seq fun K73 hK73 => ?_
          refine Wc.regionMix [] (frm [] ([] : List Fact) [.own 3 (.int .i64) (.slice (some ad35) after_1.length cafter_1) qf2_0]) (fun _ => rfl) mixed (by decide +kernel) (by decide +kernel) fun w75 hw74 => ?_
          replace hC := hC.step (Fr.of_drew hw74)
          have hM := Fr.refl (fun k => k ∈ blocks ([] : List Fact)) w75
          clear hw74
          have hS := hC
          have hD : Fr (fun k => k ∈ blocks (([] : List Fact) ++ [.own 3 (.int .i64) (.slice (some ad35) after_1.length cafter_1) qf2_0])) w75 w75 := hM.wide
          have hUf2 : Beside (([] : List Fact) ++ [.own 3 (.int .i64) (.slice (some ad35) after_1.length cafter_1) qf2_0]) w75 (.slice (some ad35) after_1.length cafter_1) := Beside.of (i := 0) rfl
          refine mixE.pure (v := .slice (some ad35) after_1.length cafter_1) (pu_move e1) ?_
          refine mixE.pure (v := .int .i64 v7_0) (pu_move e7) ?_
          obtain ⟨z76, h77, hb⟩ := bd hb
          refine mixE.pure (v := .int .i64 z76) (pu_subc (a := v7_0) (b := 1) rfl rfl h77) ?_
          refine mixE.pure (v := .slice (some ad35) after_1.length cafter_1) (pu_move e1) ?_
          refine mixE.pure (v := .int .i64 v7_0) (pu_move e7) ?_
          refine mixE.pure (v := .slice (some ad35) after_1.length cafter_1) (pu_move e1) ?_
          refine mixE.pure (v := .int .i64 v7_0) (pu_move e7) ?_
          obtain ⟨x78, h79, hb⟩ := bd hb
          obtain ⟨ad80, cs81, hA, ho84, hc82, hr83⟩ := hS.elo2 (i := 1) rfl (get_some h79).2 [] (by decide)
          obtain rfl := Option.some.inj hA
          refine mixE.pure (v := .pointer (some (ad35.add (v7_0.toNat * 1)))) (pu_index (a := v7_0) Try.underlying52 Try.sizeOf3 rfl rfl (by rw [(hC.ow (i := 1) rfl).sl_len.1]; exact (get_some h79).1)) ?_
          obtain ⟨rfl, hr83'⟩ := hr83
          refine mixE.load hM (v := .int .i64 x78) (fun _ hF => ld_one Try.isAgg3 rfl (hF.cell (hc82 0 _ rfl) (off1 ho84))) ?_
          refine mixE.pure (v := .slice (some ad35) after_1.length cafter_1) (pu_move e1) ?_
          refine mixE.pure (v := .int .i64 v7_0) (pu_move e7) ?_
          obtain ⟨z85, h86, hb⟩ := bd hb
          refine mixE.pure (v := .int .i64 z85) (pu_subc (a := v7_0) (b := 1) rfl rfl h86) ?_
          obtain ⟨x87, h88, hb⟩ := bd hb
          obtain ⟨ad89, cs90, hA, ho93, hc91, hr92⟩ := hS.elo2 (i := 1) rfl (get_some h88).2 [] (by decide)
          obtain rfl := Option.some.inj hA
          refine mixE.pure (v := .pointer (some (ad35.add (z85.toNat * 1)))) (pu_index (a := z85) Try.underlying52 Try.sizeOf3 rfl rfl (by rw [(hC.ow (i := 1) rfl).sl_len.1]; exact (get_some h88).1)) ?_
          obtain ⟨rfl, hr92'⟩ := hr92
          refine mixE.load hM (v := .int .i64 x87) (fun _ hF => ld_one Try.isAgg3 rfl (hF.cell (hc91 0 _ rfl) (off1 ho93))) ?_
          obtain ⟨x94, h95, hb⟩ := bd hb
          obtain ⟨ad96, cs97, hA, ho100, hc98, hr99⟩ := hS.elo2 (i := 1) rfl (get_some h95).2 [] (by decide)
          obtain rfl := Option.some.inj hA
          refine mixE.pure (v := .pointer (some (ad35.add (z76.toNat * 1)))) (pu_index (a := z76) Try.underlying52 Try.sizeOf3 rfl rfl (by rw [(hC.ow (i := 1) rfl).sl_len.1]; exact (get_some h95).1)) ?_
          refine mixE.sk hD (hC.put (i := 1) rfl rfl Try.sizeOf3 (k := z76.toNat) (a := x78) (by have := (get_some h95).1; simp at this ⊢; omega) (⟨rfl, I64.wr (wrap_I64 hr83')⟩) rfl rfl rfl) ?_
          rintro w101 ⟨hC, hF⟩
          replace hD := hD.beside hUf2 hF
          clear hF
          refine ⟨hD, ?_⟩
          obtain ⟨x102, h103, hb⟩ := bd hb
          obtain ⟨ad104, cs105, hA, hc106, hr107⟩ := hC.elo (i := 1) rfl (get_some h103).2
          obtain rfl := Option.some.inj hA
          refine mixE.pure (v := .pointer (some (ad35.add (v7_0.toNat * 1)))) (pu_index (a := v7_0) Try.underlying52 Try.sizeOf3 rfl rfl (by rw [(hC.ow (i := 1) rfl).sl_len.1]; exact (get_some h103).1)) ?_
          refine mixE.sk hD (hC.put (i := 1) rfl rfl Try.sizeOf3 (k := v7_0.toNat) (a := x87) (by have := (get_some h103).1; simp at this ⊢; omega) (⟨rfl, I64.wr (wrap_I64 hr92')⟩) rfl rfl rfl) ?_
          rintro w108 ⟨hC, hF⟩
          replace hD := hD.beside hUf2 hF
          clear hF
          refine ⟨hD, ?_⟩
          refine mixE.nil ?_
          clear hS hM
          clear hD
          refine hK73 _ _ ?_
          refine Wc.fresh fun E109 hE => ?_
          have e0 : E109 0 = .slice Abefore_0 before_0.length cbefore_0 := (congrFun hE 0).trans e0
          have e1 : E109 1 = .slice (some ad35) after_1.length cafter_1 := (congrFun hE 1).trans e1
          have e4 : E109 4 = .bool false := (congrFun hE 4).trans e4
          have e5 : E109 5 = .bool v5_0 := (congrFun hE 5).trans e5
          have e6 : E109 6 = .slice (some ad56) y6.length c10 := (congrFun hE 6).trans e6
          have e7 : E109 7 = .int .i64 v7_0 := (congrFun hE 7).trans e7
          have e13 : E109 13 = .bool (decide (v7_0 < (after_1.length : Int))) := (congrFun hE 13).trans e13
          have e35 : E109 35 = .bool (decide (x61 < x54)) := (congrFun hE 35).trans e35
          clear hE
          refine Wc.seq fun K110 hK110 => ?_
          refine Wc.regionMix [] (frm [] ([] : List Fact) [.own 3 (.int .i64) (.slice (some ad56) y6.length c10) qf11_0]) (fun _ => rfl) mixed (by decide +kernel) (by decide +kernel) fun w112 hw111 => ?_
          replace hC := hC.step (Fr.of_drew hw111)
          have hM := Fr.refl (fun k => k ∈ blocks ([] : List Fact)) w112
          clear hw111
          have hS := hC
          have hD : Fr (fun k => k ∈ blocks (([] : List Fact) ++ [.own 3 (.int .i64) (.slice (some ad56) y6.length c10) qf11_0])) w112 w112 := hM.wide
          have hUf11 : Beside (([] : List Fact) ++ [.own 3 (.int .i64) (.slice (some ad56) y6.length c10) qf11_0]) w112 (.slice (some ad56) y6.length c10) := Beside.of (i := 0) rfl
          refine mixE.pure (v := .slice (some ad56) y6.length c10) (pu_move e6) ?_
          refine mixE.pure (v := .int .i64 v7_0) (pu_move e7) ?_
          obtain ⟨z113, h114, hb⟩ := bd hb
          refine mixE.pure (v := .int .i64 z113) (pu_subc (a := v7_0) (b := 1) rfl rfl h114) ?_
          refine mixE.pure (v := .slice (some ad56) y6.length c10) (pu_move e6) ?_
          refine mixE.pure (v := .int .i64 v7_0) (pu_move e7) ?_
          refine mixE.pure (v := .slice (some ad56) y6.length c10) (pu_move e6) ?_
          refine mixE.pure (v := .int .i64 v7_0) (pu_move e7) ?_
          obtain ⟨x115, h116, hb⟩ := bd hb
          obtain ⟨ad117, cs118, hA, ho121, hc119, hr120⟩ := hS.elo2 (i := 2) rfl (get_some h116).2 [] (by decide)
          obtain rfl := Option.some.inj hA
          refine mixE.pure (v := .pointer (some (ad56.add (v7_0.toNat * 1)))) (pu_index (a := v7_0) Try.underlying52 Try.sizeOf3 rfl rfl (by rw [(hC.ow (i := 2) rfl).sl_len.1]; exact (get_some h116).1)) ?_
          obtain ⟨rfl, hr120'⟩ := hr120
          refine mixE.load hM (v := .int .i64 x115) (fun _ hF => ld_one Try.isAgg3 rfl (hF.cell (hc119 0 _ rfl) (off1 ho121))) ?_
          refine mixE.pure (v := .slice (some ad56) y6.length c10) (pu_move e6) ?_
          refine mixE.pure (v := .int .i64 v7_0) (pu_move e7) ?_
          obtain ⟨z122, h123, hb⟩ := bd hb
          refine mixE.pure (v := .int .i64 z122) (pu_subc (a := v7_0) (b := 1) rfl rfl h123) ?_
          obtain ⟨x124, h125, hb⟩ := bd hb
          obtain ⟨ad126, cs127, hA, ho130, hc128, hr129⟩ := hS.elo2 (i := 2) rfl (get_some h125).2 [] (by decide)
          obtain rfl := Option.some.inj hA
          refine mixE.pure (v := .pointer (some (ad56.add (z122.toNat * 1)))) (pu_index (a := z122) Try.underlying52 Try.sizeOf3 rfl rfl (by rw [(hC.ow (i := 2) rfl).sl_len.1]; exact (get_some h125).1)) ?_
          obtain ⟨rfl, hr129'⟩ := hr129
          refine mixE.load hM (v := .int .i64 x124) (fun _ hF => ld_one Try.isAgg3 rfl (hF.cell (hc128 0 _ rfl) (off1 ho130))) ?_
          obtain ⟨x131, h132, hb⟩ := bd hb
          obtain ⟨ad133, cs134, hA, ho137, hc135, hr136⟩ := hS.elo2 (i := 2) rfl (get_some h132).2 [] (by decide)
          obtain rfl := Option.some.inj hA
          refine mixE.pure (v := .pointer (some (ad56.add (z113.toNat * 1)))) (pu_index (a := z113) Try.underlying52 Try.sizeOf3 rfl rfl (by rw [(hC.ow (i := 2) rfl).sl_len.1]; exact (get_some h132).1)) ?_
          refine mixE.sk hD (hC.put (i := 2) rfl rfl Try.sizeOf3 (k := z113.toNat) (a := x115) (by have := (get_some h132).1; simp at this ⊢; omega) (⟨rfl, I64.wr (wrap_I64 hr120')⟩) rfl rfl rfl) ?_
          rintro w138 ⟨hC, hF⟩
          replace hD := hD.beside hUf11 hF
          clear hF
          refine ⟨hD, ?_⟩
          obtain ⟨x139, h140, hb⟩ := bd hb
          obtain ⟨ad141, cs142, hA, hc143, hr144⟩ := hC.elo (i := 2) rfl (get_some h140).2
          obtain rfl := Option.some.inj hA
          refine mixE.pure (v := .pointer (some (ad56.add (v7_0.toNat * 1)))) (pu_index (a := v7_0) Try.underlying52 Try.sizeOf3 rfl rfl (by rw [(hC.ow (i := 2) rfl).sl_len.1]; exact (get_some h140).1)) ?_
          refine mixE.sk hD (hC.put (i := 2) rfl rfl Try.sizeOf3 (k := v7_0.toNat) (a := x124) (by have := (get_some h140).1; simp at this ⊢; omega) (⟨rfl, I64.wr (wrap_I64 hr129')⟩) rfl rfl rfl) ?_
          rintro w145 ⟨hC, hF⟩
          replace hD := hD.beside hUf11 hF
          clear hF
          refine ⟨hD, ?_⟩
          refine mixE.nil ?_
          clear hS hM
          clear hD
          refine hK110 _ _ ?_
          refine Wc.fresh fun E146 hE => ?_
          have e0 : E146 0 = .slice Abefore_0 before_0.length cbefore_0 := (congrFun hE 0).trans e0
          have e1 : E146 1 = .slice (some ad35) after_1.length cafter_1 := (congrFun hE 1).trans e1
          have e4 : E146 4 = .bool false := (congrFun hE 4).trans e4
          have e5 : E146 5 = .bool v5_0 := (congrFun hE 5).trans e5
          have e6 : E146 6 = .slice (some ad56) y6.length c10 := (congrFun hE 6).trans e6
          have e7 : E146 7 = .int .i64 v7_0 := (congrFun hE 7).trans e7
          have e13 : E146 13 = .bool (decide (v7_0 < (after_1.length : Int))) := (congrFun hE 13).trans e13
          have e35 : E146 35 = .bool (decide (x61 < x54)) := (congrFun hE 35).trans e35
          clear hE
          refine Wc.seq fun K147 hK147 => ?_
          refine Wc.region (by decide +kernel) ?_
          refine lex.pure (v := .bool true) (pu_assign rfl) ?_
          refine lex.nil ?_
          refine hK147 _ _ ?_
          refine Wc.region (by decide +kernel) ?_
          refine lex.pure (v := .int .i64 v7_0) (pu_move e7) ?_
          obtain ⟨z148, h149, hb⟩ := bd hb
          refine lex.pure (v := .int .i64 z148) (pu_subc (a := v7_0) (b := 1) rfl rfl h149) ?_
          refine lex.pure (v := .int .i64 (max 1 z148)) (pu_max (a := 1) (b := z148) rfl rfl) ?_
          refine lex.pure (v := .int .i64 (max 1 z148)) (pu_assign rfl) ?_
          refine lex.nil ?_
          obtain rfl := Option.some.inj hb
          exact hK19 m20' _ _ (Nat.lt_succ_self _) ⟨true, (max 1 z148), ((qf2_0.set z76.toNat x78).set v7_0.toNat x87), ((qf11_0.set z113.toNat x115).set v7_0.toNat x124), e0, e1, e4, rfl, e6, rfl, (I64.max (show I64 1 from by unfold I64; omega) (chk_rng h149)), hC.sel [0, 1, 2] (by decide), lN hl0⟩
    · replace hb := (cF hq26).symm.trans hb
      refine Wc.exit rfl ?_
      obtain rfl := Option.some.inj hb
      obtain rfl := (lX hl0).symm
      exact hK18 _ _ ⟨v5_0, v7_0, qf2_0, qf11_0, e0, e4, e5, e6, hrv7_0, hC.sel [0, 2, 1] (by decide), hbK0⟩
  · clear hb hC hl0
    rintro E151 w150 ⟨v5_0, v7_0, qf2_0, qf11_0, e0, e4, e5, e6, hrv7_0, hC, hb⟩
    refine hK15 _ _ ?_
    refine Wc.seq fun K152 hK152 => ?_
    refine Wc.region (by decide +kernel) ?_
    refine lex.pure (v := .slice Abefore_0 before_0.length cbefore_0) (pu_move e0) ?_
    refine lex.pure (v := .slice A8 y6.length c10) (pu_move e6) ?_
    obtain ⟨y153, h154, hb⟩ := bd hb
    refine lex.cl (⟨_, _, op_call (vs := [.slice A8 y6.length c10]) Try.call80 rfl rfl rfl, perm_Inverse_ok n (hC.lentLt [.slice A8 y6.length c10]) ((hC.ow (i := 1) rfl).lend (vs := [.slice A8 y6.length c10]) (by simp)) h154⟩) ?_
    rintro _ w159 ⟨A155, m156, c157, rfl, hK⟩
    replace hC := hC.mergeF hK rfl
    clear hK
    obtain ⟨rfl, hl160, hc161⟩ := (hC.ow (i := 0) rfl).sl_len
    refine lex.op (hC.copy (i := 1) (s := (.int .i64)) (xs := before_0) (ys := y153) (m := y153.length) rfl rfl Try.underlying52 (congrArg (Option.map (·.size)) Try.type3) (hC.srco (i := 0) rfl) rfl rfl) ?_
    rintro _ w162 ⟨rfl, hC, hF⟩
    clear hF
    refine lex.nil ?_
    refine hK152 _ _ ?_
    refine Wc.seq fun K163 hK163 => ?_
    refine Wc.region (by decide +kernel) ?_
    refine lex.pure (v := .bool v5_0) (pu_move e5) ?_
    refine lex.pure (v := .bool v5_0) (pu_assign rfl) ?_
    refine lex.nil ?_
    refine hK163 _ _ ?_
    obtain rfl := Option.some.inj hb
    subst hI
    refine Wc.ret ?_
    refine hKR _ _ ?_
    refine ⟨_, res1 Try.results84 (show RV _ _ _ (.tmp _) (.bool v5_0) from rfl), _, rfl, rfl, hC.sel [1, 3] (by decide)⟩
end Go.Proofs.Ytlkmcbgkohpmiaa
