/- The walks: part 19. -/
import Derived.Test.YtkeaonceaaafcaaS
import Derived.Test.YtkeaonceaaafcaaG0
set_option linter.unusedVariables false
set_option linter.unusedSimpArgs false
namespace Go.Proofs.Ytkeaonceaaafcaa
open Ev
set_option maxRecDepth 100000 in
set_option maxHeartbeats 4000000 in
theorem ref34_Inversions_ok (n : Nat) {w : World} {O0 : List Nat} (hO : ∀ k ∈ O0, k < w.heap.size) {Ap_0 : Option Addr} {mp_0 cp_0 : Nat} {p_0 : List Int} (hp_0 : Rep O0 w (.sl (.int .i64)) [.slice Ap_0 mp_0 cp_0] p_0) {r : Int} (hb : F.ref34_Inversions n p_0 = some r) :
    Calls Try.prog 26 #[.slice Ap_0 mp_0 cp_0] w fun e w' => ∃ v, e = .returned v ∧ v = .int .i64 r ∧ I64 r ∧ Cx (fun _ => False) O0 w w' [] := by
  unfold F.ref34_Inversions at hb
  have hC := Cx.start hO
  replace hC := hC.arg rfl hp_0
  clear hO
  obtain ⟨rfl, hlp_0, hcp_0⟩ := hp_0.sl_len
  refine calls_of_Wc Try.func26 rfl (by rw [Try.ntmps26]; exact Nat.le_of_ble_eq_true rfl) fun KR hKR => ?_
  refine Wc.seq fun K2 hK2 => ?_
  refine Wc.region (by decide +kernel) ?_
  refine lex.pure (v := .int .i64 0) (pu_assign rfl) ?_
  refine lex.nil ?_
  refine hK2 _ _ ?_
  refine Wc.seq fun K3 hK3 => ?_
  refine Wc.region (by decide +kernel) ?_
  refine lex.pure (v := .int .i64 0) (pu_assign rfl) ?_
  refine lex.nil ?_
  refine hK3 _ _ ?_
  refine Wc.seq fun K4 hK4 => ?_
  refine Wc.seq fun K5 hK5 => ?_
  refine Wc.region (by decide +kernel) ?_
  refine lex.pure (v := .int .i64 0) (pu_assign rfl) ?_
  refine lex.nil ?_
  refine hK5 _ _ ?_
  obtain ⟨o6, hl0, hb⟩ := bd hb
  refine Wc.cut (fun E wv => ∃ (v3_0 : Int) (v4_0 : Int), E 2 = .int .i64 0 ∧ E 3 = .int .i64 v3_0 ∧ I64 v3_0 ∧ I64 v4_0 ∧ Cx (fun _ => False) O0 w wv [] ∧ (some v3_0) = some r) (fun K7 hK7 => ?_) ?_
  · refine Wc.block ?_
    refine Wc.loop (fun m E wv => ∃ (v3_0 : Int) (v4_0 : Int), E 0 = .slice Ap_0 p_0.length cp_0 ∧ E 2 = .int .i64 0 ∧ E 3 = .int .i64 v3_0 ∧ E 4 = .int .i64 v4_0 ∧ I64 v3_0 ∧ I64 v4_0 ∧ Cx (fun _ => False) O0 w wv [.ro (.sl (.int .i64)) [.slice Ap_0 p_0.length cp_0] p_0] ∧ loopN m (F.ref34_Inversions_b0 n p_0) (v3_0, v4_0) = some o6) n ⟨0, 0, rfl, rfl, rfl, rfl, (show I64 0 from by unfold I64; omega), (show I64 0 from by unfold I64; omega), hC.sel [0] (by decide), hl0⟩ ?_
    have hbK0 := hb
    clear hb hC hl0
    rintro m9 E11 w10 ⟨v3_0, v4_0, e0, e2, e3, e4, hrv3_0, hrv4_0, hC, hl0⟩ K8 hK8
    obtain ⟨m9', o12, rfl, hb, hl0⟩ := loopN_some hl0
    unfold F.ref34_Inversions_b0 at hb
    refine Wc.seq fun K13 hK13 => ?_
    refine Wc.seq fun K14 hK14 => ?_
    refine Wc.region (by decide +kernel) ?_
    refine lex.pure (v := .int .i64 v4_0) (pu_move e4) ?_
    refine lex.pure (v := .slice Ap_0 p_0.length cp_0) (pu_move e0) ?_
    refine lex.pure (v := .int .i64 (p_0.length : Int)) (pu_len (A := Ap_0) (n := p_0.length) (m := cp_0) Try.underlying22 rfl) ?_
    refine lex.pure (v := .bool (decide (v4_0 < (p_0.length : Int)))) (pu_lss (k := .i64) (a := v4_0) (b := (p_0.length : Int)) rfl rfl) ?_
    refine lex.nil ?_
    refine hK14 _ _ ?_
    refine Wc.cond (t := (decide (v4_0 < (p_0.length : Int)))) (rfl) (fun hq15 => ?_) (fun hq15 => ?_)
    · replace hb := (cT hq15).symm.trans hb
      refine Wc.skip ?_
      refine hK13 _ _ ?_
      refine Wc.seq fun K16 hK16 => ?_
      refine Wc.block ?_
      refine Wc.seq fun K17 hK17 => ?_
      refine Wc.region (by decide +kernel) ?_
      refine lex.pure (v := .int .i64 v4_0) (pu_move e4) ?_
      obtain ⟨z18, h19, hb⟩ := bd hb
      refine lex.pure (v := .int .i64 z18) (pu_addc (a := v4_0) (b := 1) rfl rfl h19) ?_
      refine lex.pure (v := .int .i64 z18) (pu_assign rfl) ?_
      refine lex.nil ?_
      refine hK17 _ _ ?_
      obtain ⟨o20, hl1, hb⟩ := bd hb
      refine Wc.cut (fun E wv => ∃ (v3_1 : Int) (v5_1 : Int), E 0 = .slice Ap_0 p_0.length cp_0 ∧ E 2 = .int .i64 0 ∧ E 3 = .int .i64 v3_1 ∧ E 4 = .int .i64 v4_0 ∧ E 5 = .int .i64 v5_1 ∧ E 9 = .bool (decide (v4_0 < (p_0.length : Int))) ∧ I64 v3_1 ∧ I64 v5_1 ∧ Cx (fun _ => False) O0 w wv [.ro (.sl (.int .i64)) [.slice Ap_0 p_0.length cp_0] p_0] ∧ ((chk (v4_0 + 1)).bind fun z58 => some (.inl (v3_1, z58))) = some o12) (fun K21 hK21 => ?_) ?_
      · refine Wc.block ?_
        refine Wc.loop (fun m E wv => ∃ (v3_1 : Int) (v5_1 : Int), E 0 = .slice Ap_0 p_0.length cp_0 ∧ E 2 = .int .i64 0 ∧ E 3 = .int .i64 v3_1 ∧ E 4 = .int .i64 v4_0 ∧ E 5 = .int .i64 v5_1 ∧ E 9 = .bool (decide (v4_0 < (p_0.length : Int))) ∧ I64 v3_1 ∧ I64 v5_1 ∧ Cx (fun _ => False) O0 w wv [.ro (.sl (.int .i64)) [.slice Ap_0 p_0.length cp_0] p_0] ∧ loopN m (F.ref34_Inversions_b1 n p_0 v4_0) (v3_1, v5_1) = some o20) n ⟨v3_0, z18, e0, e2, e3, e4, rfl, rfl, hrv3_0, (chk_rng h19), hC.sel [0] (by decide), hl1⟩ ?_
        have hbK1 := hb
        clear hb hC hl1
        rintro m23 E25 w24 ⟨v3_1, v5_1, e0, e2, e3, e4, e5, e9, hrv3_1, hrv5_1, hC, hl1⟩ K22 hK22
        obtain ⟨m23', o26, rfl, hb, hl1⟩ := loopN_some hl1
        unfold F.ref34_Inversions_b1 at hb
        refine Wc.seq fun K27 hK27 => ?_
        refine Wc.seq fun K28 hK28 => ?_
        refine Wc.region (by decide +kernel) ?_
        refine lex.pure (v := .int .i64 v5_1) (pu_move e5) ?_
        refine lex.pure (v := .slice Ap_0 p_0.length cp_0) (pu_move e0) ?_
        refine lex.pure (v := .int .i64 (p_0.length : Int)) (pu_len (A := Ap_0) (n := p_0.length) (m := cp_0) Try.underlying22 rfl) ?_
        refine lex.pure (v := .bool (decide (v5_1 < (p_0.length : Int)))) (pu_lss (k := .i64) (a := v5_1) (b := (p_0.length : Int)) rfl rfl) ?_
        refine lex.nil ?_
        refine hK28 _ _ ?_
        refine Wc.cond (t := (decide (v5_1 < (p_0.length : Int)))) (rfl) (fun hq29 => ?_) (fun hq29 => ?_)
        · replace hb := (cT hq29).symm.trans hb
          refine Wc.skip ?_
          refine hK27 _ _ ?_
          refine Wc.seq fun K30 hK30 => ?_
          refine Wc.block ?_
          refine Wc.seq fun K31 hK31 => ?_
          refine Wc.regionMix [] (frm [] ([] : List Fact) ([] : List Fact)) (fun _ => rfl) mixed (by decide +kernel) (by decide +kernel) fun w33 hw32 => ?_
          replace hC := hC.step (Fr.of_drew hw32)
          have hM := Fr.refl (fun k => k ∈ blocks ([] : List Fact)) w33
          clear hw32
          have hS := hC
          refine mixE.pure (v := .slice Ap_0 p_0.length cp_0) (pu_move e0) ?_
          refine mixE.pure (v := .int .i64 v4_0) (pu_move e4) ?_
          obtain ⟨x34, h35, hb⟩ := bd hb
          obtain ⟨ad36, cs37, hA, ho40, hc38, hr39⟩ := hS.elr2 (i := 0) rfl (get_some h35).2 []
          subst hA
          refine mixE.pure (v := .pointer (some (ad36.add (v4_0.toNat * 1)))) (pu_index (a := v4_0) Try.underlying22 Try.sizeOf3 rfl rfl (get_some h35).1) ?_
          obtain ⟨rfl, hr39'⟩ := hr39
          refine mixE.load hM (v := .int .i64 x34) (fun _ hF => ld_one Try.isAgg3 rfl (hF.cell (hc38 0 _ rfl) (off1 ho40))) ?_
          refine mixE.pure (v := .slice (some ad36) p_0.length cp_0) (pu_move e0) ?_
          refine mixE.pure (v := .int .i64 v5_1) (pu_move e5) ?_
          obtain ⟨x41, h42, hb⟩ := bd hb
          obtain ⟨ad43, cs44, hA, ho47, hc45, hr46⟩ := hS.elr2 (i := 0) rfl (get_some h42).2 []
          obtain rfl := Option.some.inj hA
          refine mixE.pure (v := .pointer (some (ad36.add (v5_1.toNat * 1)))) (pu_index (a := v5_1) Try.underlying22 Try.sizeOf3 rfl rfl (get_some h42).1) ?_
          obtain ⟨rfl, hr46'⟩ := hr46
          refine mixE.load hM (v := .int .i64 x41) (fun _ hF => ld_one Try.isAgg3 rfl (hF.cell (hc45 0 _ rfl) (off1 ho47))) ?_
          refine mixE.pure (v := .bool (decide (x41 < x34))) (pu_gtr (k := .i64) (a := x34) (b := x41) rfl rfl) ?_
          refine mixE.nil ?_
          clear hS hM
          refine hK31 _ _ ?_
          refine Wc.fresh fun E48 hE => ?_
          have e0 : E48 0 = .slice (some ad36) p_0.length cp_0 := (congrFun hE 0).trans e0
          have e2 : E48 2 = .int .i64 0 := (congrFun hE 2).trans e2
          have e3 : E48 3 = .int .i64 v3_1 := (congrFun hE 3).trans e3
          have e4 : E48 4 = .int .i64 v4_0 := (congrFun hE 4).trans e4
          have e5 : E48 5 = .int .i64 v5_1 := (congrFun hE 5).trans e5
          have e9 : E48 9 = .bool (decide (v4_0 < (p_0.length : Int))) := (congrFun hE 9).trans e9
          have e17 : E48 17 = .bool (decide (v5_1 < (p_0.length : Int))) := (congrFun hE 17).trans rfl
          have e28 : E48 28 = .bool (decide (x41 < x34)) := (congrFun hE 28).trans rfl
          clear hE
          refine Wc.cond (t := (decide (x41 < x34))) (e28) (fun hq49 => ?_) (fun hq49 => ?_)
          · replace hb := (cT hq49).symm.trans hb
            refine Wc.region (by decide +kernel) ?_
            refine lex.pure (v := .int .i64 v3_1) (pu_move e3) ?_
            obtain ⟨z50, h51, hb⟩ := bd hb
            refine lex.pure (v := .int .i64 z50) (pu_addc (a := v3_1) (b := 1) rfl rfl h51) ?_
            refine lex.pure (v := .int .i64 z50) (pu_assign rfl) ?_
            refine lex.nil ?_
            refine hK30 _ _ ?_
            refine Wc.region (by decide +kernel) ?_
            refine lex.pure (v := .int .i64 v5_1) (pu_move e5) ?_
            obtain ⟨z52, h53, hb⟩ := bd hb
            refine lex.pure (v := .int .i64 z52) (pu_addc (a := v5_1) (b := 1) rfl rfl h53) ?_
            refine lex.pure (v := .int .i64 z52) (pu_assign rfl) ?_
            refine lex.nil ?_
            obtain rfl := Option.some.inj hb
            exact hK22 m23' _ _ (Nat.lt_succ_self _) ⟨z50, z52, e0, e2, rfl, e4, rfl, e9, (chk_rng h51), (chk_rng h53), hC.sel [0] (by decide), lN hl1⟩
          · replace hb := (cF hq49).symm.trans hb
            refine Wc.skip ?_
            refine hK30 _ _ ?_
            refine Wc.region (by decide +kernel) ?_
            refine lex.pure (v := .int .i64 v5_1) (pu_move e5) ?_
            obtain ⟨z54, h55, hb⟩ := bd hb
            refine lex.pure (v := .int .i64 z54) (pu_addc (a := v5_1) (b := 1) rfl rfl h55) ?_
            refine lex.pure (v := .int .i64 z54) (pu_assign rfl) ?_
            refine lex.nil ?_
            obtain rfl := Option.some.inj hb
            exact hK22 m23' _ _ (Nat.lt_succ_self _) ⟨v3_1, z54, e0, e2, e3, e4, rfl, e9, hrv3_1, (chk_rng h55), hC.sel [0] (by decide), lN hl1⟩
        · replace hb := (cF hq29).symm.trans hb
          refine Wc.exit rfl ?_
          obtain rfl := Option.some.inj hb
          obtain rfl := (lX hl1).symm
          exact hK21 _ _ ⟨v3_1, v5_1, e0, e2, e3, e4, e5, e9, hrv3_1, hrv5_1, hC.sel [0] (by decide), hbK1⟩
      · clear hb hC hl1
        rintro E57 w56 ⟨v3_1, v5_1, e0, e2, e3, e4, e5, e9, hrv3_1, hrv5_1, hC, hb⟩
        refine hK16 _ _ ?_
        refine Wc.region (by decide +kernel) ?_
        refine lex.pure (v := .int .i64 v4_0) (pu_move e4) ?_
        obtain ⟨z58, h59, hb⟩ := bd hb
        refine lex.pure (v := .int .i64 z58) (pu_addc (a := v4_0) (b := 1) rfl rfl h59) ?_
        refine lex.pure (v := .int .i64 z58) (pu_assign rfl) ?_
        refine lex.nil ?_
        obtain rfl := Option.some.inj hb
        exact hK8 m9' _ _ (Nat.lt_succ_self _) ⟨v3_1, z58, e0, e2, e3, rfl, hrv3_1, (chk_rng h59), hC.sel [0] (by decide), lN hl0⟩
    · replace hb := (cF hq15).symm.trans hb
      refine Wc.exit rfl ?_
      obtain rfl := Option.some.inj hb
      obtain rfl := (lX hl0).symm
      exact hK7 _ _ ⟨v3_0, v4_0, e2, e3, hrv3_0, hrv4_0, hC.sel [] (by decide), hbK0⟩
  · clear hb hC hl0
    rintro E61 w60 ⟨v3_0, v4_0, e2, e3, hrv3_0, hrv4_0, hC, hb⟩
    refine hK4 _ _ ?_
    refine Wc.seq fun K62 hK62 => ?_
    refine Wc.region (by decide +kernel) ?_
    refine lex.pure (v := .int .i64 v3_0) (pu_move e3) ?_
    refine lex.pure (v := .int .i64 v3_0) (pu_assign rfl) ?_
    refine lex.nil ?_
    refine hK62 _ _ ?_
    obtain rfl := Option.some.inj hb
    refine Wc.ret ?_
    refine hKR _ _ ?_
    refine ⟨_, res1 Try.results26 (show RV _ _ _ (.tmp _) (.int .i64 v3_0) from rfl), _, rfl, rfl, hrv3_0, hC.sel [] (by decide)⟩

set_option maxRecDepth 100000 in
set_option maxHeartbeats 4000000 in
theorem braid_generator_ok (n : Nat) {w : World} {O0 : List Nat} (hO : ∀ k ∈ O0, k < w.heap.size) {letter_0 : Int} (hletter_0 : I64 letter_0) {r : Int} (hb : F.braid_generator n letter_0 = some r) :
    Calls Try.prog 54 #[.int .i64 letter_0] w fun e w' => ∃ v, e = .returned v ∧ v = .int .i64 r ∧ I64 r ∧ Cx (fun _ => False) O0 w w' [] := by
  unfold F.braid_generator at hb
  have hC := Cx.start hO
  clear hO
  refine calls_of_Wc Try.func54 rfl (by rw [Try.ntmps54]; exact Nat.le_of_ble_eq_true rfl) fun KR hKR => ?_
  refine Wc.seq fun K1 hK1 => ?_
  refine Wc.region (by decide +kernel) ?_
  refine lex.pure (v := .int .i64 0) (pu_assign rfl) ?_
  refine lex.nil ?_
  refine hK1 _ _ ?_
  refine Wc.seq fun K2 hK2 => ?_
  refine Wc.region (by decide +kernel) ?_
  refine lex.pure (v := .int .i64 letter_0) (pu_move rfl) ?_
  refine lex.pure (v := .int .i64 letter_0) (pu_move rfl) ?_
  obtain ⟨z3, h4, hb⟩ := bd hb
  refine lex.pure (v := .int .i64 z3) (pu_negc (a := letter_0) rfl h4) ?_
  refine lex.pure (v := .int .i64 (max letter_0 z3)) (pu_max (a := letter_0) (b := z3) rfl rfl) ?_
  refine lex.pure (v := .int .i64 (max letter_0 z3)) (pu_assign rfl) ?_
  refine lex.nil ?_
  refine hK2 _ _ ?_
  obtain rfl := Option.some.inj hb
  refine Wc.ret ?_
  refine hKR _ _ ?_
  refine ⟨_, res1 Try.results54 (show RV _ _ _ (.tmp _) (.int .i64 (max letter_0 z3)) from rfl), _, rfl, rfl, (I64.max hletter_0 (chk_rng h4)), hC.sel [] (by decide)⟩

set_option maxRecDepth 100000 in
set_option maxHeartbeats 4000000 in
theorem braid_Perm_ok (n : Nat) {w : World} {O0 : List Nat} (hO : ∀ k ∈ O0, k < w.heap.size) {b_0_0 : Int} (hb_0_0 : I64 b_0_0) {Ab_0_1 : Option Addr} {mb_0_1 cb_0_1 : Nat} {b_0_1 : List Int} (hb_0_1 : Rep O0 w (.sl (.int .i64)) [.slice Ab_0_1 mb_0_1 cb_0_1] b_0_1) {r : (List Int)} (hb : F.braid_Perm n b_0_0 b_0_1 = some r) :
    Calls Try.prog 29 #[.agg #[.int .i64 b_0_0, .slice Ab_0_1 mb_0_1 cb_0_1]] w fun e w' => ∃ v, e = .returned v ∧ ∃ (A0 : Option Addr) (m0 c0 : Nat), v = .slice A0 m0 c0 ∧ Cx (fun _ => False) O0 w w' [.own 3 (.int .i64) (.slice A0 m0 c0) r] := by
  unfold F.braid_Perm at hb
  have hC := Cx.start hO
  replace hC := hC.arg rfl hb_0_1
  clear hO
  obtain ⟨rfl, hlb_0_1, hcb_0_1⟩ := hb_0_1.sl_len
  refine calls_of_Wc Try.func29 rfl (by rw [Try.ntmps29]; exact Nat.le_of_ble_eq_true rfl) fun KR hKR => ?_
  refine Wc.seq fun K2 hK2 => ?_
  refine Wc.region (by decide +kernel) ?_
  refine lex.op (hC.box (cs := [.int .i64 b_0_0, .slice Ab_0_1 b_0_1.length cb_0_1]) rfl rfl) ?_
  rintro _ w4 ⟨g3, rfl, hC, hF, hG⟩
  clear hG
  refine lex.pure (v := .slice none 0 0) (pu_assign rfl) ?_
  refine lex.nil ?_
  refine hK2 _ _ ?_
  refine Wc.seq fun K6 hK6 => ?_
  refine Wc.seq fun K7 hK7 => ?_
  refine Wc.region (by decide +kernel) ?_
  refine lex.val (v := .agg #[.int .i64 b_0_0, .slice Ab_0_1 b_0_1.length cb_0_1]) (ld_blk (hC.bx (i := 0) rfl) Try.isAgg24 Try.sizeOf24 rfl) ?_
  obtain ⟨y8, h9, hb⟩ := bd hb
  refine lex.cl (⟨_, _, op_call (vs := [.agg #[.int .i64 b_0_0, .slice Ab_0_1 b_0_1.length cb_0_1]]) Try.call14 rfl rfl rfl, braid_Valid_ok n hC.lt hb_0_0 (hC.rd (i := 1) rfl) h9⟩) ?_
  rintro _ w10 ⟨rfl, hK⟩
  replace hC := hC.merge hK
  clear hK
  refine lex.pure (v := .bool (!y8)) (pu_not (q := y8) rfl) ?_
  refine lex.nil ?_
  refine hK7 _ _ ?_
  refine Wc.cond (t := (!y8)) (rfl) (fun hq11 => ?_) (fun hq11 => ?_)
  · replace hb := (cT hq11).symm.trans hb
    refine Wc.seq fun K12 hK12 => ?_
    refine Wc.region (by decide +kernel) ?_
    refine lex.pure (v := .slice none 0 0) (pu_assign rfl) ?_
    refine lex.nil ?_
    refine hK12 _ _ ?_
    replace hC := hC.nil 3 (.int .i64)
    obtain rfl := Option.some.inj hb
    refine Wc.ret ?_
    refine hKR _ _ ?_
    refine ⟨_, res1 Try.results29 (show RV _ _ _ (.tmp _) (.slice none 0 0) from rfl), _, rfl, none, 0, 0, rfl, hC.sel [0] (by decide)⟩
  · replace hb := (cF hq11).symm.trans hb
    refine Wc.skip ?_
    refine hK6 _ _ ?_
    refine Wc.seq fun K14 hK14 => ?_
    refine Wc.region (by decide +kernel) ?_
    refine lex.pure (v := .pointer (some ((⟨g3, 0, none⟩ : Addr).add 0))) (pu_field (sz := 1) Try.underlying24 rfl Try.sizeOf3 (by decide) rfl rfl) ?_
    refine lex.val (v := .int .i64 b_0_0) (ld_fld (hC.bx (i := 0) rfl) Try.isAgg3 rfl rfl) ?_
    obtain ⟨u15, h16, hb⟩ := bd hb
    refine lex.op (hC.make (s := (.int .i64)) (n := b_0_0) Try.underlying22 Try.type3 rfl rfl rfl rfl rfl (pos_some h16).1 (pos_some h16).2 (by decide)) ?_
    rintro _ w21 ⟨A17, c18, rfl, hl19, hc20, hC, hF, hN⟩
    clear hF hN
    refine lex.pure (v := .slice A17 (((List.replicate b_0_0.toNat (0 : Int))).length) c18) (pu_assign rfl) ?_
    refine lex.nil ?_
    refine hK14 _ _ ?_
    refine Wc.seq fun K23 hK23 => ?_
    refine Wc.seq fun K24 hK24 => ?_
    refine Wc.region (by decide +kernel) ?_
    refine lex.pure (v := .slice A17 (((List.replicate b_0_0.toNat (0 : Int))).length) c18) (pu_move rfl) ?_
    refine lex.pure (v := .int .i64 (((List.replicate b_0_0.toNat (0 : Int))).length : Int)) (pu_len (A := A17) (n := ((List.replicate b_0_0.toNat (0 : Int))).length) (m := c18) Try.underlying22 rfl) ?_
    refine lex.pure (v := .int .i64 0) (pu_move rfl) ?_
    refine lex.nil ?_
    refine hK24 _ _ ?_
    refine Wc.fresh fun E25 hE => ?_
    have e1 : E25 1 = .pointer (some ⟨g3, 0, none⟩) := (congrFun hE 1).trans rfl
    have e2 : E25 2 = .slice none 0 0 := (congrFun hE 2).trans rfl
    have e3 : E25 3 = .slice A17 (((List.replicate b_0_0.toNat (0 : Int))).length) c18 := (congrFun hE 3).trans rfl
    have e18 : E25 18 = .int .i64 (((List.replicate b_0_0.toNat (0 : Int))).length : Int) := (congrFun hE 18).trans rfl
    have e19 : E25 19 = .int .i64 0 := (congrFun hE 19).trans rfl
    clear hE
    obtain ⟨o26, hl0, hb⟩ := bd hb
    refine Wc.cut (fun E wv => ∃ (v19_0 : Int) (qf22_0 : List Int), E 1 = .pointer (some ⟨g3, 0, none⟩) ∧ E 2 = .slice none 0 0 ∧ E 3 = .slice A17 (((List.replicate b_0_0.toNat (0 : Int))).length) c18 ∧ I64 v19_0 ∧ Cx (fun _ => False) O0 w wv [.box g3 24 [.int .i64 b_0_0, .slice Ab_0_1 b_0_1.length cb_0_1], .ro (.sl (.int .i64)) [.slice Ab_0_1 b_0_1.length cb_0_1] b_0_1, .own 3 (.int .i64) (.slice A17 (((List.replicate b_0_0.toNat (0 : Int))).length) c18) qf22_0] ∧ (((loopN n (F.braid_Perm_b1 n b_0_1) (0, qf22_0)).bind fun o51 => match o51 with     | (v30_1, qf22_1) => (pos b_0_0).bind fun u114 => ((loopN n (F.braid_Perm_b2 n b_0_0 qf22_1) (0, (List.replicate b_0_0.toNat (0 : Int)))).bind fun o124 => match o124 with     | (v58_2, qf121_2) => some qf121_2))) = some r) (fun K27 hK27 => ?_) ?_
    · refine Wc.block ?_
      refine Wc.loop (fun m E wv => ∃ (v19_0 : Int) (qf22_0 : List Int), E 1 = .pointer (some ⟨g3, 0, none⟩) ∧ E 2 = .slice none 0 0 ∧ E 3 = .slice A17 (((List.replicate b_0_0.toNat (0 : Int))).length) c18 ∧ E 18 = .int .i64 (((List.replicate b_0_0.toNat (0 : Int))).length : Int) ∧ E 19 = .int .i64 v19_0 ∧ I64 v19_0 ∧ Cx (fun _ => False) O0 w wv [.box g3 24 [.int .i64 b_0_0, .slice Ab_0_1 b_0_1.length cb_0_1], .ro (.sl (.int .i64)) [.slice Ab_0_1 b_0_1.length cb_0_1] b_0_1, .own 3 (.int .i64) (.slice A17 (((List.replicate b_0_0.toNat (0 : Int))).length) c18) qf22_0] ∧ loopN m (F.braid_Perm_b0 n b_0_0) (v19_0, qf22_0) = some o26) n ⟨0, (List.replicate b_0_0.toNat (0 : Int)), e1, e2, e3, e18, e19, (show I64 0 from by unfold I64; omega), hC.sel [1, 2, 0] (by decide), hl0⟩ ?_
      have hbK0 := hb
      clear hb hC hl0
      rintro m29 E31 w30 ⟨v19_0, qf22_0, e1, e2, e3, e18, e19, hrv19_0, hC, hl0⟩ K28 hK28
      obtain ⟨m29', o32, rfl, hb, hl0⟩ := loopN_some hl0
      unfold F.braid_Perm_b0 at hb
      refine Wc.seq fun K33 hK33 => ?_
      refine Wc.region (by decide +kernel) ?_
      refine lex.pure (v := .bool (decide (v19_0 < (((List.replicate b_0_0.toNat (0 : Int))).length : Int)))) (pu_lss (k := .i64) (a := v19_0) (b := (((List.replicate b_0_0.toNat (0 : Int))).length : Int)) e19 e18) ?_
      refine lex.nil ?_
      refine hK33 _ _ ?_
      refine Wc.seq fun K34 hK34 => ?_
      refine Wc.cond (t := (decide (v19_0 < (((List.replicate b_0_0.toNat (0 : Int))).length : Int)))) (rfl) (fun hq35 => ?_) (fun hq35 => ?_)
      · replace hb := (cT hq35).symm.trans hb
        refine Wc.skip ?_
        refine hK34 _ _ ?_
        refine Wc.seq fun K36 hK36 => ?_
        refine Wc.block ?_
        refine Wc.seq fun K37 hK37 => ?_
        refine Wc.region (by decide +kernel) ?_
        refine lex.pure (v := .int .i64 v19_0) (pu_move e19) ?_
        refine lex.pure (v := .int .i64 v19_0) (pu_assign rfl) ?_
        refine lex.nil ?_
        refine hK37 _ _ ?_
        refine Wc.region (by decide +kernel) ?_
        refine lex.pure (v := .slice A17 (((List.replicate b_0_0.toNat (0 : Int))).length) c18) (pu_move e3) ?_
        refine lex.pure (v := .int .i64 v19_0) (pu_move rfl) ?_
        refine lex.pure (v := .int .i64 v19_0) (pu_move rfl) ?_
        obtain ⟨x38, h39, hb⟩ := bd hb
        obtain ⟨ad40, cs41, hA, hc42, hr43⟩ := hC.elo (i := 2) rfl (get_some h39).2
        subst hA
        refine lex.pure (v := .pointer (some (ad40.add (v19_0.toNat * 1)))) (pu_index (a := v19_0) Try.underlying22 Try.sizeOf3 rfl rfl (by rw [(hC.ow (i := 2) rfl).sl_len.1]; exact (get_some h39).1)) ?_
        refine lex.sk (hC.put (i := 2) rfl rfl Try.sizeOf3 (k := v19_0.toNat) (a := v19_0) (by have := (get_some h39).1; simp at this ⊢; omega) (⟨rfl, I64.wr hrv19_0⟩) rfl rfl rfl) ?_
        rintro w44 ⟨hC, hF⟩
        refine lex.nil ?_
        refine hK36 _ _ ?_
        refine Wc.region (by decide +kernel) ?_
        obtain ⟨z45, h46, hb⟩ := bd hb
        refine lex.pure (v := .int .i64 z45) (pu_addc (a := v19_0) (b := 1) e19 rfl h46) ?_
        refine lex.pure (v := .int .i64 z45) (pu_move rfl) ?_
        refine lex.nil ?_
        obtain rfl := Option.some.inj hb
        exact hK28 m29' _ _ (Nat.lt_succ_self _) ⟨z45, (qf22_0.set v19_0.toNat v19_0), e1, e2, e3, e18, rfl, (chk_rng h46), hC.sel [0, 1, 2] (by decide), lN hl0⟩
      · replace hb := (cF hq35).symm.trans hb
        refine Wc.exit rfl ?_
        obtain rfl := Option.some.inj hb
        obtain rfl := (lX hl0).symm
        exact hK27 _ _ ⟨v19_0, qf22_0, e1, e2, e3, hrv19_0, hC.sel [0, 1, 2] (by decide), hbK0⟩
    · clear hb hC hl0
      rintro E48 w47 ⟨v19_0, qf22_0, e1, e2, e3, hrv19_0, hC, hb⟩
      refine hK23 _ _ ?_
      refine Wc.seq fun K49 hK49 => ?_
      refine Wc.seq fun K50 hK50 => ?_
      refine Wc.region (by decide +kernel) ?_
      refine lex.pure (v := .pointer (some ((⟨g3, 0, none⟩ : Addr).add 1))) (pu_field (sz := 1) Try.underlying24 rfl Try.sizeOf22 (by decide) rfl e1) ?_
      refine lex.val (v := .slice Ab_0_1 b_0_1.length cb_0_1) (ld_fld (hC.bx (i := 0) rfl) Try.isAgg22 rfl rfl) ?_
      refine lex.pure (v := .int .i64 (b_0_1.length : Int)) (pu_len (A := Ab_0_1) (n := b_0_1.length) (m := cb_0_1) Try.underlying22 rfl) ?_
      refine lex.pure (v := .int .i64 0) (pu_move rfl) ?_
      refine lex.nil ?_
      refine hK50 _ _ ?_
      obtain ⟨o51, hl1, hb⟩ := bd hb
      refine Wc.cut (fun E wv => ∃ (v30_1 : Int) (qf22_1 : List Int), E 1 = .pointer (some ⟨g3, 0, none⟩) ∧ E 2 = .slice none 0 0 ∧ E 3 = .slice A17 (((List.replicate b_0_0.toNat (0 : Int))).length) c18 ∧ I64 v30_1 ∧ Cx (fun _ => False) O0 w wv [.box g3 24 [.int .i64 b_0_0, .slice Ab_0_1 b_0_1.length cb_0_1], .ro (.sl (.int .i64)) [.slice Ab_0_1 b_0_1.length cb_0_1] b_0_1, .own 3 (.int .i64) (.slice A17 (((List.replicate b_0_0.toNat (0 : Int))).length) c18) qf22_1] ∧ ((pos b_0_0).bind fun u114 => ((loopN n (F.braid_Perm_b2 n b_0_0 qf22_1) (0, (List.replicate b_0_0.toNat (0 : Int)))).bind fun o124 => match o124 with     | (v58_2, qf121_2) => some qf121_2)) = some r) (fun K52 hK52 => ?_) ?_
      · refine Wc.block ?_
        refine Wc.loop (fun m E wv => ∃ (v30_1 : Int) (qf22_1 : List Int), E 1 = .pointer (some ⟨g3, 0, none⟩) ∧ E 2 = .slice none 0 0 ∧ E 3 = .slice A17 (((List.replicate b_0_0.toNat (0 : Int))).length) c18 ∧ E 28 = .slice Ab_0_1 b_0_1.length cb_0_1 ∧ E 29 = .int .i64 (b_0_1.length : Int) ∧ E 30 = .int .i64 v30_1 ∧ I64 v30_1 ∧ Cx (fun _ => False) O0 w wv [.box g3 24 [.int .i64 b_0_0, .slice Ab_0_1 b_0_1.length cb_0_1], .ro (.sl (.int .i64)) [.slice Ab_0_1 b_0_1.length cb_0_1] b_0_1, .own 3 (.int .i64) (.slice A17 (((List.replicate b_0_0.toNat (0 : Int))).length) c18) qf22_1] ∧ loopN m (F.braid_Perm_b1 n b_0_1) (v30_1, qf22_1) = some o51) n ⟨0, qf22_0, e1, e2, e3, rfl, rfl, rfl, (show I64 0 from by unfold I64; omega), hC.sel [0, 1, 2] (by decide), hl1⟩ ?_
        have hbK1 := hb
        clear hb hC hl1
        rintro m54 E56 w55 ⟨v30_1, qf22_1, e1, e2, e3, e28, e29, e30, hrv30_1, hC, hl1⟩ K53 hK53
        obtain ⟨m54', o57, rfl, hb, hl1⟩ := loopN_some hl1
        unfold F.braid_Perm_b1 at hb
        refine Wc.seq fun K58 hK58 => ?_
        refine Wc.region (by decide +kernel) ?_
        refine lex.pure (v := .bool (decide (v30_1 < (b_0_1.length : Int)))) (pu_lss (k := .i64) (a := v30_1) (b := (b_0_1.length : Int)) e30 e29) ?_
        refine lex.nil ?_
        refine hK58 _ _ ?_
        refine Wc.seq fun K59 hK59 => ?_
        refine Wc.cond (t := (decide (v30_1 < (b_0_1.length : Int)))) (rfl) (fun hq60 => ?_) (fun hq60 => ?_)
        · replace hb := (cT hq60).symm.trans hb
          refine Wc.skip ?_
          refine hK59 _ _ ?_
          refine Wc.seq fun K61 hK61 => ?_
          refine Wc.block ?_
          refine Wc.seq fun K62 hK62 => ?_
          refine Wc.region (by decide +kernel) ?_
          obtain ⟨x63, h64, hb⟩ := bd hb
          obtain ⟨ad65, cs66, hA, hc67, hr68⟩ := hC.elr (i := 1) rfl (get_some h64).2
          subst hA
          refine lex.pure (v := .pointer (some (ad65.add (v30_1.toNat * 1)))) (pu_index (a := v30_1) Try.underlying22 Try.sizeOf3 e28 e30 (get_some h64).1) ?_
          obtain ⟨rfl, hr68'⟩ := hr68
          refine lex.val (v := .int .i64 x63) (ld_one Try.isAgg3 rfl (hc67 0 _ rfl)) ?_
          refine lex.pure (v := .int .i64 x63) (pu_assign rfl) ?_
          refine lex.nil ?_
          refine hK62 _ _ ?_
          refine Wc.seq fun K69 hK69 => ?_
          refine Wc.region (by decide +kernel) ?_
          refine lex.pure (v := .int .i64 x63) (pu_move rfl) ?_
          obtain ⟨y70, h71, hb⟩ := bd hb
          refine lex.cl (⟨_, _, op_call (vs := [.int .i64 x63]) Try.call54 rfl rfl rfl, braid_generator_ok n hC.lt (wrap_I64 hr68') h71⟩) ?_
          rintro _ w73 ⟨rfl, hr72, hK⟩
          replace hC := hC.merge hK
          clear hK
          refine lex.pure (v := .int .i64 y70) (pu_assign rfl) ?_
          refine lex.nil ?_
          refine hK69 _ _ ?_
          refine Wc.regionMix [] (frm [] ([] : List Fact) [.own 3 (.int .i64) (.slice A17 (((List.replicate b_0_0.toNat (0 : Int))).length) c18) qf22_1]) (fun _ => rfl) mixed (by decide +kernel) (by decide +kernel) fun w75 hw74 => ?_
          replace hC := hC.step (Fr.of_drew hw74)
          have hM := Fr.refl (fun k => k ∈ blocks ([] : List Fact)) w75
          clear hw74
          have hS := hC
          have hD : Fr (fun k => k ∈ blocks (([] : List Fact) ++ [.own 3 (.int .i64) (.slice A17 (((List.replicate b_0_0.toNat (0 : Int))).length) c18) qf22_1])) w75 w75 := hM.wide
          have hUf22 : Beside (([] : List Fact) ++ [.own 3 (.int .i64) (.slice A17 (((List.replicate b_0_0.toNat (0 : Int))).length) c18) qf22_1]) w75 (.slice A17 (((List.replicate b_0_0.toNat (0 : Int))).length) c18) := Beside.of (i := 0) rfl
          refine mixE.pure (v := .slice A17 (((List.replicate b_0_0.toNat (0 : Int))).length) c18) (pu_move e3) ?_
          refine mixE.pure (v := .int .i64 y70) (pu_move rfl) ?_
          obtain ⟨z76, h77, hb⟩ := bd hb
          refine mixE.pure (v := .int .i64 z76) (pu_subc (a := y70) (b := 1) rfl rfl h77) ?_
          refine mixE.pure (v := .slice A17 (((List.replicate b_0_0.toNat (0 : Int))).length) c18) (pu_move e3) ?_
          refine mixE.pure (v := .int .i64 y70) (pu_move rfl) ?_
          refine mixE.pure (v := .slice A17 (((List.replicate b_0_0.toNat (0 : Int))).length) c18) (pu_move e3) ?_
          refine mixE.pure (v := .int .i64 y70) (pu_move rfl) ?_
          obtain ⟨x78, h79, hb⟩ := bd hb
          obtain ⟨ad80, cs81, hA, ho84, hc82, hr83⟩ := hS.elo2 (i := 2) rfl (get_some h79).2 [] (by decide)
          subst hA
          refine mixE.pure (v := .pointer (some (ad80.add (y70.toNat * 1)))) (pu_index (a := y70) Try.underlying22 Try.sizeOf3 rfl rfl (by rw [(hC.ow (i := 2) rfl).sl_len.1]; exact (get_some h79).1)) ?_
          obtain ⟨rfl, hr83'⟩ := hr83
          refine mixE.load hM (v := .int .i64 x78) (fun _ hF => ld_one Try.isAgg3 rfl (hF.cell (hc82 0 _ rfl) (off1 ho84))) ?_
          refine mixE.pure (v := .slice (some ad80) (((List.replicate b_0_0.toNat (0 : Int))).length) c18) (pu_move e3) ?_
          refine mixE.pure (v := .int .i64 y70) (pu_move rfl) ?_
          obtain ⟨z85, h86, hb⟩ := bd hb
          refine mixE.pure (v := .int .i64 z85) (pu_subc (a := y70) (b := 1) rfl rfl h86) ?_
          obtain ⟨x87, h88, hb⟩ := bd hb
          obtain ⟨ad89, cs90, hA, ho93, hc91, hr92⟩ := hS.elo2 (i := 2) rfl (get_some h88).2 [] (by decide)
          obtain rfl := Option.some.inj hA
          refine mixE.pure (v := .pointer (some (ad80.add (z85.toNat * 1)))) (pu_index (a := z85) Try.underlying22 Try.sizeOf3 rfl rfl (by rw [(hC.ow (i := 2) rfl).sl_len.1]; exact (get_some h88).1)) ?_
          obtain ⟨rfl, hr92'⟩ := hr92
          refine mixE.load hM (v := .int .i64 x87) (fun _ hF => ld_one Try.isAgg3 rfl (hF.cell (hc91 0 _ rfl) (off1 ho93))) ?_
          obtain ⟨x94, h95, hb⟩ := bd hb
          obtain ⟨ad96, cs97, hA, ho100, hc98, hr99⟩ := hS.elo2 (i := 2) rfl (get_some h95).2 [] (by decide)
          obtain rfl := Option.some.inj hA
          refine mixE.pure (v := .pointer (some (ad80.add (z76.toNat * 1)))) (pu_index (a := z76) Try.underlying22 Try.sizeOf3 rfl rfl (by rw [(hC.ow (i := 2) rfl).sl_len.1]; exact (get_some h95).1)) ?_
          refine mixE.sk hD (hC.put (i := 2) rfl rfl Try.sizeOf3 (k := z76.toNat) (a := x78) (by have := (get_some h95).1; simp at this ⊢; omega) (⟨rfl, I64.wr (wrap_I64 hr83')⟩) rfl rfl rfl) ?_
          rintro w101 ⟨hC, hF⟩
          replace hD := hD.beside hUf22 hF
          clear hF
          refine ⟨hD, ?_⟩
          obtain ⟨x102, h103, hb⟩ := bd hb
          obtain ⟨ad104, cs105, hA, hc106, hr107⟩ := hC.elo (i := 2) rfl (get_some h103).2
          obtain rfl := Option.some.inj hA
          refine mixE.pure (v := .pointer (some (ad80.add (y70.toNat * 1)))) (pu_index (a := y70) Try.underlying22 Try.sizeOf3 rfl rfl (by rw [(hC.ow (i := 2) rfl).sl_len.1]; exact (get_some h103).1)) ?_
          refine mixE.sk hD (hC.put (i := 2) rfl rfl Try.sizeOf3 (k := y70.toNat) (a := x87) (by have := (get_some h103).1; simp at this ⊢; omega) (⟨rfl, I64.wr (wrap_I64 hr92')⟩) rfl rfl rfl) ?_
          rintro w108 ⟨hC, hF⟩
          replace hD := hD.beside hUf22 hF
          clear hF
          refine ⟨hD, ?_⟩
          refine mixE.nil ?_
          clear hS hM
          clear hD
          refine hK61 _ _ ?_
          refine Wc.region (by decide +kernel) ?_
          obtain ⟨z109, h110, hb⟩ := bd hb
          refine lex.pure (v := .int .i64 z109) (pu_addc (a := v30_1) (b := 1) e30 rfl h110) ?_
          refine lex.pure (v := .int .i64 z109) (pu_move rfl) ?_
          refine lex.nil ?_
          obtain rfl := Option.some.inj hb
          exact hK53 m54' _ _ (Nat.lt_succ_self _) ⟨z109, ((qf22_1.set z76.toNat x78).set y70.toNat x87), e1, e2, e3, e28, e29, rfl, (chk_rng h110), hC.sel [0, 1, 2] (by decide), lN hl1⟩
        · replace hb := (cF hq60).symm.trans hb
          refine Wc.exit rfl ?_
          obtain rfl := Option.some.inj hb
          obtain rfl := (lX hl1).symm
          exact hK52 _ _ ⟨v30_1, qf22_1, e1, e2, e3, hrv30_1, hC.sel [0, 1, 2] (by decide), hbK1⟩
      · clear hb hC hl1
        rintro E112 w111 ⟨v30_1, qf22_1, e1, e2, e3, hrv30_1, hC, hb⟩
        refine hK49 _ _ ?_
        refine Wc.seq fun K113 hK113 => ?_
        refine Wc.region (by decide +kernel) ?_
        refine lex.pure (v := .pointer (some ((⟨g3, 0, none⟩ : Addr).add 0))) (pu_field (sz := 1) Try.underlying24 rfl Try.sizeOf3 (by decide) rfl e1) ?_
        refine lex.val (v := .int .i64 b_0_0) (ld_fld (hC.bx (i := 0) rfl) Try.isAgg3 rfl rfl) ?_
        obtain ⟨u114, h115, hb⟩ := bd hb
        refine lex.op (hC.make (s := (.int .i64)) (n := b_0_0) Try.underlying43 Try.type3 rfl rfl rfl rfl rfl (pos_some h115).1 (pos_some h115).2 (by decide)) ?_
        rintro _ w120 ⟨A116, c117, rfl, hl118, hc119, hC, hF, hN⟩
        clear hF hN
        refine lex.pure (v := .slice A116 (((List.replicate b_0_0.toNat (0 : Int))).length) c117) (pu_assign rfl) ?_
        refine lex.nil ?_
        refine hK113 _ _ ?_
        refine Wc.seq fun K122 hK122 => ?_
        refine Wc.seq fun K123 hK123 => ?_
        refine Wc.region (by decide +kernel) ?_
        refine lex.pure (v := .slice A17 (((List.replicate b_0_0.toNat (0 : Int))).length) c18) (pu_move e3) ?_
        refine lex.pure (v := .int .i64 (((List.replicate b_0_0.toNat (0 : Int))).length : Int)) (pu_len (A := A17) (n := ((List.replicate b_0_0.toNat (0 : Int))).length) (m := c18) Try.underlying22 rfl) ?_
        refine lex.pure (v := .int .i64 0) (pu_move rfl) ?_
        refine lex.nil ?_
        refine hK123 _ _ ?_
        obtain ⟨o124, hl2, hb⟩ := bd hb
        refine Wc.cut (fun E wv => ∃ (v58_2 : Int) (qf121_2 : List Int), E 2 = .slice none 0 0 ∧ E 8 = .slice A116 (((List.replicate b_0_0.toNat (0 : Int))).length) c117 ∧ I64 v58_2 ∧ Cx (fun _ => False) O0 w wv [.own 3 (.int .i64) (.slice A116 (((List.replicate b_0_0.toNat (0 : Int))).length) c117) qf121_2] ∧ (some qf121_2) = some r) (fun K125 hK125 => ?_) ?_
        · refine Wc.block ?_
          refine Wc.loop (fun m E wv => ∃ (v58_2 : Int) (qf121_2 : List Int), E 2 = .slice none 0 0 ∧ E 8 = .slice A116 (((List.replicate b_0_0.toNat (0 : Int))).length) c117 ∧ E 56 = .slice A17 (((List.replicate b_0_0.toNat (0 : Int))).length) c18 ∧ E 57 = .int .i64 (((List.replicate b_0_0.toNat (0 : Int))).length : Int) ∧ E 58 = .int .i64 v58_2 ∧ I64 v58_2 ∧ Cx (fun _ => False) O0 w wv [.own 3 (.int .i64) (.slice A116 (((List.replicate b_0_0.toNat (0 : Int))).length) c117) qf121_2, .own 3 (.int .i64) (.slice A17 (((List.replicate b_0_0.toNat (0 : Int))).length) c18) qf22_1] ∧ loopN m (F.braid_Perm_b2 n b_0_0 qf22_1) (v58_2, qf121_2) = some o124) n ⟨0, (List.replicate b_0_0.toNat (0 : Int)), e2, rfl, rfl, rfl, rfl, (show I64 0 from by unfold I64; omega), hC.sel [0, 3] (by decide), hl2⟩ ?_
          have hbK2 := hb
          clear hb hC hl2
          rintro m127 E129 w128 ⟨v58_2, qf121_2, e2, e8, e56, e57, e58, hrv58_2, hC, hl2⟩ K126 hK126
          obtain ⟨m127', o130, rfl, hb, hl2⟩ := loopN_some hl2
          unfold F.braid_Perm_b2 at hb
          refine Wc.seq fun K131 hK131 => ?_
          refine Wc.region (by decide +kernel) ?_
          refine lex.pure (v := .bool (decide (v58_2 < (((List.replicate b_0_0.toNat (0 : Int))).length : Int)))) (pu_lss (k := .i64) (a := v58_2) (b := (((List.replicate b_0_0.toNat (0 : Int))).length : Int)) e58 e57) ?_
          refine lex.nil ?_
          refine hK131 _ _ ?_
          refine Wc.seq fun K132 hK132 => ?_
          refine Wc.cond (t := (decide (v58_2 < (((List.replicate b_0_0.toNat (0 : Int))).length : Int)))) (rfl) (fun hq133 => ?_) (fun hq133 => ?_)
          · replace hb := (cT hq133).symm.trans hb
            refine Wc.skip ?_
            refine hK132 _ _ ?_
            refine Wc.seq fun K134 hK134 => ?_
            refine Wc.block ?_
            refine Wc.seq fun K135 hK135 => ?_
            refine Wc.region (by decide +kernel) ?_
            refine lex.pure (v := .int .i64 v58_2) (pu_move e58) ?_
            obtain ⟨x136, h137, hb⟩ := bd hb
            obtain ⟨ad138, cs139, hA, hc140, hr141⟩ := hC.elo (i := 1) rfl (get_some h137).2
            subst hA
            refine lex.pure (v := .pointer (some (ad138.add (v58_2.toNat * 1)))) (pu_index (a := v58_2) Try.underlying22 Try.sizeOf3 e56 e58 (by rw [(hC.ow (i := 1) rfl).sl_len.1]; exact (get_some h137).1)) ?_
            obtain ⟨rfl, hr141'⟩ := hr141
            refine lex.val (v := .int .i64 x136) (ld_one Try.isAgg3 rfl (hc140 0 _ rfl)) ?_
            refine lex.pure (v := .int .i64 v58_2) (pu_assign rfl) ?_
            refine lex.pure (v := .int .i64 x136) (pu_assign rfl) ?_
            refine lex.nil ?_
            refine hK135 _ _ ?_
            refine Wc.region (by decide +kernel) ?_
            refine lex.pure (v := .slice A116 (((List.replicate b_0_0.toNat (0 : Int))).length) c117) (pu_move e8) ?_
            refine lex.pure (v := .int .i64 x136) (pu_move rfl) ?_
            refine lex.pure (v := .int .i64 v58_2) (pu_move rfl) ?_
            obtain ⟨x142, h143, hb⟩ := bd hb
            obtain ⟨ad144, cs145, hA, hc146, hr147⟩ := hC.elo (i := 0) rfl (get_some h143).2
            subst hA
            refine lex.pure (v := .pointer (some (ad144.add (x136.toNat * 1)))) (pu_index (a := x136) Try.underlying43 Try.sizeOf3 rfl rfl (by rw [(hC.ow (i := 0) rfl).sl_len.1]; exact (get_some h143).1)) ?_
            refine lex.sk (hC.put (i := 0) rfl rfl Try.sizeOf3 (k := x136.toNat) (a := v58_2) (by have := (get_some h143).1; simp at this ⊢; omega) (⟨rfl, I64.wr hrv58_2⟩) rfl rfl rfl) ?_
            rintro w148 ⟨hC, hF⟩
            refine lex.nil ?_
            refine hK134 _ _ ?_
            refine Wc.region (by decide +kernel) ?_
            obtain ⟨z149, h150, hb⟩ := bd hb
            refine lex.pure (v := .int .i64 z149) (pu_addc (a := v58_2) (b := 1) e58 rfl h150) ?_
            refine lex.pure (v := .int .i64 z149) (pu_move rfl) ?_
            refine lex.nil ?_
            obtain rfl := Option.some.inj hb
            exact hK126 m127' _ _ (Nat.lt_succ_self _) ⟨z149, (qf121_2.set x136.toNat v58_2), e2, e8, e56, e57, rfl, (chk_rng h150), hC.sel [0, 1] (by decide), lN hl2⟩
          · replace hb := (cF hq133).symm.trans hb
            refine Wc.exit rfl ?_
            obtain rfl := Option.some.inj hb
            obtain rfl := (lX hl2).symm
            exact hK125 _ _ ⟨v58_2, qf121_2, e2, e8, hrv58_2, hC.sel [0] (by decide), hbK2⟩
        · clear hb hC hl2
          rintro E152 w151 ⟨v58_2, qf121_2, e2, e8, hrv58_2, hC, hb⟩
          refine hK122 _ _ ?_
          refine Wc.seq fun K153 hK153 => ?_
          refine Wc.region (by decide +kernel) ?_
          refine lex.pure (v := .slice A116 (((List.replicate b_0_0.toNat (0 : Int))).length) c117) (pu_move e8) ?_
          refine lex.pure (v := .slice A116 (((List.replicate b_0_0.toNat (0 : Int))).length) c117) (pu_assign rfl) ?_
          refine lex.nil ?_
          refine hK153 _ _ ?_
          obtain rfl := Option.some.inj hb
          refine Wc.ret ?_
          refine hKR _ _ ?_
          refine ⟨_, res1 Try.results29 (show RV _ _ _ (.tmp _) (.slice A116 (((List.replicate b_0_0.toNat (0 : Int))).length) c117) from rfl), _, rfl, A116, ((List.replicate b_0_0.toNat (0 : Int))).length, c117, rfl, hC.sel [0] (by decide)⟩
end Go.Proofs.Ytkeaonceaaafcaa
