/- The walks: part 9. -/
import Derived.Test.YtlkmcbgkohpmiaaS
import Derived.Test.YtlkmcbgkohpmiaaG8
set_option linter.unusedVariables false
set_option linter.unusedSimpArgs false
namespace Go.Proofs.Ytlkmcbgkohpmiaa
open Ev
set_option maxRecDepth 100000 in
set_option maxHeartbeats 4000000 in
theorem ref35_Act_ok (n : Nat) {w : World} {O0 : List Nat} (hO : ∀ k ∈ O0, k < w.heap.size) {strands_0 : Int} (hstrands_0 : I64 strands_0) {Abraid_1 : Option Addr} {mbraid_1 cbraid_1 : Nat} {braid_1 : List Int} (hbraid_1 : Rep O0 w (.sl (.int .i64)) [.slice Abraid_1 mbraid_1 cbraid_1] braid_1) {Awx_2 : Option Addr} {mwx_2 cwx_2 : Nat} {wx_2 : List Int} (hwx_2 : Rep O0 w (.sl (.int .i64)) [.slice Awx_2 mwx_2 cwx_2] wx_2) {r : (List Int) × Bool} (hb : F.ref35_Act n strands_0 braid_1 wx_2 = some r) :
    Calls Try.prog 14 #[.int .i64 strands_0, .slice Abraid_1 mbraid_1 cbraid_1, .slice Awx_2 mwx_2 cwx_2] w fun e w' => ∃ v, e = .returned v ∧ ∃ (A0 : Option Addr) (m0 c0 : Nat), v = .tuple #[.slice A0 m0 c0, .bool r.2] ∧ Cx (fun _ => False) O0 w w' [.own 3 (.int .i64) (.slice A0 m0 c0) r.1] := by
  unfold F.ref35_Act at hb
  have hC := Cx.start hO
  replace hC := hC.arg rfl hbraid_1
  replace hC := hC.arg rfl hwx_2
  clear hO
  obtain ⟨rfl, hlbraid_1, hcbraid_1⟩ := hbraid_1.sl_len
  obtain ⟨rfl, hlwx_2, hcwx_2⟩ := hwx_2.sl_len
  refine calls_of_Wc Try.func14 rfl (by rw [Try.ntmps14]; exact Nat.le_of_ble_eq_true rfl) fun KR hKR => ?_
  refine Wc.seq fun K3 hK3 => ?_
  refine Wc.region (by decide +kernel) ?_
  refine lex.pure (v := .slice none 0 0) (pu_assign rfl) ?_
  refine lex.pure (v := .bool false) (pu_assign rfl) ?_
  refine lex.nil ?_
  refine hK3 _ _ ?_
  refine Wc.seq fun K4 hK4 => ?_
  refine Wc.region (by decide +kernel) ?_
  refine lex.pure (v := .slice Awx_2 wx_2.length cwx_2) (pu_move rfl) ?_
  obtain ⟨y5, h6, hb⟩ := bd hb
  refine lex.cl (⟨_, _, op_call (vs := [.slice Awx_2 wx_2.length cwx_2]) Try.call36 rfl rfl rfl, ref21_Reduce_ok n hC.lt (hC.rd (i := 0) rfl) h6⟩) ?_
  rintro _ w11 ⟨A7, m8, c9, rfl, hK⟩
  replace hC := hC.merge hK
  clear hK
  obtain ⟨rfl, hl12, hc13⟩ := (hC.ow (i := 0) rfl).sl_len
  refine lex.pure (v := .slice A7 y5.length c9) (pu_assign rfl) ?_
  refine lex.nil ?_
  refine hK4 _ _ ?_
  refine Wc.seq fun K14 hK14 => ?_
  refine Wc.seq fun K15 hK15 => ?_
  refine Wc.region (by decide +kernel) ?_
  refine lex.pure (v := .int .i64 0) (pu_assign rfl) ?_
  refine lex.nil ?_
  refine hK15 _ _ ?_
  obtain ⟨o16, hl0, hb⟩ := bd hb
  refine Wc.cut (fun E wv => ∃ (l2_0 : List Int) (v8_0 : Int) (Al2_0 : Option Addr) (ml2_0 cl2_0 : Nat), E 2 = .slice Al2_0 ml2_0 cl2_0 ∧ E 6 = .slice none 0 0 ∧ E 7 = .bool false ∧ I64 v8_0 ∧ Cx (fun _ => False) O0 w wv [.own 3 (.int .i64) (.slice Al2_0 ml2_0 cl2_0) l2_0] ∧ (some (l2_0, true) : Option ((List Int) × Bool)) = some r) (fun K17 hK17 => ?_) ?_
  · refine Wc.block ?_
    refine Wc.loop (fun m E wv => ∃ (l2_0 : List Int) (v8_0 : Int) (Al2_0 : Option Addr) (ml2_0 cl2_0 : Nat), E 0 = .int .i64 strands_0 ∧ E 1 = .slice Abraid_1 braid_1.length cbraid_1 ∧ E 2 = .slice Al2_0 ml2_0 cl2_0 ∧ E 6 = .slice none 0 0 ∧ E 7 = .bool false ∧ E 8 = .int .i64 v8_0 ∧ I64 v8_0 ∧ Cx (fun _ => False) O0 w wv [.ro (.sl (.int .i64)) [.slice Abraid_1 braid_1.length cbraid_1] braid_1, .own 3 (.int .i64) (.slice Al2_0 ml2_0 cl2_0) l2_0] ∧ loopN m (F.ref35_Act_b0 n strands_0 braid_1) (l2_0, v8_0) = some o16) n ⟨y5, 0, A7, y5.length, c9, rfl, rfl, rfl, rfl, rfl, rfl, (show I64 0 from by unfold I64; omega), hC.sel [2, 0] (by decide), hl0⟩ ?_
    have hbK0 := hb
    clear hb hC hl0
    rintro m19 E21 w20 ⟨l2_0, v8_0, Al2_0, ml2_0, cl2_0, e0, e1, e2, e6, e7, e8, hrv8_0, hC, hl0⟩ K18 hK18
    obtain ⟨m19', o22, rfl, hb, hl0⟩ := loopN_some hl0
    unfold F.ref35_Act_b0 at hb
    obtain ⟨rfl, hll2_0, hcl2_0⟩ := (hC.ow (i := 1) rfl).sl_len
    refine Wc.seq fun K23 hK23 => ?_
    refine Wc.seq fun K24 hK24 => ?_
    refine Wc.region (by decide +kernel) ?_
    refine lex.pure (v := .int .i64 v8_0) (pu_move e8) ?_
    refine lex.pure (v := .slice Abraid_1 braid_1.length cbraid_1) (pu_move e1) ?_
    refine lex.pure (v := .int .i64 (braid_1.length : Int)) (pu_len (A := Abraid_1) (n := braid_1.length) (m := cbraid_1) Try.underlying22 rfl) ?_
    refine lex.pure (v := .bool (decide (v8_0 ≤ (braid_1.length : Int)))) (pu_leq (k := .i64) (a := v8_0) (b := (braid_1.length : Int)) rfl rfl) ?_
    refine lex.nil ?_
    refine hK24 _ _ ?_
    refine Wc.cond (t := (decide (v8_0 ≤ (braid_1.length : Int)))) (rfl) (fun hq25 => ?_) (fun hq25 => ?_)
    · replace hb := (cT hq25).symm.trans hb
      refine Wc.skip ?_
      refine hK23 _ _ ?_
      refine Wc.seq fun K26 hK26 => ?_
      refine Wc.block ?_
      refine Wc.seq fun K27 hK27 => ?_
      refine Wc.seq fun K28 hK28 => ?_
      refine Wc.region (by decide +kernel) ?_
      refine lex.pure (v := .slice Al2_0 l2_0.length cl2_0) (pu_move e2) ?_
      refine lex.pure (v := .int .i64 (l2_0.length : Int)) (pu_len (A := Al2_0) (n := l2_0.length) (m := cl2_0) Try.underlying22 rfl) ?_
      refine lex.pure (v := .bool (decide (20000 < (l2_0.length : Int)))) (pu_gtr (k := .i64) (a := (l2_0.length : Int)) (b := 20000) rfl rfl) ?_
      refine lex.nil ?_
      refine hK28 _ _ ?_
      refine Wc.cond (t := (decide (20000 < (l2_0.length : Int)))) (rfl) (fun hq29 => ?_) (fun hq29 => ?_)
      · replace hb := (cT hq29).symm.trans hb
        refine Wc.seq fun K30 hK30 => ?_
        refine Wc.region (by decide +kernel) ?_
        refine lex.pure (v := .slice none 0 0) (pu_assign rfl) ?_
        refine lex.pure (v := .bool false) (pu_assign rfl) ?_
        refine lex.nil ?_
        refine hK30 _ _ ?_
        obtain rfl := Option.some.inj hb
        obtain rfl := (lX hl0).symm
        replace hb := hbK0
        replace hC := hC.nil 3 (.int .i64)
        obtain rfl := Option.some.inj hb
        refine Wc.ret ?_
        refine hKR _ _ ?_
        refine ⟨_, res2 Try.results14 (show RV _ _ _ (.tmp _) (.slice none 0 0) from rfl) (show RV _ _ _ (.tmp _) (.bool false) from rfl), _, rfl, none, 0, 0, rfl, hC.sel [0] (by decide)⟩
      · replace hb := (cF hq29).symm.trans hb
        refine Wc.skip ?_
        refine hK27 _ _ ?_
        refine Wc.seq fun K32 hK32 => ?_
        refine Wc.region (by decide +kernel) ?_
        refine lex.pure (v := .int .i64 v8_0) (pu_move e8) ?_
        refine lex.pure (v := .slice Abraid_1 braid_1.length cbraid_1) (pu_move e1) ?_
        refine lex.pure (v := .int .i64 (braid_1.length : Int)) (pu_len (A := Abraid_1) (n := braid_1.length) (m := cbraid_1) Try.underlying22 rfl) ?_
        refine lex.pure (v := .bool (decide (v8_0 < (braid_1.length : Int)))) (pu_lss (k := .i64) (a := v8_0) (b := (braid_1.length : Int)) rfl rfl) ?_
        refine lex.nil ?_
        refine hK32 _ _ ?_
        refine Wc.fresh fun E33 hE => ?_
        have e0 : E33 0 = .int .i64 strands_0 := (congrFun hE 0).trans e0
        have e1 : E33 1 = .slice Abraid_1 braid_1.length cbraid_1 := (congrFun hE 1).trans e1
        have e2 : E33 2 = .slice Al2_0 l2_0.length cl2_0 := (congrFun hE 2).trans e2
        have e6 : E33 6 = .slice none 0 0 := (congrFun hE 6).trans e6
        have e7 : E33 7 = .bool false := (congrFun hE 7).trans e7
        have e8 : E33 8 = .int .i64 v8_0 := (congrFun hE 8).trans e8
        have e14 : E33 14 = .bool (decide (v8_0 ≤ (braid_1.length : Int))) := (congrFun hE 14).trans rfl
        have e19 : E33 19 = .bool (decide (20000 < (l2_0.length : Int))) := (congrFun hE 19).trans rfl
        have e23 : E33 23 = .bool (decide (v8_0 < (braid_1.length : Int))) := (congrFun hE 23).trans rfl
        clear hE
        refine Wc.cond (t := (decide (v8_0 < (braid_1.length : Int)))) (e23) (fun hq34 => ?_) (fun hq34 => ?_)
        · replace hb := (cT hq34).symm.trans hb
          refine Wc.region (by decide +kernel) ?_
          refine lex.pure (v := .slice Al2_0 l2_0.length cl2_0) (pu_move e2) ?_
          refine lex.pure (v := .int .i64 strands_0) (pu_move e0) ?_
          refine lex.pure (v := .slice Abraid_1 braid_1.length cbraid_1) (pu_move e1) ?_
          refine lex.pure (v := .int .i64 v8_0) (pu_move e8) ?_
          obtain ⟨x35, h36, hb⟩ := bd hb
          obtain ⟨ad37, cs38, hA, hc39, hr40⟩ := hC.elr (i := 0) rfl (get_some h36).2
          subst hA
          refine lex.pure (v := .pointer (some (ad37.add (v8_0.toNat * 1)))) (pu_index (a := v8_0) Try.underlying22 Try.sizeOf3 rfl rfl (get_some h36).1) ?_
          obtain ⟨rfl, hr40'⟩ := hr40
          refine lex.val (v := .int .i64 x35) (ld_one Try.isAgg3 rfl (hc39 0 _ rfl)) ?_
          obtain ⟨y41, h42, hb⟩ := bd hb
          refine lex.cl (⟨_, _, op_call (vs := [.int .i64 strands_0, .int .i64 x35]) Try.call38 rfl rfl rfl, ref35_letters_ok n hC.lt hstrands_0 (wrap_I64 hr40') h42⟩) ?_
          rintro _ w47 ⟨A43, m44, c45, rfl, hK⟩
          replace hC := hC.merge hK
          clear hK
          obtain ⟨rfl, hl48, hc49⟩ := (hC.ow (i := 0) rfl).sl_len
          obtain ⟨y50, h51, hb⟩ := bd hb
          refine lex.cl (⟨_, _, op_call (vs := [.slice Al2_0 l2_0.length cl2_0, .slice A43 y41.length c45]) Try.call37 rfl rfl rfl, ref21_Substitute_ok n (hC.lentLt [.slice Al2_0 l2_0.length cl2_0, .slice A43 y41.length c45]) ((hC.ow (i := 2) rfl).lend (vs := [.slice Al2_0 l2_0.length cl2_0, .slice A43 y41.length c45]) (by simp)) ((hC.ow (i := 0) rfl).lend (vs := [.slice Al2_0 l2_0.length cl2_0, .slice A43 y41.length c45]) (by simp)) h51⟩) ?_
          rintro _ w56 ⟨A52, m53, c54, rfl, hK⟩
          replace hC := hC.mergeF hK rfl
          clear hK
          obtain ⟨rfl, hl57, hc58⟩ := (hC.ow (i := 0) rfl).sl_len
          refine lex.pure (v := .slice A52 y50.length c54) (pu_assign rfl) ?_
          refine lex.nil ?_
          refine hK26 _ _ ?_
          refine Wc.region (by decide +kernel) ?_
          refine lex.pure (v := .int .i64 v8_0) (pu_move e8) ?_
          obtain ⟨z59, h60, hb⟩ := bd hb
          refine lex.pure (v := .int .i64 z59) (pu_addc (a := v8_0) (b := 1) rfl rfl h60) ?_
          refine lex.pure (v := .int .i64 z59) (pu_assign rfl) ?_
          refine lex.nil ?_
          obtain rfl := Option.some.inj hb
          exact hK18 m19' _ _ (Nat.lt_succ_self _) ⟨y50, z59, A52, y50.length, c54, e0, e1, rfl, e6, e7, rfl, (chk_rng h60), hC.sel [2, 0] (by decide), lN hl0⟩
        · replace hb := (cF hq34).symm.trans hb
          refine Wc.skip ?_
          refine hK26 _ _ ?_
          refine Wc.region (by decide +kernel) ?_
          refine lex.pure (v := .int .i64 v8_0) (pu_move e8) ?_
          obtain ⟨z61, h62, hb⟩ := bd hb
          refine lex.pure (v := .int .i64 z61) (pu_addc (a := v8_0) (b := 1) rfl rfl h62) ?_
          refine lex.pure (v := .int .i64 z61) (pu_assign rfl) ?_
          refine lex.nil ?_
          obtain rfl := Option.some.inj hb
          exact hK18 m19' _ _ (Nat.lt_succ_self _) ⟨l2_0, z61, Al2_0, l2_0.length, cl2_0, e0, e1, e2, e6, e7, rfl, (chk_rng h62), hC.sel [0, 1] (by decide), lN hl0⟩
    · replace hb := (cF hq25).symm.trans hb
      refine Wc.exit rfl ?_
      obtain rfl := Option.some.inj hb
      obtain rfl := (lX hl0).symm
      exact hK17 _ _ ⟨l2_0, v8_0, Al2_0, l2_0.length, cl2_0, e2, e6, e7, hrv8_0, hC.sel [1] (by decide), hbK0⟩
  · clear hb hC hl0
    rintro E64 w63 ⟨l2_0, v8_0, Al2_0, ml2_0, cl2_0, e2, e6, e7, hrv8_0, hC, hb⟩
    obtain ⟨rfl, hll2_0, hcl2_0⟩ := (hC.ow (i := 0) rfl).sl_len
    refine hK14 _ _ ?_
    refine Wc.seq fun K65 hK65 => ?_
    refine Wc.region (by decide +kernel) ?_
    refine lex.pure (v := .slice Al2_0 l2_0.length cl2_0) (pu_move e2) ?_
    refine lex.pure (v := .slice Al2_0 l2_0.length cl2_0) (pu_assign rfl) ?_
    refine lex.pure (v := .bool true) (pu_assign rfl) ?_
    refine lex.nil ?_
    refine hK65 _ _ ?_
    obtain rfl := Option.some.inj hb
    refine Wc.ret ?_
    refine hKR _ _ ?_
    refine ⟨_, res2 Try.results14 (show RV _ _ _ (.tmp _) (.slice Al2_0 l2_0.length cl2_0) from rfl) (show RV _ _ _ (.tmp _) (.bool true) from rfl), _, rfl, Al2_0, l2_0.length, cl2_0, rfl, hC.sel [0] (by decide)⟩
end Go.Proofs.Ytlkmcbgkohpmiaa
