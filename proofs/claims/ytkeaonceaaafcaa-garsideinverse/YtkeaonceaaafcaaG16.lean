/- The walks: part 16. -/
import Derived.Test.YtkeaonceaaafcaaS
set_option linter.unusedVariables false
set_option linter.unusedSimpArgs false
namespace Go.Proofs.Ytkeaonceaaafcaa
open Ev
set_option maxRecDepth 100000 in
set_option maxHeartbeats 4000000 in
theorem slices_Grow_Lint_int_nil_ok (n : Nat) {w : World} {O0 : List Nat} (hO : ∀ k ∈ O0, k < w.heap.size) {nx_1 : Int} (hnx_1 : I64 nx_1) {r : (List Int)} (hb : F.slices_Grow_Lint_int_nil n nx_1 = some r) :
    Calls Try.prog 52 #[.slice none 0 0, .int .i64 nx_1] w fun e w' => ∃ v, e = .returned v ∧ ∃ (A0 : Option Addr) (m0 c0 : Nat), v = .slice A0 m0 c0 ∧ Cx (fun _ => False) O0 w w' [.own 3 (.int .i64) (.slice A0 m0 c0) r] := by
  unfold F.slices_Grow_Lint_int_nil at hb
  have hC := Cx.start hO
  clear hO
  refine calls_of_Wc Try.func52 rfl (by rw [Try.ntmps52]; exact Nat.le_of_ble_eq_true rfl) fun KR hKR => ?_
  refine Wc.seq fun K1 hK1 => ?_
  refine Wc.region (by decide +kernel) ?_
  refine lex.pure (v := .slice none 0 0) (pu_assign rfl) ?_
  refine lex.nil ?_
  refine hK1 _ _ ?_
  refine Wc.seq fun K2 hK2 => ?_
  refine Wc.seq fun K3 hK3 => ?_
  refine Wc.region (by decide +kernel) ?_
  refine lex.pure (v := .int .i64 nx_1) (pu_move rfl) ?_
  refine lex.pure (v := .bool (decide (nx_1 < 0))) (pu_lss (k := .i64) (a := nx_1) (b := 0) rfl rfl) ?_
  refine lex.nil ?_
  refine hK3 _ _ ?_
  refine Wc.cond (t := (decide (nx_1 < 0))) (rfl) (fun hq4 => ?_) (fun hq4 => ?_)
  · replace hb := (cT hq4).symm.trans hb
    cases hb
  · replace hb := (cF hq4).symm.trans hb
    refine Wc.skip ?_
    refine hK2 _ _ ?_
    refine Wc.seq fun K5 hK5 => ?_
    refine Wc.seq fun K6 hK6 => ?_
    refine Wc.region (by decide +kernel) ?_
    refine lex.pure (v := .int .i64 nx_1) (pu_move rfl) ?_
    refine lex.pure (v := .slice none 0 0) (pu_move rfl) ?_
    refine lex.pure (v := .int .i64 0) (pu_cap (A := none) (n := 0) (m := 0) Try.underlying22 rfl) ?_
    refine lex.pure (v := .slice none 0 0) (pu_move rfl) ?_
    refine lex.pure (v := .int .i64 0) (pu_len (A := none) (n := 0) (m := 0) Try.underlying22 rfl) ?_
    obtain ⟨z7, h8, hb⟩ := bd hb
    refine lex.pure (v := .int .i64 z7) (pu_subc (a := 0) (b := 0) rfl rfl h8) ?_
    obtain ⟨z9, h10, hb⟩ := bd hb
    refine lex.pure (v := .int .i64 z9) (pu_subc (a := nx_1) (b := z7) rfl rfl h10) ?_
    refine lex.pure (v := .int .i64 z9) (pu_assign rfl) ?_
    refine lex.nil ?_
    refine hK6 _ _ ?_
    refine Wc.fresh fun E11 hE => ?_
    have e0 : E11 0 = .slice none 0 0 := (congrFun hE 0).trans rfl
    have e1 : E11 1 = .int .i64 z9 := (congrFun hE 1).trans rfl
    have e4 : E11 4 = .slice none 0 0 := (congrFun hE 4).trans rfl
    clear hE
    refine Wc.seq fun K12 hK12 => ?_
    refine Wc.region (by decide +kernel) ?_
    refine lex.pure (v := .int .i64 z9) (pu_move e1) ?_
    refine lex.pure (v := .bool (decide (0 < z9))) (pu_gtr (k := .i64) (a := z9) (b := 0) rfl rfl) ?_
    refine lex.nil ?_
    refine hK12 _ _ ?_
    refine Wc.cond (t := (decide (0 < z9))) (rfl) (fun hq13 => ?_) (fun hq13 => ?_)
    · replace hb := (cT hq13).symm.trans hb
      refine Wc.region (by decide +kernel) ?_
      refine lex.pure (v := .slice none 0 0) (pu_move e0) ?_
      refine lex.pure (v := .slice none 0 0) (pu_move e0) ?_
      refine lex.pure (v := .int .i64 0) (pu_cap (A := none) (n := 0) (m := 0) Try.underlying22 rfl) ?_
      refine lex.pure (v := .slice none 0 0) (pu_nilcut Try.underlying22 Try.sizeOf3 rfl rfl) ?_
      refine lex.pure (v := .int .i64 z9) (pu_move e1) ?_
      obtain ⟨u14, h15, hb⟩ := bd hb
      refine lex.op (hC.appz (s := (.int .i64)) (n := z9) Try.underlying22 Try.underlying3 Try.type3 rfl rfl rfl rfl rfl (posz_some h15).1 (posz_some h15).2 (by decide)) ?_
      rintro _ w20 ⟨A16, c17, rfl, hl18, hc19, hC, hF, hN⟩
      clear hF hN
      refine lex.pure (v := .slice none 0 0) (pu_move e0) ?_
      refine lex.pure (v := .int .i64 0) (pu_len (A := none) (n := 0) (m := 0) Try.underlying22 rfl) ?_
      obtain ⟨u22, h23, hb⟩ := bd hb
      refine lex.pure (v := .slice A16 (((List.replicate z9.toNat (0 : Int)).take (0 : Int).toNat).length) c17) (pu_cuth (b := 0) Try.underlying22 Try.sizeOf3 rfl rfl (hC.ow (i := 0) rfl).sl_len (cut_some h23)) ?_
      replace hC := hC.cuth (i := 0) rfl (k := (0 : Int).toNat) (by have := cut_some h23; omega)
      obtain ⟨-, hl24, hc25⟩ := (hC.ow (i := 0) rfl).sl_len
      refine lex.pure (v := .slice A16 (((List.replicate z9.toNat (0 : Int)).take (0 : Int).toNat).length) c17) (pu_assign rfl) ?_
      refine lex.nil ?_
      refine hK5 _ _ ?_
      refine Wc.seq fun K26 hK26 => ?_
      refine Wc.region (by decide +kernel) ?_
      refine lex.pure (v := .slice A16 (((List.replicate z9.toNat (0 : Int)).take (0 : Int).toNat).length) c17) (pu_move rfl) ?_
      refine lex.pure (v := .slice A16 (((List.replicate z9.toNat (0 : Int)).take (0 : Int).toNat).length) c17) (pu_assign rfl) ?_
      refine lex.nil ?_
      refine hK26 _ _ ?_
      obtain rfl := Option.some.inj hb
      refine Wc.ret ?_
      refine hKR _ _ ?_
      refine ⟨_, res1 Try.results52 (show RV _ _ _ (.tmp _) (.slice A16 (((List.replicate z9.toNat (0 : Int)).take (0 : Int).toNat).length) c17) from rfl), _, rfl, A16, ((List.replicate z9.toNat (0 : Int)).take (0 : Int).toNat).length, c17, rfl, hC.sel [0] (by decide)⟩
    · replace hb := (cF hq13).symm.trans hb
      refine Wc.skip ?_
      refine hK5 _ _ ?_
      refine Wc.seq fun K27 hK27 => ?_
      refine Wc.region (by decide +kernel) ?_
      refine lex.pure (v := .slice none 0 0) (pu_move e0) ?_
      refine lex.pure (v := .slice none 0 0) (pu_assign rfl) ?_
      refine lex.nil ?_
      refine hK27 _ _ ?_
      replace hC := hC.nil 3 (.int .i64)
      obtain rfl := Option.some.inj hb
      refine Wc.ret ?_
      refine hKR _ _ ?_
      refine ⟨_, res1 Try.results52 (show RV _ _ _ (.tmp _) (.slice none 0 0) from rfl), _, rfl, none, 0, 0, rfl, hC.sel [0] (by decide)⟩

set_option maxRecDepth 100000 in
set_option maxHeartbeats 4000000 in
theorem slices_Concat_Lint_int_ok (n : Nat) {w : World} {O0 : List Nat} (hO : ∀ k ∈ O0, k < w.heap.size) {Aslices_0 : Option Addr} {mslices_0 cslices_0 : Nat} {slices_0 : List (List Int)} (hslices_0 : Rep O0 w (.sl (.sl (.int .i64))) [.slice Aslices_0 mslices_0 cslices_0] slices_0) {r : (List Int)} (hb : F.slices_Concat_Lint_int n slices_0 = some r) :
    Calls Try.prog 22 #[.slice Aslices_0 mslices_0 cslices_0] w fun e w' => ∃ v, e = .returned v ∧ ∃ (A0 : Option Addr) (m0 c0 : Nat), v = .slice A0 m0 c0 ∧ Cx (fun _ => False) O0 w w' [.own 3 (.int .i64) (.slice A0 m0 c0) r] := by
  unfold F.slices_Concat_Lint_int at hb
  have hC := Cx.start hO
  replace hC := hC.arg rfl hslices_0
  clear hO
  obtain ⟨rfl, hlslices_0, hcslices_0⟩ := hslices_0.sl_len
  refine calls_of_Wc Try.func22 rfl (by rw [Try.ntmps22]; exact Nat.le_of_ble_eq_true rfl) fun KR hKR => ?_
  refine Wc.seq fun K2 hK2 => ?_
  refine Wc.region (by decide +kernel) ?_
  refine lex.pure (v := .slice none 0 0) (pu_assign rfl) ?_
  refine lex.nil ?_
  refine hK2 _ _ ?_
  refine Wc.seq fun K3 hK3 => ?_
  refine Wc.region (by decide +kernel) ?_
  refine lex.pure (v := .int .i64 0) (pu_assign rfl) ?_
  refine lex.nil ?_
  refine hK3 _ _ ?_
  refine Wc.seq fun K4 hK4 => ?_
  refine Wc.seq fun K5 hK5 => ?_
  refine Wc.region (by decide +kernel) ?_
  refine lex.pure (v := .slice Aslices_0 slices_0.length cslices_0) (pu_move rfl) ?_
  refine lex.pure (v := .int .i64 (slices_0.length : Int)) (pu_len (A := Aslices_0) (n := slices_0.length) (m := cslices_0) Try.underlying35 rfl) ?_
  refine lex.pure (v := .int .i64 0) (pu_move rfl) ?_
  refine lex.nil ?_
  refine hK5 _ _ ?_
  obtain ⟨o6, hl0, hb⟩ := bd hb
  refine Wc.cut (fun E wv => ∃ (v3_0 : Int) (v11_0 : Int), E 0 = .slice Aslices_0 slices_0.length cslices_0 ∧ E 2 = .slice none 0 0 ∧ E 3 = .int .i64 v3_0 ∧ I64 v3_0 ∧ I64 v11_0 ∧ Cx (fun _ => False) O0 w wv [.ro (.sl (.sl (.int .i64))) [.slice Aslices_0 slices_0.length cslices_0] slices_0] ∧ ((F.slices_Grow_Lint_int_nil n v3_0).bind fun y40 => ((loopN n (F.slices_Concat_Lint_int_b1 n slices_0) (y40, 0)).bind fun o51 => match o51 with     | (l6_1, v27_1) => some l6_1) : Option ((List Int))) = some r) (fun K7 hK7 => ?_) ?_
  · refine Wc.block ?_
    refine Wc.loop (fun m E wv => ∃ (v3_0 : Int) (v11_0 : Int), E 0 = .slice Aslices_0 slices_0.length cslices_0 ∧ E 2 = .slice none 0 0 ∧ E 3 = .int .i64 v3_0 ∧ E 9 = .slice Aslices_0 slices_0.length cslices_0 ∧ E 10 = .int .i64 (slices_0.length : Int) ∧ E 11 = .int .i64 v11_0 ∧ I64 v3_0 ∧ I64 v11_0 ∧ Cx (fun _ => False) O0 w wv [.ro (.sl (.sl (.int .i64))) [.slice Aslices_0 slices_0.length cslices_0] slices_0] ∧ loopN m (F.slices_Concat_Lint_int_b0 n slices_0) (v3_0, v11_0) = some o6) n ⟨0, 0, rfl, rfl, rfl, rfl, rfl, rfl, (show I64 0 from by unfold I64; omega), (show I64 0 from by unfold I64; omega), hC.sel [0] (by decide), hl0⟩ ?_
    have hbK0 := hb
    clear hb hC hl0
    rintro m9 E11 w10 ⟨v3_0, v11_0, e0, e2, e3, e9, e10, e11, hrv3_0, hrv11_0, hC, hl0⟩ K8 hK8
    obtain ⟨m9', o12, rfl, hb, hl0⟩ := loopN_some hl0
    unfold F.slices_Concat_Lint_int_b0 at hb
    refine Wc.seq fun K13 hK13 => ?_
    refine Wc.region (by decide +kernel) ?_
    refine lex.pure (v := .bool (decide (v11_0 < (slices_0.length : Int)))) (pu_lss (k := .i64) (a := v11_0) (b := (slices_0.length : Int)) e11 e10) ?_
    refine lex.nil ?_
    refine hK13 _ _ ?_
    refine Wc.seq fun K14 hK14 => ?_
    refine Wc.cond (t := (decide (v11_0 < (slices_0.length : Int)))) (rfl) (fun hq15 => ?_) (fun hq15 => ?_)
    · replace hb := (cT hq15).symm.trans hb
      refine Wc.skip ?_
      refine hK14 _ _ ?_
      refine Wc.seq fun K16 hK16 => ?_
      refine Wc.block ?_
      refine Wc.seq fun K17 hK17 => ?_
      refine Wc.region (by decide +kernel) ?_
      obtain ⟨x18, h19, hb⟩ := bd hb
      obtain ⟨ad20, cs21, hA, hc22, hr23⟩ := hC.elr (i := 0) rfl (get_some h19).2
      subst hA
      refine lex.pure (v := .pointer (some (ad20.add (v11_0.toNat * 1)))) (pu_index (a := v11_0) Try.underlying35 Try.sizeOf22 e9 e11 (get_some h19).1) ?_
      have hR := hr23
      obtain ⟨A24, c25, rfl, hl26, hc27, _⟩ := hr23
      replace hC := hC.ro hR
      clear hR
      refine lex.val (v := .slice A24 x18.length c25) (ld_one Try.isAgg22 rfl (hc22 0 _ rfl)) ?_
      refine lex.pure (v := .slice A24 x18.length c25) (pu_assign rfl) ?_
      refine lex.nil ?_
      refine hK17 _ _ ?_
      refine Wc.seq fun K29 hK29 => ?_
      refine Wc.region (by decide +kernel) ?_
      refine lex.pure (v := .int .i64 v3_0) (pu_move e3) ?_
      refine lex.pure (v := .slice A24 x18.length c25) (pu_move rfl) ?_
      refine lex.pure (v := .int .i64 (x18.length : Int)) (pu_len (A := A24) (n := x18.length) (m := c25) Try.underlying22 rfl) ?_
      obtain ⟨z30, h31, hb⟩ := bd hb
      refine lex.pure (v := .int .i64 z30) (pu_addc (a := v3_0) (b := (x18.length : Int)) rfl rfl h31) ?_
      refine lex.pure (v := .int .i64 z30) (pu_assign rfl) ?_
      refine lex.nil ?_
      refine hK29 _ _ ?_
      refine Wc.seq fun K32 hK32 => ?_
      refine Wc.region (by decide +kernel) ?_
      refine lex.pure (v := .int .i64 z30) (pu_move rfl) ?_
      refine lex.pure (v := .bool (decide (z30 < 0))) (pu_lss (k := .i64) (a := z30) (b := 0) rfl rfl) ?_
      refine lex.nil ?_
      refine hK32 _ _ ?_
      refine Wc.fresh fun E33 hE => ?_
      have e0 : E33 0 = .slice (some ad20) slices_0.length cslices_0 := (congrFun hE 0).trans e0
      have e2 : E33 2 = .slice none 0 0 := (congrFun hE 2).trans e2
      have e3 : E33 3 = .int .i64 z30 := (congrFun hE 3).trans rfl
      have e5 : E33 5 = .slice A24 x18.length c25 := (congrFun hE 5).trans rfl
      have e9 : E33 9 = .slice (some ad20) slices_0.length cslices_0 := (congrFun hE 9).trans e9
      have e10 : E33 10 = .int .i64 (slices_0.length : Int) := (congrFun hE 10).trans e10
      have e11 : E33 11 = .int .i64 v11_0 := (congrFun hE 11).trans e11
      have e12 : E33 12 = .bool (decide (v11_0 < (slices_0.length : Int))) := (congrFun hE 12).trans rfl
      have e20 : E33 20 = .bool (decide (z30 < 0)) := (congrFun hE 20).trans rfl
      clear hE
      refine Wc.cond (t := (decide (z30 < 0))) (e20) (fun hq34 => ?_) (fun hq34 => ?_)
      · replace hb := (cT hq34).symm.trans hb
        cases hb
      · replace hb := (cF hq34).symm.trans hb
        refine Wc.skip ?_
        refine hK16 _ _ ?_
        refine Wc.region (by decide +kernel) ?_
        obtain ⟨z35, h36, hb⟩ := bd hb
        refine lex.pure (v := .int .i64 z35) (pu_addc (a := v11_0) (b := 1) e11 rfl h36) ?_
        refine lex.pure (v := .int .i64 z35) (pu_move rfl) ?_
        refine lex.nil ?_
        obtain rfl := Option.some.inj hb
        exact hK8 m9' _ _ (Nat.lt_succ_self _) ⟨z30, z35, e0, e2, e3, e9, e10, rfl, (chk_rng h31), (chk_rng h36), hC.sel [1] (by decide), lN hl0⟩
    · replace hb := (cF hq15).symm.trans hb
      refine Wc.exit rfl ?_
      obtain rfl := Option.some.inj hb
      obtain rfl := (lX hl0).symm
      exact hK7 _ _ ⟨v3_0, v11_0, e0, e2, e3, hrv3_0, hrv11_0, hC.sel [0] (by decide), hbK0⟩
  · clear hb hC hl0
    rintro E38 w37 ⟨v3_0, v11_0, e0, e2, e3, hrv3_0, hrv11_0, hC, hb⟩
    refine hK4 _ _ ?_
    refine Wc.seq fun K39 hK39 => ?_
    refine Wc.region (by decide +kernel) ?_
    refine lex.pure (v := .int .i64 v3_0) (pu_move e3) ?_
    obtain ⟨y40, h41, hb⟩ := bd hb
    refine lex.cl (⟨_, _, op_call (vs := [.slice none 0 0, .int .i64 v3_0]) Try.call52 rfl rfl rfl, slices_Grow_Lint_int_nil_ok n hC.lt hrv3_0 h41⟩) ?_
    rintro _ w46 ⟨A42, m43, c44, rfl, hK⟩
    replace hC := hC.merge hK
    clear hK
    obtain ⟨rfl, hl47, hc48⟩ := (hC.ow (i := 0) rfl).sl_len
    refine lex.pure (v := .slice A42 y40.length c44) (pu_assign rfl) ?_
    refine lex.nil ?_
    refine hK39 _ _ ?_
    refine Wc.seq fun K49 hK49 => ?_
    refine Wc.seq fun K50 hK50 => ?_
    refine Wc.region (by decide +kernel) ?_
    refine lex.pure (v := .slice Aslices_0 slices_0.length cslices_0) (pu_move e0) ?_
    refine lex.pure (v := .int .i64 (slices_0.length : Int)) (pu_len (A := Aslices_0) (n := slices_0.length) (m := cslices_0) Try.underlying35 rfl) ?_
    refine lex.pure (v := .int .i64 0) (pu_move rfl) ?_
    refine lex.nil ?_
    refine hK50 _ _ ?_
    obtain ⟨o51, hl1, hb⟩ := bd hb
    refine Wc.cut (fun E wv => ∃ (l6_1 : List Int) (v27_1 : Int) (Al6_1 : Option Addr) (ml6_1 cl6_1 : Nat), E 2 = .slice none 0 0 ∧ E 6 = .slice Al6_1 ml6_1 cl6_1 ∧ I64 v27_1 ∧ Cx (fun _ => False) O0 w wv [.own 3 (.int .i64) (.slice Al6_1 ml6_1 cl6_1) l6_1] ∧ (some l6_1 : Option ((List Int))) = some r) (fun K52 hK52 => ?_) ?_
    · refine Wc.block ?_
      refine Wc.loop (fun m E wv => ∃ (l6_1 : List Int) (v27_1 : Int) (Al6_1 : Option Addr) (ml6_1 cl6_1 : Nat), E 2 = .slice none 0 0 ∧ E 6 = .slice Al6_1 ml6_1 cl6_1 ∧ E 25 = .slice Aslices_0 slices_0.length cslices_0 ∧ E 26 = .int .i64 (slices_0.length : Int) ∧ E 27 = .int .i64 v27_1 ∧ I64 v27_1 ∧ Cx (fun _ => False) O0 w wv [.own 3 (.int .i64) (.slice Al6_1 ml6_1 cl6_1) l6_1, .ro (.sl (.sl (.int .i64))) [.slice Aslices_0 slices_0.length cslices_0] slices_0] ∧ loopN m (F.slices_Concat_Lint_int_b1 n slices_0) (l6_1, v27_1) = some o51) n ⟨y40, 0, A42, y40.length, c44, e2, rfl, rfl, rfl, rfl, (show I64 0 from by unfold I64; omega), hC.sel [0, 1] (by decide), hl1⟩ ?_
      have hbK1 := hb
      clear hb hC hl1
      rintro m54 E56 w55 ⟨l6_1, v27_1, Al6_1, ml6_1, cl6_1, e2, e6, e25, e26, e27, hrv27_1, hC, hl1⟩ K53 hK53
      obtain ⟨m54', o57, rfl, hb, hl1⟩ := loopN_some hl1
      unfold F.slices_Concat_Lint_int_b1 at hb
      obtain ⟨rfl, hll6_1, hcl6_1⟩ := (hC.ow (i := 0) rfl).sl_len
      refine Wc.seq fun K58 hK58 => ?_
      refine Wc.region (by decide +kernel) ?_
      refine lex.pure (v := .bool (decide (v27_1 < (slices_0.length : Int)))) (pu_lss (k := .i64) (a := v27_1) (b := (slices_0.length : Int)) e27 e26) ?_
      refine lex.nil ?_
      refine hK58 _ _ ?_
      refine Wc.seq fun K59 hK59 => ?_
      refine Wc.cond (t := (decide (v27_1 < (slices_0.length : Int)))) (rfl) (fun hq60 => ?_) (fun hq60 => ?_)
      · replace hb := (cT hq60).symm.trans hb
        refine Wc.skip ?_
        refine hK59 _ _ ?_
        refine Wc.seq fun K61 hK61 => ?_
        refine Wc.block ?_
        refine Wc.seq fun K62 hK62 => ?_
        refine Wc.region (by decide +kernel) ?_
        obtain ⟨x63, h64, hb⟩ := bd hb
        obtain ⟨ad65, cs66, hA, hc67, hr68⟩ := hC.elr (i := 1) rfl (get_some h64).2
        subst hA
        refine lex.pure (v := .pointer (some (ad65.add (v27_1.toNat * 1)))) (pu_index (a := v27_1) Try.underlying35 Try.sizeOf22 e25 e27 (get_some h64).1) ?_
        have hR := hr68
        obtain ⟨A69, c70, rfl, hl71, hc72, _⟩ := hr68
        replace hC := hC.ro hR
        clear hR
        refine lex.val (v := .slice A69 x63.length c70) (ld_one Try.isAgg22 rfl (hc67 0 _ rfl)) ?_
        refine lex.pure (v := .slice A69 x63.length c70) (pu_assign rfl) ?_
        refine lex.nil ?_
        refine hK62 _ _ ?_
        refine Wc.region (by decide +kernel) ?_
        refine lex.pure (v := .slice Al6_1 l6_1.length cl6_1) (pu_move e6) ?_
        refine lex.pure (v := .slice A69 x63.length c70) (pu_move rfl) ?_
        obtain ⟨u74, h75, hb⟩ := bd hb
        refine lex.op (hC.app (i := 1) (s := (.int .i64)) (xs := l6_1) (ys := x63) (m := x63.length) rfl Try.underlying22 Try.underlying22 Try.type3 rfl rfl rfl (hC.srcr (i := 0) rfl) rfl rfl (by have := lim_some h75; simp at this ⊢ <;> omega) (by decide)) ?_
        rintro _ w80 ⟨A76, c77, rfl, hl78, hc79, hC, hF, hN⟩
        clear hF hN
        refine lex.pure (v := .slice A76 ((l6_1 ++ x63).length) c77) (pu_assign rfl) ?_
        refine lex.nil ?_
        refine hK61 _ _ ?_
        refine Wc.region (by decide +kernel) ?_
        obtain ⟨z81, h82, hb⟩ := bd hb
        refine lex.pure (v := .int .i64 z81) (pu_addc (a := v27_1) (b := 1) e27 rfl h82) ?_
        refine lex.pure (v := .int .i64 z81) (pu_move rfl) ?_
        refine lex.nil ?_
        obtain rfl := Option.some.inj hb
        exact hK53 m54' _ _ (Nat.lt_succ_self _) ⟨(l6_1 ++ x63), z81, A76, (l6_1 ++ x63).length, c77, e2, rfl, e25, e26, rfl, (chk_rng h82), hC.sel [1, 2] (by decide), lN hl1⟩
      · replace hb := (cF hq60).symm.trans hb
        refine Wc.exit rfl ?_
        obtain rfl := Option.some.inj hb
        obtain rfl := (lX hl1).symm
        exact hK52 _ _ ⟨l6_1, v27_1, Al6_1, l6_1.length, cl6_1, e2, e6, hrv27_1, hC.sel [0] (by decide), hbK1⟩
    · clear hb hC hl1
      rintro E84 w83 ⟨l6_1, v27_1, Al6_1, ml6_1, cl6_1, e2, e6, hrv27_1, hC, hb⟩
      obtain ⟨rfl, hll6_1, hcl6_1⟩ := (hC.ow (i := 0) rfl).sl_len
      refine hK49 _ _ ?_
      refine Wc.seq fun K85 hK85 => ?_
      refine Wc.region (by decide +kernel) ?_
      refine lex.pure (v := .slice Al6_1 l6_1.length cl6_1) (pu_move e6) ?_
      refine lex.pure (v := .slice Al6_1 l6_1.length cl6_1) (pu_assign rfl) ?_
      refine lex.nil ?_
      refine hK85 _ _ ?_
      obtain rfl := Option.some.inj hb
      refine Wc.ret ?_
      refine hKR _ _ ?_
      refine ⟨_, res1 Try.results22 (show RV _ _ _ (.tmp _) (.slice Al6_1 l6_1.length cl6_1) from rfl), _, rfl, Al6_1, l6_1.length, cl6_1, rfl, hC.sel [0] (by decide)⟩
end Go.Proofs.Ytkeaonceaaafcaa
