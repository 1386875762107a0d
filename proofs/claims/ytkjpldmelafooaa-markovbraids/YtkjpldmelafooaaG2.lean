/- The walks: part 2. -/
import Derived.Test.YtkjpldmelafooaaS
import Derived.Test.YtkjpldmelafooaaG1
set_option linter.unusedVariables false
set_option linter.unusedSimpArgs false
namespace Go.Proofs.Ytkjpldmelafooaa
open Ev
set_option maxRecDepth 100000 in
set_option maxHeartbeats 4000000 in
theorem slices_Grow_Lint_int_nil_ok (n : Nat) {w : World} {O0 : List Nat} (hO : ∀ k ∈ O0, k < w.heap.size) {nx_1 : Int} (hnx_1 : I64 nx_1) {r : (List Int)} (hb : F.slices_Grow_Lint_int_nil n nx_1 = some r) :
    Calls Try.prog 60 #[.slice none 0 0, .int .i64 nx_1] w fun e w' => ∃ v, e = .returned v ∧ ∃ (A0 : Option Addr) (m0 c0 : Nat), v = .slice A0 m0 c0 ∧ Cx (fun _ => False) O0 w w' [.own 3 (.int .i64) (.slice A0 m0 c0) r] := by
  unfold F.slices_Grow_Lint_int_nil at hb
  have hC := Cx.start hO
  clear hO
  refine calls_of_Wc Try.func60 rfl (by rw [Try.ntmps60]; exact Nat.le_of_ble_eq_true rfl) fun KR hKR => ?_
  refine Wc.seq fun K1 hK1 => ?_
  refine Wc.region (by decide +kernel) ?_
  refine lex.pure (v := .slice none 0 0) (pu_assign rfl) ?_
  refine lex.nil ?_
  refine hK1 _ _ ?_
  refine Wc.seq fun K2 hK2 => ?_
  refine Wc.seq fun K3 hK3 => ?_
  refine Wc.region (by decide +kernel) ?_
  refine lex.pure (v := .int .i64 nx_1) (pu_move rfl) ?_
  refine lex.pure (v := .bool (decide (nx_1 < 0))) (pu_lss (k := .i64) (a := nx_1) (b := 0) rfl rfl) ?_
  refine lex.nil ?_
  refine hK3 _ _ ?_
  refine Wc.cond (t := (decide (nx_1 < 0))) (rfl) (fun hq4 => ?_) (fun hq4 => ?_)
  · replace hb := (cT hq4).symm.trans hb
    cases hb
  · replace hb := (cF hq4).symm.trans hb
    refine Wc.skip ?_
    refine hK2 _ _ ?_
    refine Wc.seq fun K5 hK5 => ?_
    refine Wc.seq fun K6 hK6 => ?_
    refine Wc.region (by decide +kernel) ?_
    refine lex.pure (v := .int .i64 nx_1) (pu_move rfl) ?_
    refine lex.pure (v := .slice none 0 0) (pu_move rfl) ?_
    refine lex.pure (v := .int .i64 0) (pu_cap (A := none) (n := 0) (m := 0) Try.underlying22 rfl) ?_
    refine lex.pure (v := .slice none 0 0) (pu_move rfl) ?_
    refine lex.pure (v := .int .i64 0) (pu_len (A := none) (n := 0) (m := 0) Try.underlying22 rfl) ?_
    obtain ⟨z7, h8, hb⟩ := bd hb
    refine lex.pure (v := .int .i64 z7) (pu_subc (a := 0) (b := 0) rfl rfl h8) ?_
    obtain ⟨z9, h10, hb⟩ := bd hb
    refine lex.pure (v := .int .i64 z9) (pu_subc (a := nx_1) (b := z7) rfl rfl h10) ?_
    refine lex.pure (v := .int .i64 z9) (pu_assign rfl) ?_
    refine lex.nil ?_
    refine hK6 _ _ ?_
    refine Wc.fresh fun E11 hE => ?_
    have e0 : E11 0 = .slice none 0 0 := (congrFun hE 0).trans rfl
    have e1 : E11 1 = .int .i64 z9 := (congrFun hE 1).trans rfl
    have e4 : E11 4 = .slice none 0 0 := (congrFun hE 4).trans rfl
    clear hE
    refine Wc.seq fun K12 hK12 => ?_
    refine Wc.region (by decide +kernel) ?_
    refine lex.pure (v := .int .i64 z9) (pu_move e1) ?_
    refine lex.pure (v := .bool (decide (0 < z9))) (pu_gtr (k := .i64) (a := z9) (b := 0) rfl rfl) ?_
    refine lex.nil ?_
    refine hK12 _ _ ?_
    refine Wc.cond (t := (decide (0 < z9))) (rfl) (fun hq13 => ?_) (fun hq13 => ?_)
    · replace hb := (cT hq13).symm.trans hb
      refine Wc.region (by decide +kernel) ?_
      refine lex.pure (v := .slice none 0 0) (pu_move e0) ?_
      refine lex.pure (v := .slice none 0 0) (pu_move e0) ?_
      refine lex.pure (v := .int .i64 0) (pu_cap (A := none) (n := 0) (m := 0) Try.underlying22 rfl) ?_
      refine lex.pure (v := .slice none 0 0) (pu_nilcut Try.underlying22 Try.sizeOf3 rfl rfl) ?_
      refine lex.pure (v := .int .i64 z9) (pu_move e1) ?_
      obtain ⟨u14, h15, hb⟩ := bd hb
      refine lex.op (hC.appz (s := (.int .i64)) (n := z9) Try.underlying22 Try.underlying3 Try.type3 rfl rfl rfl rfl rfl (posz_some h15).1 (posz_some h15).2 (by decide)) ?_
      rintro _ w20 ⟨A16, c17, rfl, hl18, hc19, hC, hF, hN⟩
      clear hF hN
      refine lex.pure (v := .slice none 0 0) (pu_move e0) ?_
      refine lex.pure (v := .int .i64 0) (pu_len (A := none) (n := 0) (m := 0) Try.underlying22 rfl) ?_
      obtain ⟨u22, h23, hb⟩ := bd hb
      refine lex.pure (v := .slice A16 (((List.replicate z9.toNat (0 : Int)).take (0 : Int).toNat).length) c17) (pu_cuth (b := 0) Try.underlying22 Try.sizeOf3 rfl rfl (hC.ow (i := 0) rfl).sl_len (cut_some h23)) ?_
      replace hC := hC.cuth (i := 0) rfl (k := (0 : Int).toNat) (by have := cut_some h23; omega)
      obtain ⟨-, hl24, hc25⟩ := (hC.ow (i := 0) rfl).sl_len
      refine lex.pure (v := .slice A16 (((List.replicate z9.toNat (0 : Int)).take (0 : Int).toNat).length) c17) (pu_assign rfl) ?_
      refine lex.nil ?_
      refine hK5 _ _ ?_
      refine Wc.seq fun K26 hK26 => ?_
      refine Wc.region (by decide +kernel) ?_
      refine lex.pure (v := .slice A16 (((List.replicate z9.toNat (0 : Int)).take (0 : Int).toNat).length) c17) (pu_move rfl) ?_
      refine lex.pure (v := .slice A16 (((List.replicate z9.toNat (0 : Int)).take (0 : Int).toNat).length) c17) (pu_assign rfl) ?_
      refine lex.nil ?_
      refine hK26 _ _ ?_
      obtain rfl := Option.some.inj hb
      refine Wc.ret ?_
      refine hKR _ _ ?_
      refine ⟨_, res1 Try.results60 (show RV _ _ _ (.tmp _) (.slice A16 (((List.replicate z9.toNat (0 : Int)).take (0 : Int).toNat).length) c17) from rfl), _, rfl, A16, ((List.replicate z9.toNat (0 : Int)).take (0 : Int).toNat).length, c17, rfl, hC.sel [0] (by decide)⟩
    · replace hb := (cF hq13).symm.trans hb
      refine Wc.skip ?_
      refine hK5 _ _ ?_
      refine Wc.seq fun K27 hK27 => ?_
      refine Wc.region (by decide +kernel) ?_
      refine lex.pure (v := .slice none 0 0) (pu_move e0) ?_
      refine lex.pure (v := .slice none 0 0) (pu_assign rfl) ?_
      refine lex.nil ?_
      refine hK27 _ _ ?_
      replace hC := hC.nil 3 (.int .i64)
      obtain rfl := Option.some.inj hb
      refine Wc.ret ?_
      refine hKR _ _ ?_
      refine ⟨_, res1 Try.results60 (show RV _ _ _ (.tmp _) (.slice none 0 0) from rfl), _, rfl, none, 0, 0, rfl, hC.sel [0] (by decide)⟩

set_option maxRecDepth 100000 in
set_option maxHeartbeats 4000000 in
theorem slices_Concat_Lint_int_ok (n : Nat) {w : World} {O0 : List Nat} (hO : ∀ k ∈ O0, k < w.heap.size) {Aslices_0 : Option Addr} {mslices_0 cslices_0 : Nat} {slices_0 : List (List Int)} (hslices_0 : Rep O0 w (.sl (.sl (.int .i64))) [.slice Aslices_0 mslices_0 cslices_0] slices_0) {r : (List Int)} (hb : F.slices_Concat_Lint_int n slices_0 = some r) :
    Calls Try.prog 39 #[.slice Aslices_0 mslices_0 cslices_0] w fun e w' => ∃ v, e = .returned v ∧ ∃ (A0 : Option Addr) (m0 c0 : Nat), v = .slice A0 m0 c0 ∧ Cx (fun _ => False) O0 w w' [.own 3 (.int .i64) (.slice A0 m0 c0) r] := by
  unfold F.slices_Concat_Lint_int at hb
  have hC := Cx.start hO
  replace hC := hC.arg rfl hslices_0
  clear hO
  obtain ⟨rfl, hlslices_0, hcslices_0⟩ := hslices_0.sl_len
  refine calls_of_Wc Try.func39 rfl (by rw [Try.ntmps39]; exact Nat.le_of_ble_eq_true rfl) fun KR hKR => ?_
  refine Wc.seq fun K2 hK2 => ?_
  refine Wc.region (by decide +kernel) ?_
  refine lex.pure (v := .slice none 0 0) (pu_assign rfl) ?_
  refine lex.nil ?_
  refine hK2 _ _ ?_
  refine Wc.seq fun K3 hK3 => ?_
  refine Wc.region (by decide +kernel) ?_
  refine lex.pure (v := .int .i64 0) (pu_assign rfl) ?_
  refine lex.nil ?_
  refine hK3 _ _ ?_
  refine Wc.seq fun K4 hK4 => ?_
  refine Wc.seq fun K5 hK5 => ?_
  refine Wc.region (by decide +kernel) ?_
  refine lex.pure (v := .slice Aslices_0 slices_0.length cslices_0) (pu_move rfl) ?_
  refine lex.pure (v := .int .i64 (slices_0.length : Int)) (pu_len (A := Aslices_0) (n := slices_0.length) (m := cslices_0) Try.underlying89 rfl) ?_
  refine lex.pure (v := .int .i64 0) (pu_move rfl) ?_
  refine lex.nil ?_
  refine hK5 _ _ ?_
  obtain ⟨o6, hl0, hb⟩ := bd hb
  refine Wc.cut (fun E wv => ∃ (v3_0 : Int) (v11_0 : Int), E 0 = .slice Aslices_0 slices_0.length cslices_0 ∧ E 2 = .slice none 0 0 ∧ E 3 = .int .i64 v3_0 ∧ I64 v3_0 ∧ I64 v11_0 ∧ Cx (fun _ => False) O0 w wv [.ro (.sl (.sl (.int .i64))) [.slice Aslices_0 slices_0.length cslices_0] slices_0] ∧ ((F.slices_Grow_Lint_int_nil n v3_0).bind fun y40 => ((loopN n (F.slices_Concat_Lint_int_b1 n slices_0) (y40, 0)).bind fun o51 => match o51 with     | (l6_1, v27_1) => some l6_1) : Option ((List Int))) = some r) (fun K7 hK7 => ?_) ?_
  · refine Wc.block ?_
    refine Wc.loop (fun m E wv => ∃ (v3_0 : Int) (v11_0 : Int), E 0 = .slice Aslices_0 slices_0.length cslices_0 ∧ E 2 = .slice none 0 0 ∧ E 3 = .int .i64 v3_0 ∧ E 9 = .slice Aslices_0 slices_0.length cslices_0 ∧ E 10 = .int .i64 (slices_0.length : Int) ∧ E 11 = .int .i64 v11_0 ∧ I64 v3_0 ∧ I64 v11_0 ∧ Cx (fun _ => False) O0 w wv [.ro (.sl (.sl (.int .i64))) [.slice Aslices_0 slices_0.length cslices_0] slices_0] ∧ loopN m (F.slices_Concat_Lint_int_b0 n slices_0) (v3_0, v11_0) = some o6) n ⟨0, 0, rfl, rfl, rfl, rfl, rfl, rfl, (show I64 0 from by unfold I64; omega), (show I64 0 from by unfold I64; omega), hC.sel [0] (by decide), hl0⟩ ?_
    have hbK0 := hb
    clear hb hC hl0
    rintro m9 E11 w10 ⟨v3_0, v11_0, e0, e2, e3, e9, e10, e11, hrv3_0, hrv11_0, hC, hl0⟩ K8 hK8
    obtain ⟨m9', o12, rfl, hb, hl0⟩ := loopN_some hl0
    unfold F.slices_Concat_Lint_int_b0 at hb
    refine Wc.seq fun K13 hK13 => ?_
    refine Wc.region (by decide +kernel) ?_
    refine lex.pure (v := .bool (decide (v11_0 < (slices_0.length : Int)))) (pu_lss (k := .i64) (a := v11_0) (b := (slices_0.length : Int)) e11 e10) ?_
    refine lex.nil ?_
    refine hK13 _ _ ?_
    refine Wc.seq fun K14 hK14 => ?_
    refine Wc.cond (t := (decide (v11_0 < (slices_0.length : Int)))) (rfl) (fun hq15 => ?_) (fun hq15 => ?_)
    · replace hb := (cT hq15).symm.trans hb
      refine Wc.skip ?_
      refine hK14 _ _ ?_
      refine Wc.seq fun K16 hK16 => ?_
      refine Wc.block ?_
      refine Wc.seq fun K17 hK17 => ?_
      refine Wc.region (by decide +kernel) ?_
      obtain ⟨x18, h19, hb⟩ := bd hb
      obtain ⟨ad20, cs21, hA, hc22, hr23⟩ := hC.elr (i := 0) rfl (get_some h19).2
      subst hA
      refine lex.pure (v := .pointer (some (ad20.add (v11_0.toNat * 1)))) (pu_index (a := v11_0) Try.underlying89 Try.sizeOf22 e9 e11 (get_some h19).1) ?_
      have hR := hr23
      obtain ⟨A24, c25, rfl, hl26, hc27, _⟩ := hr23
      replace hC := hC.ro hR
      clear hR
      refine lex.val (v := .slice A24 x18.length c25) (ld_one Try.isAgg22 rfl (hc22 0 _ rfl)) ?_
      refine lex.pure (v := .slice A24 x18.length c25) (pu_assign rfl) ?_
      refine lex.nil ?_
      refine hK17 _ _ ?_
      refine Wc.seq fun K29 hK29 => ?_
      refine Wc.region (by decide +kernel) ?_
      refine lex.pure (v := .int .i64 v3_0) (pu_move e3) ?_
      refine lex.pure (v := .slice A24 x18.length c25) (pu_move rfl) ?_
      refine lex.pure (v := .int .i64 (x18.length : Int)) (pu_len (A := A24) (n := x18.length) (m := c25) Try.underlying22 rfl) ?_
      obtain ⟨z30, h31, hb⟩ := bd hb
      refine lex.pure (v := .int .i64 z30) (pu_addc (a := v3_0) (b := (x18.length : Int)) rfl rfl h31) ?_
      refine lex.pure (v := .int .i64 z30) (pu_assign rfl) ?_
      refine lex.nil ?_
      refine hK29 _ _ ?_
      refine Wc.seq fun K32 hK32 => ?_
      refine Wc.region (by decide +kernel) ?_
      refine lex.pure (v := .int .i64 z30) (pu_move rfl) ?_
      refine lex.pure (v := .bool (decide (z30 < 0))) (pu_lss (k := .i64) (a := z30) (b := 0) rfl rfl) ?_
      refine lex.nil ?_
      refine hK32 _ _ ?_
      refine Wc.fresh fun E33 hE => ?_
      have e0 : E33 0 = .slice (some ad20) slices_0.length cslices_0 := (congrFun hE 0).trans e0
      have e2 : E33 2 = .slice none 0 0 := (congrFun hE 2).trans e2
      have e3 : E33 3 = .int .i64 z30 := (congrFun hE 3).trans rfl
      have e5 : E33 5 = .slice A24 x18.length c25 := (congrFun hE 5).trans rfl
      have e9 : E33 9 = .slice (some ad20) slices_0.length cslices_0 := (congrFun hE 9).trans e9
      have e10 : E33 10 = .int .i64 (slices_0.length : Int) := (congrFun hE 10).trans e10
      have e11 : E33 11 = .int .i64 v11_0 := (congrFun hE 11).trans e11
      have e12 : E33 12 = .bool (decide (v11_0 < (slices_0.length : Int))) := (congrFun hE 12).trans rfl
      have e20 : E33 20 = .bool (decide (z30 < 0)) := (congrFun hE 20).trans rfl
      clear hE
      refine Wc.cond (t := (decide (z30 < 0))) (e20) (fun hq34 => ?_) (fun hq34 => ?_)
      · replace hb := (cT hq34).symm.trans hb
        cases hb
      · replace hb := (cF hq34).symm.trans hb
        refine Wc.skip ?_
        refine hK16 _ _ ?_
        refine Wc.region (by decide +kernel) ?_
        obtain ⟨z35, h36, hb⟩ := bd hb
        refine lex.pure (v := .int .i64 z35) (pu_addc (a := v11_0) (b := 1) e11 rfl h36) ?_
        refine lex.pure (v := .int .i64 z35) (pu_move rfl) ?_
        refine lex.nil ?_
        obtain rfl := Option.some.inj hb
        exact hK8 m9' _ _ (Nat.lt_succ_self _) ⟨z30, z35, e0, e2, e3, e9, e10, rfl, (chk_rng h31), (chk_rng h36), hC.sel [1] (by decide), lN hl0⟩
    · replace hb := (cF hq15).symm.trans hb
      refine Wc.exit rfl ?_
      obtain rfl := Option.some.inj hb
      obtain rfl := (lX hl0).symm
      exact hK7 _ _ ⟨v3_0, v11_0, e0, e2, e3, hrv3_0, hrv11_0, hC.sel [0] (by decide), hbK0⟩
  · clear hb hC hl0
    rintro E38 w37 ⟨v3_0, v11_0, e0, e2, e3, hrv3_0, hrv11_0, hC, hb⟩
    refine hK4 _ _ ?_
    refine Wc.seq fun K39 hK39 => ?_
    refine Wc.region (by decide +kernel) ?_
    refine lex.pure (v := .int .i64 v3_0) (pu_move e3) ?_
    obtain ⟨y40, h41, hb⟩ := bd hb
    refine lex.cl (⟨_, _, op_call (vs := [.slice none 0 0, .int .i64 v3_0]) Try.call60 rfl rfl rfl, slices_Grow_Lint_int_nil_ok n hC.lt hrv3_0 h41⟩) ?_
    rintro _ w46 ⟨A42, m43, c44, rfl, hK⟩
    replace hC := hC.merge hK
    clear hK
    obtain ⟨rfl, hl47, hc48⟩ := (hC.ow (i := 0) rfl).sl_len
    refine lex.pure (v := .slice A42 y40.length c44) (pu_assign rfl) ?_
    refine lex.nil ?_
    refine hK39 _ _ ?_
    refine Wc.seq fun K49 hK49 => ?_
    refine Wc.seq fun K50 hK50 => ?_
    refine Wc.region (by decide +kernel) ?_
    refine lex.pure (v := .slice Aslices_0 slices_0.length cslices_0) (pu_move e0) ?_
    refine lex.pure (v := .int .i64 (slices_0.length : Int)) (pu_len (A := Aslices_0) (n := slices_0.length) (m := cslices_0) Try.underlying89 rfl) ?_
    refine lex.pure (v := .int .i64 0) (pu_move rfl) ?_
    refine lex.nil ?_
    refine hK50 _ _ ?_
    obtain ⟨o51, hl1, hb⟩ := bd hb
    refine Wc.cut (fun E wv => ∃ (l6_1 : List Int) (v27_1 : Int) (Al6_1 : Option Addr) (ml6_1 cl6_1 : Nat), E 2 = .slice none 0 0 ∧ E 6 = .slice Al6_1 ml6_1 cl6_1 ∧ I64 v27_1 ∧ Cx (fun _ => False) O0 w wv [.own 3 (.int .i64) (.slice Al6_1 ml6_1 cl6_1) l6_1] ∧ (some l6_1 : Option ((List Int))) = some r) (fun K52 hK52 => ?_) ?_
    · refine Wc.block ?_
      refine Wc.loop (fun m E wv => ∃ (l6_1 : List Int) (v27_1 : Int) (Al6_1 : Option Addr) (ml6_1 cl6_1 : Nat), E 2 = .slice none 0 0 ∧ E 6 = .slice Al6_1 ml6_1 cl6_1 ∧ E 25 = .slice Aslices_0 slices_0.length cslices_0 ∧ E 26 = .int .i64 (slices_0.length : Int) ∧ E 27 = .int .i64 v27_1 ∧ I64 v27_1 ∧ Cx (fun _ => False) O0 w wv [.own 3 (.int .i64) (.slice Al6_1 ml6_1 cl6_1) l6_1, .ro (.sl (.sl (.int .i64))) [.slice Aslices_0 slices_0.length cslices_0] slices_0] ∧ loopN m (F.slices_Concat_Lint_int_b1 n slices_0) (l6_1, v27_1) = some o51) n ⟨y40, 0, A42, y40.length, c44, e2, rfl, rfl, rfl, rfl, (show I64 0 from by unfold I64; omega), hC.sel [0, 1] (by decide), hl1⟩ ?_
      have hbK1 := hb
      clear hb hC hl1
      rintro m54 E56 w55 ⟨l6_1, v27_1, Al6_1, ml6_1, cl6_1, e2, e6, e25, e26, e27, hrv27_1, hC, hl1⟩ K53 hK53
      obtain ⟨m54', o57, rfl, hb, hl1⟩ := loopN_some hl1
      unfold F.slices_Concat_Lint_int_b1 at hb
      obtain ⟨rfl, hll6_1, hcl6_1⟩ := (hC.ow (i := 0) rfl).sl_len
      refine Wc.seq fun K58 hK58 => ?_
      refine Wc.region (by decide +kernel) ?_
      refine lex.pure (v := .bool (decide (v27_1 < (slices_0.length : Int)))) (pu_lss (k := .i64) (a := v27_1) (b := (slices_0.length : Int)) e27 e26) ?_
      refine lex.nil ?_
      refine hK58 _ _ ?_
      refine Wc.seq fun K59 hK59 => ?_
      refine Wc.cond (t := (decide (v27_1 < (slices_0.length : Int)))) (rfl) (fun hq60 => ?_) (fun hq60 => ?_)
      · replace hb := (cT hq60).symm.trans hb
        refine Wc.skip ?_
        refine hK59 _ _ ?_
        refine Wc.seq fun K61 hK61 => ?_
        refine Wc.block ?_
        refine Wc.seq fun K62 hK62 => ?_
        refine Wc.region (by decide +kernel) ?_
        obtain ⟨x63, h64, hb⟩ := bd hb
        obtain ⟨ad65, cs66, hA, hc67, hr68⟩ := hC.elr (i := 1) rfl (get_some h64).2
        subst hA
        refine lex.pure (v := .pointer (some (ad65.add (v27_1.toNat * 1)))) (pu_index (a := v27_1) Try.underlying89 Try.sizeOf22 e25 e27 (get_some h64).1) ?_
        have hR := hr68
        obtain ⟨A69, c70, rfl, hl71, hc72, _⟩ := hr68
        replace hC := hC.ro hR
        clear hR
        refine lex.val (v := .slice A69 x63.length c70) (ld_one Try.isAgg22 rfl (hc67 0 _ rfl)) ?_
        refine lex.pure (v := .slice A69 x63.length c70) (pu_assign rfl) ?_
        refine lex.nil ?_
        refine hK62 _ _ ?_
        refine Wc.region (by decide +kernel) ?_
        refine lex.pure (v := .slice Al6_1 l6_1.length cl6_1) (pu_move e6) ?_
        refine lex.pure (v := .slice A69 x63.length c70) (pu_move rfl) ?_
        obtain ⟨u74, h75, hb⟩ := bd hb
        refine lex.op (hC.app (i := 1) (s := (.int .i64)) (xs := l6_1) (ys := x63) (m := x63.length) rfl Try.underlying22 Try.underlying22 Try.type3 rfl rfl rfl (hC.srcr (i := 0) rfl) rfl rfl (by have := lim_some h75; simp at this ⊢ <;> omega) (by decide)) ?_
        rintro _ w80 ⟨A76, c77, rfl, hl78, hc79, hC, hF, hN⟩
        clear hF hN
        refine lex.pure (v := .slice A76 ((l6_1 ++ x63).length) c77) (pu_assign rfl) ?_
        refine lex.nil ?_
        refine hK61 _ _ ?_
        refine Wc.region (by decide +kernel) ?_
        obtain ⟨z81, h82, hb⟩ := bd hb
        refine lex.pure (v := .int .i64 z81) (pu_addc (a := v27_1) (b := 1) e27 rfl h82) ?_
        refine lex.pure (v := .int .i64 z81) (pu_move rfl) ?_
        refine lex.nil ?_
        obtain rfl := Option.some.inj hb
        exact hK53 m54' _ _ (Nat.lt_succ_self _) ⟨(l6_1 ++ x63), z81, A76, (l6_1 ++ x63).length, c77, e2, rfl, e25, e26, rfl, (chk_rng h82), hC.sel [1, 2] (by decide), lN hl1⟩
      · replace hb := (cF hq60).symm.trans hb
        refine Wc.exit rfl ?_
        obtain rfl := Option.some.inj hb
        obtain rfl := (lX hl1).symm
        exact hK52 _ _ ⟨l6_1, v27_1, Al6_1, l6_1.length, cl6_1, e2, e6, hrv27_1, hC.sel [0] (by decide), hbK1⟩
    · clear hb hC hl1
      rintro E84 w83 ⟨l6_1, v27_1, Al6_1, ml6_1, cl6_1, e2, e6, hrv27_1, hC, hb⟩
      obtain ⟨rfl, hll6_1, hcl6_1⟩ := (hC.ow (i := 0) rfl).sl_len
      refine hK49 _ _ ?_
      refine Wc.seq fun K85 hK85 => ?_
      refine Wc.region (by decide +kernel) ?_
      refine lex.pure (v := .slice Al6_1 l6_1.length cl6_1) (pu_move e6) ?_
      refine lex.pure (v := .slice Al6_1 l6_1.length cl6_1) (pu_assign rfl) ?_
      refine lex.nil ?_
      refine hK85 _ _ ?_
      obtain rfl := Option.some.inj hb
      refine Wc.ret ?_
      refine hKR _ _ ?_
      refine ⟨_, res1 Try.results39 (show RV _ _ _ (.tmp _) (.slice Al6_1 l6_1.length cl6_1) from rfl), _, rfl, Al6_1, l6_1.length, cl6_1, rfl, hC.sel [0] (by decide)⟩

def insRen : Go.Shelf.Ren := ⟨fun x => match x with | 21 => 58 | 27 => 76 | 28 => 77 | 35 => 92 | 39 => 103 | _ => 0, fun x => match x with | 0 => 0 | 3 => 3 | 4 => 4 | 22 => 22 | _ => 0, fun _ => 0⟩
theorem insLays : Go.Proofs.Lays2.n21 Try.prog insRen where
  mixed := mixed
  f21 := by kernel_rfl
  f27 := by kernel_rfl
  f28 := by kernel_rfl
  f35 := by kernel_rfl
  f39 := by kernel_rfl
  t0 := Try.underlying0
  a0 := Try.isAgg0
  z0 := Try.sizeOf0
  v0 := Try.zeroValue0
  t3 := Try.underlying3
  a3 := Try.isAgg3
  z3 := Try.sizeOf3
  v3 := Try.zeroValue3
  t4 := Try.underlying4
  a4 := Try.isAgg4
  z4 := Try.sizeOf4
  v4 := Try.zeroValue4
  t22 := Try.underlying22
  a22 := Try.isAgg22
  z22 := Try.sizeOf22
  v22 := Try.zeroValue22
  i3 := by kernel_rfl
theorem slices_Insert_Lint_int_ok (n : Nat) {w : World} {O0 : List Nat} (hO : ∀ k ∈ O0, k < w.heap.size) {A0 : Option Addr} {m0 c0 : Nat} {s_0 : List Int} {i_1 : Int} (hi_1 : I64 i_1) {A2 : Option Addr} {m2 c2 : Nat} {v_2 : List Int} (hio : Tk O0 w [.own 3 (.int .i64) (.slice A0 m0 c0) s_0, .own 3 (.int .i64) (.slice A2 m2 c2) v_2]) {r : List Int} (hb : F.slices_Insert_Lint_int n s_0 i_1 v_2 = some r) :
    Calls Try.prog 58 #[.slice A0 m0 c0, .int .i64 i_1, .slice A2 m2 c2] w fun e w' => ∃ v, e = .returned v ∧ ∃ (A1 : Option Addr) (m1 c1 : Nat), v = .slice A1 m1 c1 ∧ Cx (fun k => k ∈ blocks [.own 3 (.int .i64) (.slice A0 m0 c0) s_0, .own 3 (.int .i64) (.slice A2 m2 c2) v_2]) O0 w w' [.own 3 (.int .i64) (.slice A1 m1 c1) r] :=
  insert_calls insLays hO rfl rfl hio hb

def delRen : Go.Shelf.Ren := ⟨fun x => match x with | 23 => 59 | _ => 0, fun x => match x with | 0 => 0 | 3 => 3 | 4 => 4 | 22 => 22 | _ => 0, fun _ => 0⟩
theorem delLays : Go.Proofs.Lays2.n23 Try.prog delRen where
  mixed := mixed
  f23 := by kernel_rfl
  t0 := Try.underlying0
  a0 := Try.isAgg0
  z0 := Try.sizeOf0
  v0 := Try.zeroValue0
  t3 := Try.underlying3
  a3 := Try.isAgg3
  z3 := Try.sizeOf3
  v3 := Try.zeroValue3
  t4 := Try.underlying4
  a4 := Try.isAgg4
  z4 := Try.sizeOf4
  v4 := Try.zeroValue4
  t22 := Try.underlying22
  a22 := Try.isAgg22
  z22 := Try.sizeOf22
  v22 := Try.zeroValue22
  i3 := by kernel_rfl
theorem slices_Delete_Lint_int_ok (n : Nat) {w : World} {O0 : List Nat} (hO : ∀ k ∈ O0, k < w.heap.size) {A0 : Option Addr} {m0 c0 : Nat} {s_0 : List Int} {i_1 : Int} (hi_1 : I64 i_1) {j_2 : Int} (hj_2 : I64 j_2) (hio : Tk O0 w [.own 3 (.int .i64) (.slice A0 m0 c0) s_0]) {r : List Int} (hb : F.slices_Delete_Lint_int n s_0 i_1 j_2 = some r) :
    Calls Try.prog 59 #[.slice A0 m0 c0, .int .i64 i_1, .int .i64 j_2] w fun e w' => ∃ v, e = .returned v ∧ ∃ (A1 : Option Addr) (m1 c1 : Nat), v = .slice A1 m1 c1 ∧ Cx (fun k => k ∈ blocks [.own 3 (.int .i64) (.slice A0 m0 c0) s_0]) O0 w w' [.own 3 (.int .i64) (.slice A1 m1 c1) r] :=
  delete_calls delLays hO rfl rfl hio hb

set_option maxRecDepth 100000 in
set_option maxHeartbeats 4000000 in
theorem markov_change_ok (n : Nat) {w : World} {O0 : List Nat} (hO : ∀ k ∈ O0, k < w.heap.size) {b_0_0 : Int} (hb_0_0 : I64 b_0_0) {Ab_0_1 : Option Addr} {mb_0_1 cb_0_1 : Nat} {b_0_1 : List Int} (hb_0_1 : Rep O0 w (.sl (.int .i64)) [.slice Ab_0_1 mb_0_1 cb_0_1] b_0_1) {s_1_0 : Int} (hs_1_0 : I64 s_1_0) {s_1_1 : Int} (hs_1_1 : I64 s_1_1) {s_1_2 : Int} (hs_1_2 : I64 s_1_2) {r : Int × (List Int) × Int × Int × Int} (hb : F.markov_change n b_0_0 b_0_1 s_1_0 s_1_1 s_1_2 = some r) :
    Calls Try.prog 33 #[.agg #[.int .i64 b_0_0, .slice Ab_0_1 mb_0_1 cb_0_1], .agg #[.int .i64 s_1_0, .int .i64 s_1_1, .int .i64 s_1_2]] w fun e w' => ∃ v, e = .returned v ∧ ∃ (A1 : Option Addr) (m1 c1 : Nat), v = .tuple #[.agg #[.int .i64 r.1, .slice A1 m1 c1], .agg #[.int .i64 r.2.2.1, .int .i64 r.2.2.2.1, .int .i64 r.2.2.2.2]] ∧ I64 r.1 ∧ I64 r.2.2.1 ∧ I64 r.2.2.2.1 ∧ I64 r.2.2.2.2 ∧ Cx (fun _ => False) O0 w w' [.ro (.sl (.int .i64)) [.slice A1 m1 c1] r.2.1] := by
  unfold F.markov_change at hb
  have hC := Cx.start hO
  replace hC := hC.arg rfl hb_0_1
  clear hO
  obtain ⟨rfl, hlb_0_1, hcb_0_1⟩ := hb_0_1.sl_len
  refine calls_of_Wc Try.func33 rfl (by rw [Try.ntmps33]; exact Nat.le_of_ble_eq_true rfl) fun KR hKR => ?_
  refine Wc.seq fun K2 hK2 => ?_
  refine Wc.region (by decide +kernel) ?_
  refine lex.op (hC.box (cs := [.int .i64 b_0_0, .slice Ab_0_1 b_0_1.length cb_0_1]) rfl rfl) ?_
  rintro _ w4 ⟨g3, rfl, hC, hF, hG⟩
  clear hG
  refine lex.op (hC.box (cs := [.int .i64 s_1_0, .int .i64 s_1_1, .int .i64 s_1_2]) rfl rfl) ?_
  rintro _ w7 ⟨g6, rfl, hC, hF, hG⟩
  clear hG
  refine lex.op (hC.alloc (cs := [.int .i64 0, .slice none 0 0]) Try.zeroValue27 rfl) ?_
  rintro _ w10 ⟨g9, rfl, hC, hF, hG⟩
  clear hG
  refine lex.op (hC.alloc (cs := [.int .i64 0, .int .i64 0, .int .i64 0]) Try.zeroValue28 rfl) ?_
  rintro _ w13 ⟨g12, rfl, hC, hF, hG⟩
  clear hG
  refine lex.nil ?_
  refine hK2 _ _ ?_
  refine Wc.seq fun K15 hK15 => ?_
  refine Wc.regionMix [] (frm [] ([] : List Fact) ([] : List Fact)) (fun _ => rfl) mixed (by decide +kernel) (by decide +kernel) fun w17 hw16 => ?_
  replace hC := hC.step (Fr.of_drew hw16)
  have hM := Fr.refl (fun k => k ∈ blocks ([] : List Fact)) w17
  clear hw16
  have hS := hC
  refine mixE.pure (v := .pointer (some ((⟨g3, 0, none⟩ : Addr).add 1))) (pu_field (sz := 1) Try.underlying27 rfl Try.sizeOf22 (by decide) rfl rfl) ?_
  refine mixE.load hM (v := .slice Ab_0_1 b_0_1.length cb_0_1) (fun _ hF => ld_fld (hS.bx2 (i := 3) rfl [] (by decide) hF) Try.isAgg22 rfl rfl) ?_
  refine mixE.pure (v := .int .i64 (b_0_1.length : Int)) (pu_len (A := Ab_0_1) (n := b_0_1.length) (m := cb_0_1) Try.underlying22 rfl) ?_
  refine mixE.pure (v := .pointer (some ((⟨g3, 0, none⟩ : Addr).add 1))) (pu_field (sz := 1) Try.underlying27 rfl Try.sizeOf22 (by decide) rfl rfl) ?_
  refine mixE.load hM (v := .slice Ab_0_1 b_0_1.length cb_0_1) (fun _ hF => ld_fld (hS.bx2 (i := 3) rfl [] (by decide) hF) Try.isAgg22 rfl rfl) ?_
  obtain ⟨y18, h19, hb⟩ := bd hb
  refine mixE.cl hM (⟨_, _, op_call (vs := [.slice Ab_0_1 b_0_1.length cb_0_1]) Try.call36 rfl rfl rfl, slices_Clone_Lint_int_ok n hC.lt (hC.rd (i := 4) rfl) h19⟩) ?_
  rintro _ w24 ⟨A20, m21, c22, rfl, hK⟩
  have hBf23 := Beside.cl (i := 0) hM hK rfl
  replace hM := hM.none hK.fr
  refine ⟨hM, ?_⟩
  replace hC := hC.merge hK
  clear hK
  obtain ⟨rfl, hl25, hc26⟩ := (hC.ow (i := 0) rfl).sl_len
  refine mixE.pure (v := .int .i64 (b_0_1.length : Int)) (pu_assign rfl) ?_
  refine mixE.pure (v := .slice A20 y18.length c22) (pu_assign rfl) ?_
  refine mixE.nil ?_
  clear hS hM
  refine hK15 _ _ ?_
  refine Wc.fresh fun E27 hE => ?_
  have e2 : E27 2 = .pointer (some ⟨g3, 0, none⟩) := (congrFun hE 2).trans rfl
  have e3 : E27 3 = .pointer (some ⟨g6, 0, none⟩) := (congrFun hE 3).trans rfl
  have e4 : E27 4 = .pointer (some ⟨g9, 0, none⟩) := (congrFun hE 4).trans rfl
  have e5 : E27 5 = .pointer (some ⟨g12, 0, none⟩) := (congrFun hE 5).trans rfl
  have e6 : E27 6 = .int .i64 (b_0_1.length : Int) := (congrFun hE 6).trans rfl
  have e7 : E27 7 = .slice A20 y18.length c22 := (congrFun hE 7).trans rfl
  clear hE
  refine Wc.seq fun K28 hK28 => ?_
  refine Wc.region (by decide +kernel) ?_
  refine lex.val (v := .agg #[.int .i64 s_1_0, .int .i64 s_1_1, .int .i64 s_1_2]) (ld_blk (hC.bx (i := 3) rfl) Try.isAgg28 Try.sizeOf28 e3) ?_
  refine lex.op (hC.alloc (cs := [.int .i64 0, .int .i64 0, .int .i64 0]) Try.zeroValue28 rfl) ?_
  rintro _ w30 ⟨g29, rfl, hC, hF, hG⟩
  clear hG
  refine lex.sk (hC.seta (i := 0) (ds := [.int .i64 s_1_0, .int .i64 s_1_1, .int .i64 s_1_2]) rfl Try.type28 rfl rfl rfl rfl rfl) ?_
  rintro w32 ⟨hC, hF⟩
  refine lex.nil ?_
  refine hK28 _ _ ?_
  refine Wc.seq fun K33 hK33 => ?_
  refine Wc.region (by decide +kernel) ?_
  refine lex.pure (v := .pointer (some ((⟨g3, 0, none⟩ : Addr).add 0))) (pu_field (sz := 1) Try.underlying27 rfl Try.sizeOf3 (by decide) rfl e2) ?_
  refine lex.val (v := .int .i64 b_0_0) (ld_fld (hC.bx (i := 5) rfl) Try.isAgg3 rfl rfl) ?_
  refine lex.pure (v := .int .i64 b_0_0) (pu_assign rfl) ?_
  refine lex.nil ?_
  refine hK33 _ _ ?_
  refine Wc.seqJ (fun E wv => ∃ (l7_0 : List Int) (v9_0 : Int) (bf31_0_0 : Int) (bf31_1_0 : Int) (bf31_2_0 : Int) (Al7_0 : Option Addr) (ml7_0 cl7_0 : Nat), E 4 = .pointer (some ⟨g9, 0, none⟩) ∧ E 5 = .pointer (some ⟨g12, 0, none⟩) ∧ E 7 = .slice Al7_0 ml7_0 cl7_0 ∧ E 8 = .pointer (some ⟨g29, 0, none⟩) ∧ E 9 = .int .i64 v9_0 ∧ I64 v9_0 ∧ I64 bf31_0_0 ∧ I64 bf31_1_0 ∧ I64 bf31_2_0 ∧ Cx (fun _ => False) O0 w wv [.box g9 27 [.int .i64 0, .slice none 0 0], .box g12 28 [.int .i64 0, .int .i64 0, .int .i64 0], .ro (.sl (.int .i64)) [.slice Al7_0 ml7_0 cl7_0] l7_0, .box g29 28 [.int .i64 bf31_0_0, .int .i64 bf31_1_0, .int .i64 bf31_2_0]] ∧ F.markov_change_j0 n l7_0 v9_0 bf31_0_0 bf31_1_0 bf31_2_0 = some r) (fun K34 hK34 => ?_) ?_
  ·
    skip
    refine Wc.seq fun K35 hK35 => ?_
    refine Wc.region (by decide +kernel) ?_
    refine lex.pure (v := .pointer (some ((⟨g6, 0, none⟩ : Addr).add 0))) (pu_field (sz := 1) Try.underlying28 rfl Try.sizeOf3 (by decide) rfl e3) ?_
    refine lex.val (v := .int .i64 s_1_0) (ld_fld (hC.bx (i := 4) rfl) Try.isAgg3 rfl rfl) ?_
    refine lex.nil ?_
    refine hK35 _ _ ?_
    refine Wc.block ?_
    refine Wc.seq fun K36 hK36 => ?_
    refine Wc.region (by decide +kernel) ?_
    refine lex.pure (v := .bool (decide (s_1_0 = 1))) (pu_eql (k := .i64) (a := s_1_0) (b := 1) rfl rfl) ?_
    refine lex.pure (v := .bool (decide (s_1_0 = 1))) (pu_assign rfl) ?_
    refine lex.nil ?_
    refine hK36 _ _ ?_
    refine Wc.cond (t := (decide (s_1_0 = 1))) (rfl) (fun hq37 => ?_) (fun hq37 => ?_)
    · replace hb := (cT hq37).symm.trans hb
      refine Wc.seq fun K38 hK38 => ?_
      refine Wc.seq fun K39 hK39 => ?_
      refine Wc.region (by decide +kernel) ?_
      refine lex.pure (v := .pointer (some ((⟨g6, 0, none⟩ : Addr).add 2))) (pu_field (sz := 1) Try.underlying28 rfl Try.sizeOf3 (by decide) rfl e3) ?_
      refine lex.val (v := .int .i64 s_1_2) (ld_fld (hC.bx (i := 4) rfl) Try.isAgg3 rfl rfl) ?_
      refine lex.pure (v := .bool (decide (s_1_2 = 0))) (pu_eql (k := .i64) (a := s_1_2) (b := 0) rfl rfl) ?_
      refine lex.nil ?_
      refine hK39 _ _ ?_
      refine Wc.fresh fun E40 hE => ?_
      have e3 : E40 3 = .pointer (some ⟨g6, 0, none⟩) := (congrFun hE 3).trans e3
      have e4 : E40 4 = .pointer (some ⟨g9, 0, none⟩) := (congrFun hE 4).trans e4
      have e5 : E40 5 = .pointer (some ⟨g12, 0, none⟩) := (congrFun hE 5).trans e5
      have e6 : E40 6 = .int .i64 (b_0_1.length : Int) := (congrFun hE 6).trans e6
      have e7 : E40 7 = .slice A20 y18.length c22 := (congrFun hE 7).trans e7
      have e8 : E40 8 = .pointer (some ⟨g29, 0, none⟩) := (congrFun hE 8).trans rfl
      have e9 : E40 9 = .int .i64 b_0_0 := (congrFun hE 9).trans rfl
      have e27 : E40 27 = .bool (decide (s_1_2 = 0)) := (congrFun hE 27).trans rfl
      clear hE
      refine Wc.cond (t := (decide (s_1_2 = 0))) (e27) (fun hq41 => ?_) (fun hq41 => ?_)
      · replace hb := (cT hq41).symm.trans hb
        refine Wc.region (by decide +kernel) ?_
        refine lex.pure (v := .pointer (some ((⟨g6, 0, none⟩ : Addr).add 1))) (pu_field (sz := 1) Try.underlying28 rfl Try.sizeOf3 (by decide) rfl e3) ?_
        refine lex.val (v := .int .i64 s_1_1) (ld_fld (hC.bx (i := 4) rfl) Try.isAgg3 rfl rfl) ?_
        refine lex.op (hC.lit (s := (.int .i64)) (vs := [.int .i64 s_1_1]) (xs := [s_1_1]) Try.underlying22 Try.type3 rfl rfl (Nat.le_of_ble_eq_true rfl) rfl rfl (by simp [Value.cells, Sh.n]) rfl (show Elems _ _ (.int .i64) ([.int .i64 s_1_1] ++ ([])) ([s_1_1] : List Int) from Elems.cons (⟨rfl, I64.wr hs_1_1⟩) (Elems.nil _ _ _))) ?_
        rintro _ w46 ⟨A42, c43, rfl, hl44, hc45, hC, hF, hN⟩
        clear hF hN
        refine lex.pure (v := .slice A20 y18.length c22) (pu_move e7) ?_
        refine lex.pure (v := .pointer (some ((⟨g6, 0, none⟩ : Addr).add 1))) (pu_field (sz := 1) Try.underlying28 rfl Try.sizeOf3 (by decide) rfl e3) ?_
        refine lex.val (v := .int .i64 s_1_1) (ld_fld (hC.bx (i := 5) rfl) Try.isAgg3 rfl rfl) ?_
        obtain ⟨z48, h49, hb⟩ := bd hb
        refine lex.pure (v := .int .i64 z48) (pu_negc (a := s_1_1) rfl h49) ?_
        refine lex.op (hC.lit (s := (.int .i64)) (vs := [.int .i64 z48]) (xs := [z48]) Try.underlying22 Try.type3 rfl rfl (Nat.le_of_ble_eq_true rfl) rfl rfl (by simp [Value.cells, Sh.n]) rfl (show Elems _ _ (.int .i64) ([.int .i64 z48] ++ ([])) ([z48] : List Int) from Elems.cons (⟨rfl, I64.wr (chk_rng h49)⟩) (Elems.nil _ _ _))) ?_
        rintro _ w54 ⟨A50, c51, rfl, hl52, hc53, hC, hF, hN⟩
        clear hF hN
        replace hC := hC.freeze (i := 1) rfl (hC.own_new (i := 1) rfl)
        replace hC := hC.freeze (i := 3) rfl (hC.own_new (i := 3) rfl)
        replace hC := hC.freeze (i := 0) rfl (hC.own_new (i := 0) rfl)
        refine lex.op (hC.lit (s := (.sl (.int .i64))) (vs := [.slice A42 ((([s_1_1] : List Int)).length) c43, .slice A20 y18.length c22, .slice A50 ((([z48] : List Int)).length) c51]) (xs := [([s_1_1] : List Int), y18, ([z48] : List Int)]) Try.underlying89 Try.type22 rfl rfl (Nat.le_of_ble_eq_true rfl) rfl rfl (by simp [Value.cells, Sh.n]) rfl (show Elems _ _ (.sl (.int .i64)) ([.slice A42 ((([s_1_1] : List Int)).length) c43] ++ ([.slice A20 y18.length c22] ++ ([.slice A50 ((([z48] : List Int)).length) c51] ++ ([])))) ([([s_1_1] : List Int), y18, ([z48] : List Int)] : List (List Int)) from Elems.cons (hC.rd (i := 1) rfl) (Elems.cons (hC.rd (i := 3) rfl) (Elems.cons (hC.rd (i := 0) rfl) (Elems.nil _ _ _))))) ?_
        rintro _ w60 ⟨A56, c57, rfl, hl58, hc59, hC, hF, hN⟩
        clear hF hN
        obtain ⟨y62, h63, hb⟩ := bd hb
        refine lex.cl (⟨_, _, op_call (vs := [.slice A56 ((([([s_1_1] : List Int), y18, ([z48] : List Int)] : List (List Int))).length) c57]) Try.call39 rfl rfl rfl, slices_Concat_Lint_int_ok n (hC.lentLt [.slice A56 ((([([s_1_1] : List Int), y18, ([z48] : List Int)] : List (List Int))).length) c57]) ((hC.ow (i := 0) rfl).lend (vs := [.slice A56 ((([([s_1_1] : List Int), y18, ([z48] : List Int)] : List (List Int))).length) c57]) (by simp)) h63⟩) ?_
        rintro _ w68 ⟨A64, m65, c66, rfl, hK⟩
        replace hC := hC.mergeF hK rfl
        clear hK
        obtain ⟨rfl, hl69, hc70⟩ := (hC.ow (i := 0) rfl).sl_len
        refine lex.pure (v := .slice A64 y62.length c66) (pu_assign rfl) ?_
        refine lex.nil ?_
        refine hK38 _ _ ?_
        refine Wc.fresh fun E71 hE => ?_
        have e3 : E71 3 = .pointer (some ⟨g6, 0, none⟩) := (congrFun hE 3).trans e3
        have e4 : E71 4 = .pointer (some ⟨g9, 0, none⟩) := (congrFun hE 4).trans e4
        have e5 : E71 5 = .pointer (some ⟨g12, 0, none⟩) := (congrFun hE 5).trans e5
        have e7 : E71 7 = .slice A64 y62.length c66 := (congrFun hE 7).trans rfl
        have e8 : E71 8 = .pointer (some ⟨g29, 0, none⟩) := (congrFun hE 8).trans e8
        have e9 : E71 9 = .int .i64 b_0_0 := (congrFun hE 9).trans e9
        clear hE
        refine Wc.region (by decide +kernel) ?_
        refine lex.pure (v := .pointer (some ((⟨g6, 0, none⟩ : Addr).add 1))) (pu_field (sz := 1) Try.underlying28 rfl Try.sizeOf3 (by decide) rfl e3) ?_
        refine lex.val (v := .int .i64 s_1_1) (ld_fld (hC.bx (i := 8) rfl) Try.isAgg3 rfl rfl) ?_
        obtain ⟨z72, h73, hb⟩ := bd hb
        refine lex.pure (v := .int .i64 z72) (pu_negc (a := s_1_1) rfl h73) ?_
        refine lex.pure (v := .pointer (some ((⟨g6, 0, none⟩ : Addr).add 2))) (pu_field (sz := 1) Try.underlying28 rfl Try.sizeOf3 (by decide) rfl e3) ?_
        refine lex.val (v := .int .i64 s_1_2) (ld_fld (hC.bx (i := 8) rfl) Try.isAgg3 rfl rfl) ?_
        obtain ⟨z74, h75, hb⟩ := bd hb
        refine lex.pure (v := .int .i64 z74) (pu_subc (a := 1) (b := s_1_2) rfl rfl h75) ?_
        refine lex.pure (v := .agg #[.int .i64 1, .int .i64 z72, .int .i64 z74]) (pu_builds (places := [(0, 1), (1, 1), (2, 1)]) (pv := [(0, .int .i64 1), (1, .int .i64 z72), (2, .int .i64 z74)]) Try.type28 Try.underlying28 rfl (mp_cons Try.type3 (mp_cons Try.type3 (mp_cons Try.type3 mp_nil rfl rfl) rfl rfl) rfl rfl) rfl (by simp [Instr.fill, Value.cells])) ?_
        refine lex.sk (hC.seta (i := 4) (ds := [.int .i64 1, .int .i64 z72, .int .i64 z74]) rfl Try.type28 rfl rfl rfl e8 rfl) ?_
        rintro w76 ⟨hC, hF⟩
        refine lex.nil ?_
        replace hC := hC.freeze (i := 0) rfl (hC.own_new (i := 0) rfl)
        exact hK34 _ _ ⟨y62, b_0_0, 1, z72, z74, A64, y62.length, c66, e4, e5, e7, e8, e9, hb_0_0, (show I64 1 from by unfold I64; omega), (chk_rng h73), (chk_rng h75), hC.sel [7, 6, 0, 4] (by decide), hb⟩
      · replace hb := (cF hq41).symm.trans hb
        refine Wc.region (by decide +kernel) ?_
        refine lex.pure (v := .slice A20 y18.length c22) (pu_move e7) ?_
        refine lex.pure (v := .int .i64 (b_0_1.length : Int)) (pu_move e6) ?_
        obtain ⟨z77, h78, hb⟩ := bd hb
        refine lex.pure (v := .int .i64 z77) (pu_subc (a := (b_0_1.length : Int)) (b := 1) rfl rfl h78) ?_
        obtain ⟨u79, h80, hb⟩ := bd hb
        replace hC := hC.freeze (i := 1) rfl (hC.own_new (i := 1) rfl)
        obtain ⟨A81, c82, hp85, hR86⟩ := pu_part_lh (a := 1) (b := z77) Try.underlying22 Try.sizeOf3 (hC.rd (i := 1) rfl) rfl (cut_some h80)
        refine lex.pure (v := .slice A81 (((y18.drop (1 : Int).toNat).take (z77.toNat - (1 : Int).toNat)).length) c82) (hp85 rfl rfl rfl) ?_
        replace hC := hC.ro hR86
        obtain ⟨-, hl83, hc84⟩ := (hC.rd (i := 0) rfl).sl_len
        refine lex.pure (v := .slice A81 (((y18.drop (1 : Int).toNat).take (z77.toNat - (1 : Int).toNat)).length) c82) (pu_assign rfl) ?_
        refine lex.nil ?_
        refine hK38 _ _ ?_
        refine Wc.region (by decide +kernel) ?_
        refine lex.pure (v := .pointer (some ((⟨g6, 0, none⟩ : Addr).add 1))) (pu_field (sz := 1) Try.underlying28 rfl Try.sizeOf3 (by decide) rfl e3) ?_
        refine lex.val (v := .int .i64 s_1_1) (ld_fld (hC.bx (i := 5) rfl) Try.isAgg3 rfl rfl) ?_
        obtain ⟨z88, h89, hb⟩ := bd hb
        refine lex.pure (v := .int .i64 z88) (pu_negc (a := s_1_1) rfl h89) ?_
        refine lex.pure (v := .pointer (some ((⟨g6, 0, none⟩ : Addr).add 2))) (pu_field (sz := 1) Try.underlying28 rfl Try.sizeOf3 (by decide) rfl e3) ?_
        refine lex.val (v := .int .i64 s_1_2) (ld_fld (hC.bx (i := 5) rfl) Try.isAgg3 rfl rfl) ?_
        obtain ⟨z90, h91, hb⟩ := bd hb
        refine lex.pure (v := .int .i64 z90) (pu_subc (a := 1) (b := s_1_2) rfl rfl h91) ?_
        refine lex.pure (v := .agg #[.int .i64 1, .int .i64 z88, .int .i64 z90]) (pu_builds (places := [(0, 1), (1, 1), (2, 1)]) (pv := [(0, .int .i64 1), (1, .int .i64 z88), (2, .int .i64 z90)]) Try.type28 Try.underlying28 rfl (mp_cons Try.type3 (mp_cons Try.type3 (mp_cons Try.type3 mp_nil rfl rfl) rfl rfl) rfl rfl) rfl (by simp [Instr.fill, Value.cells])) ?_
        refine lex.sk (hC.seta (i := 1) (ds := [.int .i64 1, .int .i64 z88, .int .i64 z90]) rfl Try.type28 rfl rfl rfl e8 rfl) ?_
        rintro w92 ⟨hC, hF⟩
        refine lex.nil ?_
        exact hK34 _ _ ⟨((y18.drop (1 : Int).toNat).take (z77.toNat - (1 : Int).toNat)), b_0_0, 1, z88, z90, A81, ((y18.drop (1 : Int).toNat).take (z77.toNat - (1 : Int).toNat)).length, c82, e4, e5, rfl, e8, e9, hb_0_0, (show I64 1 from by unfold I64; omega), (chk_rng h89), (chk_rng h91), hC.sel [4, 3, 0, 1] (by decide), hb⟩
    · replace hb := (cF hq37).symm.trans hb
      refine Wc.seq fun K93 hK93 => ?_
      refine Wc.region (by decide +kernel) ?_
      refine lex.pure (v := .bool (decide (s_1_0 = 2))) (pu_eql (k := .i64) (a := s_1_0) (b := 2) rfl rfl) ?_
      refine lex.pure (v := .bool (decide (s_1_0 = 2))) (pu_assign rfl) ?_
      refine lex.nil ?_
      refine hK93 _ _ ?_
      refine Wc.fresh fun E94 hE => ?_
      have e3 : E94 3 = .pointer (some ⟨g6, 0, none⟩) := (congrFun hE 3).trans e3
      have e4 : E94 4 = .pointer (some ⟨g9, 0, none⟩) := (congrFun hE 4).trans e4
      have e5 : E94 5 = .pointer (some ⟨g12, 0, none⟩) := (congrFun hE 5).trans e5
      have e6 : E94 6 = .int .i64 (b_0_1.length : Int) := (congrFun hE 6).trans e6
      have e7 : E94 7 = .slice A20 y18.length c22 := (congrFun hE 7).trans e7
      have e8 : E94 8 = .pointer (some ⟨g29, 0, none⟩) := (congrFun hE 8).trans rfl
      have e9 : E94 9 = .int .i64 b_0_0 := (congrFun hE 9).trans rfl
      have e22 : E94 22 = .int .i64 s_1_0 := (congrFun hE 22).trans rfl
      have e49 : E94 49 = .bool (decide (s_1_0 = 2)) := (congrFun hE 49).trans rfl
      clear hE
      refine Wc.cond (t := (decide (s_1_0 = 2))) (e49) (fun hq95 => ?_) (fun hq95 => ?_)
      · replace hb := (cT hq95).symm.trans hb
        refine Wc.seq fun K96 hK96 => ?_
        refine Wc.region (by decide +kernel) ?_
        refine lex.pure (v := .slice A20 y18.length c22) (pu_move e7) ?_
        refine lex.pure (v := .pointer (some ((⟨g6, 0, none⟩ : Addr).add 1))) (pu_field (sz := 1) Try.underlying28 rfl Try.sizeOf3 (by decide) rfl e3) ?_
        refine lex.val (v := .int .i64 s_1_1) (ld_fld (hC.bx (i := 4) rfl) Try.isAgg3 rfl rfl) ?_
        refine lex.pure (v := .int .i64 b_0_0) (pu_move e9) ?_
        obtain ⟨z97, h98, hb⟩ := bd hb
        refine lex.pure (v := .int .i64 z97) (pu_mulc (a := s_1_1) (b := b_0_0) rfl rfl h98) ?_
        refine lex.op (hC.lit (s := (.int .i64)) (vs := [.int .i64 z97]) (xs := [z97]) Try.underlying22 Try.type3 rfl rfl (Nat.le_of_ble_eq_true rfl) rfl rfl (by simp [Value.cells, Sh.n]) rfl (show Elems _ _ (.int .i64) ([.int .i64 z97] ++ ([])) ([z97] : List Int) from Elems.cons (⟨rfl, I64.wr (chk_rng h98)⟩) (Elems.nil _ _ _))) ?_
        rintro _ w103 ⟨A99, c100, rfl, hl101, hc102, hC, hF, hN⟩
        clear hF hN
        obtain ⟨u105, h106, hb⟩ := bd hb
        refine lex.op (hC.app (i := 2) (s := (.int .i64)) (xs := y18) (ys := ([z97] : List Int)) (m := ((([z97] : List Int)).length)) rfl Try.underlying22 Try.underlying22 Try.type3 rfl rfl rfl (hC.srco (i := 0) rfl) rfl rfl (by have := lim_some h106; simp at this ⊢ <;> omega) (by decide)) ?_
        rintro _ w111 ⟨A107, c108, rfl, hl109, hc110, hC, hF, hN⟩
        clear hF hN
        refine lex.pure (v := .slice A107 ((y18 ++ ([z97] : List Int)).length) c108) (pu_assign rfl) ?_
        refine lex.nil ?_
        refine hK96 _ _ ?_
        refine Wc.seq fun K112 hK112 => ?_
        refine Wc.region (by decide +kernel) ?_
        refine lex.pure (v := .int .i64 b_0_0) (pu_move e9) ?_
        obtain ⟨z113, h114, hb⟩ := bd hb
        refine lex.pure (v := .int .i64 z113) (pu_addc (a := b_0_0) (b := 1) rfl rfl h114) ?_
        refine lex.pure (v := .int .i64 z113) (pu_assign rfl) ?_
        refine lex.nil ?_
        refine hK112 _ _ ?_
        refine Wc.region (by decide +kernel) ?_
        refine lex.pure (v := .agg #[.int .i64 3, .int .i64 0, .int .i64 0]) (pu_builds (places := [(0, 1), (1, 1), (2, 1)]) (pv := [(0, .int .i64 3)]) Try.type28 Try.underlying28 rfl (mp_cons Try.type3 (mp_cons Try.type3 (mp_cons Try.type3 mp_nil rfl rfl) rfl rfl) rfl rfl) rfl (by simp [Instr.fill, Value.cells])) ?_
        refine lex.sk (hC.seta (i := 1) (ds := [.int .i64 3, .int .i64 0, .int .i64 0]) rfl Try.type28 rfl rfl rfl e8 rfl) ?_
        rintro w115 ⟨hC, hF⟩
        refine lex.nil ?_
        replace hC := hC.freeze (i := 2) rfl (hC.own_new (i := 2) rfl)
        exact hK34 _ _ ⟨(y18 ++ ([z97] : List Int)), z113, 3, 0, 0, A107, (y18 ++ ([z97] : List Int)).length, c108, e4, e5, rfl, e8, rfl, (chk_rng h114), (show I64 3 from by unfold I64; omega), (show I64 0 from by unfold I64; omega), (show I64 0 from by unfold I64; omega), hC.sel [4, 3, 2, 1] (by decide), hb⟩
      · replace hb := (cF hq95).symm.trans hb
        refine Wc.seq fun K116 hK116 => ?_
        refine Wc.region (by decide +kernel) ?_
        refine lex.pure (v := .bool (decide (s_1_0 = 3))) (pu_eql (k := .i64) (a := s_1_0) (b := 3) e22 rfl) ?_
        refine lex.pure (v := .bool (decide (s_1_0 = 3))) (pu_assign rfl) ?_
        refine lex.nil ?_
        refine hK116 _ _ ?_
        refine Wc.cond (t := (decide (s_1_0 = 3))) (rfl) (fun hq117 => ?_) (fun hq117 => ?_)
        · replace hb := (cT hq117).symm.trans hb
          refine Wc.seq fun K118 hK118 => ?_
          refine Wc.region (by decide +kernel) ?_
          refine lex.pure (v := .agg #[.int .i64 2, .int .i64 1, .int .i64 0]) (pu_builds (places := [(0, 1), (1, 1), (2, 1)]) (pv := [(0, .int .i64 2), (1, .int .i64 1)]) Try.type28 Try.underlying28 rfl (mp_cons Try.type3 (mp_cons Try.type3 (mp_cons Try.type3 mp_nil rfl rfl) rfl rfl) rfl rfl) rfl (by simp [Instr.fill, Value.cells])) ?_
          refine lex.sk (hC.seta (i := 0) (ds := [.int .i64 2, .int .i64 1, .int .i64 0]) rfl Try.type28 rfl rfl rfl e8 rfl) ?_
          rintro w119 ⟨hC, hF⟩
          refine lex.nil ?_
          refine hK118 _ _ ?_
          refine Wc.seq fun K120 hK120 => ?_
          refine Wc.seq fun K121 hK121 => ?_
          refine Wc.region (by decide +kernel) ?_
          refine lex.pure (v := .slice A20 y18.length c22) (pu_move e7) ?_
          refine lex.pure (v := .int .i64 (b_0_1.length : Int)) (pu_move e6) ?_
          obtain ⟨z122, h123, hb⟩ := bd hb
          refine lex.pure (v := .int .i64 z122) (pu_subc (a := (b_0_1.length : Int)) (b := 1) rfl rfl h123) ?_
          obtain ⟨x124, h125, hb⟩ := bd hb
          obtain ⟨ad126, cs127, hA, hc128, hr129⟩ := hC.elo (i := 1) rfl (get_some h125).2
          subst hA
          refine lex.pure (v := .pointer (some (ad126.add (z122.toNat * 1)))) (pu_index (a := z122) Try.underlying22 Try.sizeOf3 rfl rfl (get_some h125).1) ?_
          obtain ⟨rfl, hr129'⟩ := hr129
          refine lex.val (v := .int .i64 x124) (ld_one Try.isAgg3 rfl (hc128 0 _ rfl)) ?_
          refine lex.pure (v := .bool (decide (x124 < 0))) (pu_lss (k := .i64) (a := x124) (b := 0) rfl rfl) ?_
          refine lex.nil ?_
          refine hK121 _ _ ?_
          refine Wc.cond (t := (decide (x124 < 0))) (rfl) (fun hq130 => ?_) (fun hq130 => ?_)
          · replace hb := (cT hq130).symm.trans hb
            refine Wc.region (by decide +kernel) ?_
            refine lex.pure (v := .pointer (some ((⟨g29, 0, none⟩ : Addr).add 1))) (pu_field (sz := 1) Try.underlying28 rfl Try.sizeOf3 (by decide) rfl e8) ?_
            refine lex.sk (hC.setf (i := 0) (k := 1) (v := .int .i64 (-1)) rfl Try.sizeOf3 rfl rfl rfl rfl) ?_
            rintro w131 ⟨hC, hF⟩
            refine lex.nil ?_
            refine hK120 _ _ ?_
            refine Wc.fresh fun E132 hE => ?_
            have e4 : E132 4 = .pointer (some ⟨g9, 0, none⟩) := (congrFun hE 4).trans e4
            have e5 : E132 5 = .pointer (some ⟨g12, 0, none⟩) := (congrFun hE 5).trans e5
            have e6 : E132 6 = .int .i64 (b_0_1.length : Int) := (congrFun hE 6).trans e6
            have e7 : E132 7 = .slice (some ad126) y18.length c22 := (congrFun hE 7).trans e7
            have e8 : E132 8 = .pointer (some ⟨g29, 0, none⟩) := (congrFun hE 8).trans e8
            have e9 : E132 9 = .int .i64 b_0_0 := (congrFun hE 9).trans e9
            clear hE
            refine Wc.seq fun K133 hK133 => ?_
            refine Wc.region (by decide +kernel) ?_
            refine lex.pure (v := .slice (some ad126) y18.length c22) (pu_move e7) ?_
            refine lex.pure (v := .int .i64 (b_0_1.length : Int)) (pu_move e6) ?_
            obtain ⟨z134, h135, hb⟩ := bd hb
            refine lex.pure (v := .int .i64 z134) (pu_subc (a := (b_0_1.length : Int)) (b := 1) rfl rfl h135) ?_
            obtain ⟨u136, h137, hb⟩ := bd hb
            refine lex.pure (v := .slice (some ad126) ((y18.take z134.toNat).length) c22) (pu_cuth (b := z134) Try.underlying22 Try.sizeOf3 rfl rfl (hC.ow (i := 1) rfl).sl_len (cut_some h137)) ?_
            replace hC := hC.cuth (i := 1) rfl (k := z134.toNat) (by have := cut_some h137; omega)
            obtain ⟨-, hl138, hc139⟩ := (hC.ow (i := 1) rfl).sl_len
            refine lex.pure (v := .slice (some ad126) ((y18.take z134.toNat).length) c22) (pu_assign rfl) ?_
            refine lex.nil ?_
            refine hK133 _ _ ?_
            refine Wc.region (by decide +kernel) ?_
            refine lex.pure (v := .int .i64 b_0_0) (pu_move e9) ?_
            obtain ⟨z140, h141, hb⟩ := bd hb
            refine lex.pure (v := .int .i64 z140) (pu_subc (a := b_0_0) (b := 1) rfl rfl h141) ?_
            refine lex.pure (v := .int .i64 z140) (pu_assign rfl) ?_
            refine lex.nil ?_
            replace hC := hC.freeze (i := 1) rfl (hC.own_new (i := 1) rfl)
            exact hK34 _ _ ⟨(y18.take z134.toNat), z140, 2, (-1), 0, (some ad126), (y18.take z134.toNat).length, c22, e4, e5, rfl, e8, rfl, (chk_rng h141), (show I64 2 from by unfold I64; omega), (show I64 (-1) from by unfold I64; omega), (show I64 0 from by unfold I64; omega), hC.sel [3, 2, 1, 0] (by decide), hb⟩
          · replace hb := (cF hq130).symm.trans hb
            refine Wc.skip ?_
            refine hK120 _ _ ?_
            refine Wc.seq fun K142 hK142 => ?_
            refine Wc.region (by decide +kernel) ?_
            refine lex.pure (v := .slice (some ad126) y18.length c22) (pu_move e7) ?_
            refine lex.pure (v := .int .i64 (b_0_1.length : Int)) (pu_move e6) ?_
            obtain ⟨z143, h144, hb⟩ := bd hb
            refine lex.pure (v := .int .i64 z143) (pu_subc (a := (b_0_1.length : Int)) (b := 1) rfl rfl h144) ?_
            obtain ⟨u145, h146, hb⟩ := bd hb
            refine lex.pure (v := .slice (some ad126) ((y18.take z143.toNat).length) c22) (pu_cuth (b := z143) Try.underlying22 Try.sizeOf3 rfl rfl (hC.ow (i := 1) rfl).sl_len (cut_some h146)) ?_
            replace hC := hC.cuth (i := 1) rfl (k := z143.toNat) (by have := cut_some h146; omega)
            obtain ⟨-, hl147, hc148⟩ := (hC.ow (i := 1) rfl).sl_len
            refine lex.pure (v := .slice (some ad126) ((y18.take z143.toNat).length) c22) (pu_assign rfl) ?_
            refine lex.nil ?_
            refine hK142 _ _ ?_
            refine Wc.region (by decide +kernel) ?_
            refine lex.pure (v := .int .i64 b_0_0) (pu_move e9) ?_
            obtain ⟨z149, h150, hb⟩ := bd hb
            refine lex.pure (v := .int .i64 z149) (pu_subc (a := b_0_0) (b := 1) rfl rfl h150) ?_
            refine lex.pure (v := .int .i64 z149) (pu_assign rfl) ?_
            refine lex.nil ?_
            replace hC := hC.freeze (i := 1) rfl (hC.own_new (i := 1) rfl)
            exact hK34 _ _ ⟨(y18.take z143.toNat), z149, 2, 1, 0, (some ad126), (y18.take z143.toNat).length, c22, e4, e5, rfl, e8, rfl, (chk_rng h150), (show I64 2 from by unfold I64; omega), (show I64 1 from by unfold I64; omega), (show I64 0 from by unfold I64; omega), hC.sel [3, 2, 1, 0] (by decide), hb⟩
        · replace hb := (cF hq117).symm.trans hb
          refine Wc.seq fun K151 hK151 => ?_
          refine Wc.region (by decide +kernel) ?_
          refine lex.pure (v := .bool (decide (s_1_0 = 4))) (pu_eql (k := .i64) (a := s_1_0) (b := 4) e22 rfl) ?_
          refine lex.pure (v := .bool (decide (s_1_0 = 4))) (pu_assign rfl) ?_
          refine lex.nil ?_
          refine hK151 _ _ ?_
          refine Wc.cond (t := (decide (s_1_0 = 4))) (rfl) (fun hq152 => ?_) (fun hq152 => ?_)
          · replace hb := (cT hq152).symm.trans hb
            refine Wc.regionMix [81, 84, 88, 94] (frm [81, 84, 88, 94] ([] : List Fact) [.own 3 (.int .i64) (.slice A20 y18.length c22) y18]) (fun _ => rfl) mixed (by decide +kernel) (by decide +kernel) fun w154 hw153 => ?_
            replace hC := hC.step (Fr.of_drew hw153)
            have hM := Fr.refl (fun k => k ∈ blocks ([] : List Fact)) w154
            clear hw153
            have hS := hC
            have hD : Fr (fun k => k ∈ blocks (([] : List Fact) ++ [.own 3 (.int .i64) (.slice A20 y18.length c22) y18])) w154 w154 := hM.wide
            have hUf23 : Beside (([] : List Fact) ++ [.own 3 (.int .i64) (.slice A20 y18.length c22) y18]) w154 (.slice A20 y18.length c22) := Beside.of (i := 0) rfl
            refine mixE.pure (v := .slice A20 y18.length c22) (pu_move e7) ?_
            refine mixE.pure (v := .pointer (some ((⟨g6, 0, none⟩ : Addr).add 2))) (pu_field (sz := 1) Try.underlying28 rfl Try.sizeOf3 (by decide) rfl e3) ?_
            refine mixE.steady hD (v := .int .i64 s_1_2) (fun _ hF => ld_fld (hS.bx2 (i := 4) rfl [1] (by decide) hF) Try.isAgg3 rfl rfl) ?_
            refine mixE.pure (v := .slice A20 y18.length c22) (pu_move e7) ?_
            refine mixE.pure (v := .pointer (some ((⟨g6, 0, none⟩ : Addr).add 2))) (pu_field (sz := 1) Try.underlying28 rfl Try.sizeOf3 (by decide) rfl e3) ?_
            refine mixE.steady hD (v := .int .i64 s_1_2) (fun _ hF => ld_fld (hS.bx2 (i := 4) rfl [1] (by decide) hF) Try.isAgg3 rfl rfl) ?_
            obtain ⟨z155, h156, hb⟩ := bd hb
            refine mixE.pure (v := .int .i64 z155) (pu_addc (a := s_1_2) (b := 1) rfl rfl h156) ?_
            refine mixE.pure (v := .slice A20 y18.length c22) (pu_move e7) ?_
            refine mixE.pure (v := .pointer (some ((⟨g6, 0, none⟩ : Addr).add 2))) (pu_field (sz := 1) Try.underlying28 rfl Try.sizeOf3 (by decide) rfl e3) ?_
            refine mixE.steady hD (v := .int .i64 s_1_2) (fun _ hF => ld_fld (hS.bx2 (i := 4) rfl [1] (by decide) hF) Try.isAgg3 rfl rfl) ?_
            obtain ⟨z157, h158, hb⟩ := bd hb
            refine mixE.pure (v := .int .i64 z157) (pu_addc (a := s_1_2) (b := 1) rfl rfl h158) ?_
            obtain ⟨x159, h160, hb⟩ := bd hb
            obtain ⟨ad161, cs162, hA, ho165, hc163, hr164⟩ := hS.elo2 (i := 1) rfl (get_some h160).2 [] (by decide)
            subst hA
            refine mixE.pure (v := .pointer (some (ad161.add (z157.toNat * 1)))) (pu_index (a := z157) Try.underlying22 Try.sizeOf3 rfl rfl (get_some h160).1) ?_
            obtain ⟨rfl, hr164'⟩ := hr164
            refine mixE.load hM (v := .int .i64 x159) (fun _ hF => ld_one Try.isAgg3 rfl (hF.cell (hc163 0 _ rfl) (off1 ho165))) ?_
            refine mixE.pure (v := .slice (some ad161) y18.length c22) (pu_move e7) ?_
            refine mixE.pure (v := .pointer (some ((⟨g6, 0, none⟩ : Addr).add 2))) (pu_field (sz := 1) Try.underlying28 rfl Try.sizeOf3 (by decide) rfl e3) ?_
            refine mixE.steady hD (v := .int .i64 s_1_2) (fun _ hF => ld_fld (hS.bx2 (i := 4) rfl [1] (by decide) hF) Try.isAgg3 rfl rfl) ?_
            obtain ⟨x166, h167, hb⟩ := bd hb
            obtain ⟨ad168, cs169, hA, ho172, hc170, hr171⟩ := hS.elo2 (i := 1) rfl (get_some h167).2 [] (by decide)
            obtain rfl := Option.some.inj hA
            refine mixE.pure (v := .pointer (some (ad161.add (s_1_2.toNat * 1)))) (pu_index (a := s_1_2) Try.underlying22 Try.sizeOf3 rfl rfl (get_some h167).1) ?_
            obtain ⟨rfl, hr171'⟩ := hr171
            refine mixE.load hM (v := .int .i64 x166) (fun _ hF => ld_one Try.isAgg3 rfl (hF.cell (hc170 0 _ rfl) (off1 ho172))) ?_
            obtain ⟨x173, h174, hb⟩ := bd hb
            obtain ⟨ad175, cs176, hA, ho179, hc177, hr178⟩ := hS.elo2 (i := 1) rfl (get_some h174).2 [] (by decide)
            obtain rfl := Option.some.inj hA
            refine mixE.pure (v := .pointer (some (ad161.add (s_1_2.toNat * 1)))) (pu_index (a := s_1_2) Try.underlying22 Try.sizeOf3 rfl rfl (get_some h174).1) ?_
            refine mixE.sk hD (hC.put (i := 1) rfl rfl Try.sizeOf3 (k := s_1_2.toNat) (a := x159) (by have := (get_some h174).1; simp at this ⊢; omega) (⟨rfl, I64.wr (wrap_I64 hr164')⟩) rfl rfl rfl) ?_
            rintro w180 ⟨hC, hF⟩
            replace hD := hD.beside hUf23 hF
            clear hF
            refine ⟨hD, ?_⟩
            obtain ⟨x181, h182, hb⟩ := bd hb
            obtain ⟨ad183, cs184, hA, hc185, hr186⟩ := hC.elo (i := 1) rfl (get_some h182).2
            obtain rfl := Option.some.inj hA
            refine mixE.pure (v := .pointer (some (ad161.add (z155.toNat * 1)))) (pu_index (a := z155) Try.underlying22 Try.sizeOf3 rfl rfl (by rw [(hC.ow (i := 1) rfl).sl_len.1]; exact (get_some h182).1)) ?_
            refine mixE.sk hD (hC.put (i := 1) rfl rfl Try.sizeOf3 (k := z155.toNat) (a := x166) (by have := (get_some h182).1; simp at this ⊢; omega) (⟨rfl, I64.wr (wrap_I64 hr171')⟩) rfl rfl rfl) ?_
            rintro w187 ⟨hC, hF⟩
            replace hD := hD.beside hUf23 hF
            clear hF
            refine ⟨hD, ?_⟩
            refine mixE.nil ?_
            clear hS hM
            clear hD
            replace hC := hC.freeze (i := 1) rfl (hC.own_new (i := 1) rfl)
            exact hK34 _ _ ⟨((y18.set s_1_2.toNat x159).set z155.toNat x166), b_0_0, s_1_0, s_1_1, s_1_2, (some ad161), y18.length, c22, e4, e5, e7, e8, e9, hb_0_0, hs_1_0, hs_1_1, hs_1_2, hC.sel [3, 2, 1, 0] (by decide), hb⟩
          · replace hb := (cF hq152).symm.trans hb
            refine Wc.seq fun K188 hK188 => ?_
            refine Wc.region (by decide +kernel) ?_
            refine lex.pure (v := .bool (decide (s_1_0 = 5))) (pu_eql (k := .i64) (a := s_1_0) (b := 5) e22 rfl) ?_
            refine lex.pure (v := .bool (decide (s_1_0 = 5))) (pu_assign rfl) ?_
            refine lex.nil ?_
            refine hK188 _ _ ?_
            refine Wc.cond (t := (decide (s_1_0 = 5))) (rfl) (fun hq189 => ?_) (fun hq189 => ?_)
            · replace hb := (cT hq189).symm.trans hb
              refine Wc.seq fun K190 hK190 => ?_
              refine Wc.regionMix [] (frm [] ([] : List Fact) ([] : List Fact)) (fun _ => rfl) mixed (by decide +kernel) (by decide +kernel) fun w192 hw191 => ?_
              replace hC := hC.step (Fr.of_drew hw191)
              have hM := Fr.refl (fun k => k ∈ blocks ([] : List Fact)) w192
              clear hw191
              have hS := hC
              refine mixE.pure (v := .slice A20 y18.length c22) (pu_move e7) ?_
              refine mixE.pure (v := .pointer (some ((⟨g6, 0, none⟩ : Addr).add 2))) (pu_field (sz := 1) Try.underlying28 rfl Try.sizeOf3 (by decide) rfl e3) ?_
              refine mixE.load hM (v := .int .i64 s_1_2) (fun _ hF => ld_fld (hS.bx2 (i := 4) rfl [] (by decide) hF) Try.isAgg3 rfl rfl) ?_
              obtain ⟨x193, h194, hb⟩ := bd hb
              obtain ⟨ad195, cs196, hA, ho199, hc197, hr198⟩ := hS.elo2 (i := 1) rfl (get_some h194).2 [] (by decide)
              subst hA
              refine mixE.pure (v := .pointer (some (ad195.add (s_1_2.toNat * 1)))) (pu_index (a := s_1_2) Try.underlying22 Try.sizeOf3 rfl rfl (get_some h194).1) ?_
              obtain ⟨rfl, hr198'⟩ := hr198
              refine mixE.load hM (v := .int .i64 x193) (fun _ hF => ld_one Try.isAgg3 rfl (hF.cell (hc197 0 _ rfl) (off1 ho199))) ?_
              refine mixE.pure (v := .slice (some ad195) y18.length c22) (pu_move e7) ?_
              refine mixE.pure (v := .pointer (some ((⟨g6, 0, none⟩ : Addr).add 2))) (pu_field (sz := 1) Try.underlying28 rfl Try.sizeOf3 (by decide) rfl e3) ?_
              refine mixE.load hM (v := .int .i64 s_1_2) (fun _ hF => ld_fld (hS.bx2 (i := 4) rfl [] (by decide) hF) Try.isAgg3 rfl rfl) ?_
              obtain ⟨z200, h201, hb⟩ := bd hb
              refine mixE.pure (v := .int .i64 z200) (pu_addc (a := s_1_2) (b := 1) rfl rfl h201) ?_
              obtain ⟨x202, h203, hb⟩ := bd hb
              obtain ⟨ad204, cs205, hA, ho208, hc206, hr207⟩ := hS.elo2 (i := 1) rfl (get_some h203).2 [] (by decide)
              obtain rfl := Option.some.inj hA
              refine mixE.pure (v := .pointer (some (ad195.add (z200.toNat * 1)))) (pu_index (a := z200) Try.underlying22 Try.sizeOf3 rfl rfl (get_some h203).1) ?_
              obtain ⟨rfl, hr207'⟩ := hr207
              refine mixE.load hM (v := .int .i64 x202) (fun _ hF => ld_one Try.isAgg3 rfl (hF.cell (hc206 0 _ rfl) (off1 ho208))) ?_
              refine mixE.pure (v := .int .i64 x193) (pu_assign rfl) ?_
              refine mixE.pure (v := .int .i64 x202) (pu_assign rfl) ?_
              refine mixE.nil ?_
              clear hS hM
              refine hK190 _ _ ?_
              refine Wc.fresh fun E209 hE => ?_
              have e3 : E209 3 = .pointer (some ⟨g6, 0, none⟩) := (congrFun hE 3).trans e3
              have e4 : E209 4 = .pointer (some ⟨g9, 0, none⟩) := (congrFun hE 4).trans e4
              have e5 : E209 5 = .pointer (some ⟨g12, 0, none⟩) := (congrFun hE 5).trans e5
              have e7 : E209 7 = .slice (some ad195) y18.length c22 := (congrFun hE 7).trans e7
              have e8 : E209 8 = .pointer (some ⟨g29, 0, none⟩) := (congrFun hE 8).trans e8
              have e9 : E209 9 = .int .i64 b_0_0 := (congrFun hE 9).trans e9
              have e10 : E209 10 = .int .i64 x193 := (congrFun hE 10).trans rfl
              have e11 : E209 11 = .int .i64 x202 := (congrFun hE 11).trans rfl
              clear hE
              refine Wc.regionMix [114, 117, 121] (frm [114, 117, 121] ([] : List Fact) [.own 3 (.int .i64) (.slice (some ad195) y18.length c22) y18]) (fun _ => rfl) mixed (by decide +kernel) (by decide +kernel) fun w211 hw210 => ?_
              replace hC := hC.step (Fr.of_drew hw210)
              have hM := Fr.refl (fun k => k ∈ blocks ([] : List Fact)) w211
              clear hw210
              have hS := hC
              have hD : Fr (fun k => k ∈ blocks (([] : List Fact) ++ [.own 3 (.int .i64) (.slice (some ad195) y18.length c22) y18])) w211 w211 := hM.wide
              have hUf23 : Beside (([] : List Fact) ++ [.own 3 (.int .i64) (.slice (some ad195) y18.length c22) y18]) w211 (.slice (some ad195) y18.length c22) := Beside.of (i := 0) rfl
              refine mixE.pure (v := .slice (some ad195) y18.length c22) (pu_move e7) ?_
              refine mixE.pure (v := .pointer (some ((⟨g6, 0, none⟩ : Addr).add 2))) (pu_field (sz := 1) Try.underlying28 rfl Try.sizeOf3 (by decide) rfl e3) ?_
              refine mixE.steady hD (v := .int .i64 s_1_2) (fun _ hF => ld_fld (hS.bx2 (i := 4) rfl [1] (by decide) hF) Try.isAgg3 rfl rfl) ?_
              refine mixE.pure (v := .slice (some ad195) y18.length c22) (pu_move e7) ?_
              refine mixE.pure (v := .pointer (some ((⟨g6, 0, none⟩ : Addr).add 2))) (pu_field (sz := 1) Try.underlying28 rfl Try.sizeOf3 (by decide) rfl e3) ?_
              refine mixE.steady hD (v := .int .i64 s_1_2) (fun _ hF => ld_fld (hS.bx2 (i := 4) rfl [1] (by decide) hF) Try.isAgg3 rfl rfl) ?_
              obtain ⟨z212, h213, hb⟩ := bd hb
              refine mixE.pure (v := .int .i64 z212) (pu_addc (a := s_1_2) (b := 1) rfl rfl h213) ?_
              refine mixE.pure (v := .slice (some ad195) y18.length c22) (pu_move e7) ?_
              refine mixE.pure (v := .pointer (some ((⟨g6, 0, none⟩ : Addr).add 2))) (pu_field (sz := 1) Try.underlying28 rfl Try.sizeOf3 (by decide) rfl e3) ?_
              refine mixE.steady hD (v := .int .i64 s_1_2) (fun _ hF => ld_fld (hS.bx2 (i := 4) rfl [1] (by decide) hF) Try.isAgg3 rfl rfl) ?_
              obtain ⟨z214, h215, hb⟩ := bd hb
              refine mixE.pure (v := .int .i64 z214) (pu_addc (a := s_1_2) (b := 2) rfl rfl h215) ?_
              refine mixE.pure (v := .int .i64 x202) (pu_move e11) ?_
              refine mixE.pure (v := .int .i64 x193) (pu_move e10) ?_
              refine mixE.pure (v := .int .i64 x202) (pu_move e11) ?_
              obtain ⟨x216, h217, hb⟩ := bd hb
              obtain ⟨ad218, cs219, hA, ho222, hc220, hr221⟩ := hS.elo2 (i := 1) rfl (get_some h217).2 [] (by decide)
              obtain rfl := Option.some.inj hA
              refine mixE.pure (v := .pointer (some (ad195.add (s_1_2.toNat * 1)))) (pu_index (a := s_1_2) Try.underlying22 Try.sizeOf3 rfl rfl (get_some h217).1) ?_
              refine mixE.sk hD (hC.put (i := 1) rfl rfl Try.sizeOf3 (k := s_1_2.toNat) (a := x202) (by have := (get_some h217).1; simp at this ⊢; omega) (⟨rfl, I64.wr (wrap_I64 hr207')⟩) rfl rfl rfl) ?_
              rintro w223 ⟨hC, hF⟩
              replace hD := hD.beside hUf23 hF
              clear hF
              refine ⟨hD, ?_⟩
              obtain ⟨x224, h225, hb⟩ := bd hb
              obtain ⟨ad226, cs227, hA, hc228, hr229⟩ := hC.elo (i := 1) rfl (get_some h225).2
              obtain rfl := Option.some.inj hA
              refine mixE.pure (v := .pointer (some (ad195.add (z212.toNat * 1)))) (pu_index (a := z212) Try.underlying22 Try.sizeOf3 rfl rfl (by rw [(hC.ow (i := 1) rfl).sl_len.1]; exact (get_some h225).1)) ?_
              refine mixE.sk hD (hC.put (i := 1) rfl rfl Try.sizeOf3 (k := z212.toNat) (a := x193) (by have := (get_some h225).1; simp at this ⊢; omega) (⟨rfl, I64.wr (wrap_I64 hr198')⟩) rfl rfl rfl) ?_
              rintro w230 ⟨hC, hF⟩
              replace hD := hD.beside hUf23 hF
              clear hF
              refine ⟨hD, ?_⟩
              obtain ⟨x231, h232, hb⟩ := bd hb
              obtain ⟨ad233, cs234, hA, hc235, hr236⟩ := hC.elo (i := 1) rfl (get_some h232).2
              obtain rfl := Option.some.inj hA
              refine mixE.pure (v := .pointer (some (ad195.add (z214.toNat * 1)))) (pu_index (a := z214) Try.underlying22 Try.sizeOf3 rfl rfl (by rw [(hC.ow (i := 1) rfl).sl_len.1]; exact (get_some h232).1)) ?_
              refine mixE.sk hD (hC.put (i := 1) rfl rfl Try.sizeOf3 (k := z214.toNat) (a := x202) (by have := (get_some h232).1; simp at this ⊢; omega) (⟨rfl, I64.wr (wrap_I64 hr207')⟩) rfl rfl rfl) ?_
              rintro w237 ⟨hC, hF⟩
              replace hD := hD.beside hUf23 hF
              clear hF
              refine ⟨hD, ?_⟩
              refine mixE.nil ?_
              clear hS hM
              clear hD
              replace hC := hC.freeze (i := 1) rfl (hC.own_new (i := 1) rfl)
              exact hK34 _ _ ⟨(((y18.set s_1_2.toNat x202).set z212.toNat x193).set z214.toNat x202), b_0_0, s_1_0, s_1_1, s_1_2, (some ad195), y18.length, c22, e4, e5, e7, e8, e9, hb_0_0, hs_1_0, hs_1_1, hs_1_2, hC.sel [3, 2, 1, 0] (by decide), hb⟩
            · replace hb := (cF hq189).symm.trans hb
              refine Wc.seq fun K238 hK238 => ?_
              refine Wc.region (by decide +kernel) ?_
              refine lex.pure (v := .bool (decide (s_1_0 = 6))) (pu_eql (k := .i64) (a := s_1_0) (b := 6) e22 rfl) ?_
              refine lex.pure (v := .bool (decide (s_1_0 = 6))) (pu_assign rfl) ?_
              refine lex.nil ?_
              refine hK238 _ _ ?_
              refine Wc.cond (t := (decide (s_1_0 = 6))) (rfl) (fun hq239 => ?_) (fun hq239 => ?_)
              · replace hb := (cT hq239).symm.trans hb
                refine Wc.seq fun K240 hK240 => ?_
                refine Wc.region (by decide +kernel) ?_
                refine lex.pure (v := .slice A20 y18.length c22) (pu_move e7) ?_
                refine lex.pure (v := .pointer (some ((⟨g6, 0, none⟩ : Addr).add 2))) (pu_field (sz := 1) Try.underlying28 rfl Try.sizeOf3 (by decide) rfl e3) ?_
                refine lex.val (v := .int .i64 s_1_2) (ld_fld (hC.bx (i := 4) rfl) Try.isAgg3 rfl rfl) ?_
                refine lex.pure (v := .pointer (some ((⟨g6, 0, none⟩ : Addr).add 1))) (pu_field (sz := 1) Try.underlying28 rfl Try.sizeOf3 (by decide) rfl e3) ?_
                refine lex.val (v := .int .i64 s_1_1) (ld_fld (hC.bx (i := 4) rfl) Try.isAgg3 rfl rfl) ?_
                refine lex.pure (v := .pointer (some ((⟨g6, 0, none⟩ : Addr).add 1))) (pu_field (sz := 1) Try.underlying28 rfl Try.sizeOf3 (by decide) rfl e3) ?_
                refine lex.val (v := .int .i64 s_1_1) (ld_fld (hC.bx (i := 4) rfl) Try.isAgg3 rfl rfl) ?_
                obtain ⟨z241, h242, hb⟩ := bd hb
                refine lex.pure (v := .int .i64 z241) (pu_negc (a := s_1_1) rfl h242) ?_
                refine lex.op (hC.lit (s := (.int .i64)) (vs := [.int .i64 s_1_1, .int .i64 z241]) (xs := [s_1_1, z241]) Try.underlying22 Try.type3 rfl rfl (Nat.le_of_ble_eq_true rfl) rfl rfl (by simp [Value.cells, Sh.n]) rfl (show Elems _ _ (.int .i64) ([.int .i64 s_1_1] ++ ([.int .i64 z241] ++ ([]))) ([s_1_1, z241] : List Int) from Elems.cons (⟨rfl, I64.wr hs_1_1⟩) (Elems.cons (⟨rfl, I64.wr (chk_rng h242)⟩) (Elems.nil _ _ _)))) ?_
                rintro _ w247 ⟨A243, c244, rfl, hl245, hc246, hC, hF, hN⟩
                clear hF hN
                replace hC : Cx (fun _ => False) O0 w w247 ([.own 3 (.int .i64) (.slice A20 y18.length c22) y18, .own 3 (.int .i64) (.slice A243 ((([s_1_1, z241] : List Int)).length) c244) ([s_1_1, z241] : List Int)] ++ [.box g29 28 [.int .i64 s_1_0, .int .i64 s_1_1, .int .i64 s_1_2], .box g12 28 [.int .i64 0, .int .i64 0, .int .i64 0], .box g9 27 [.int .i64 0, .slice none 0 0], .box g6 28 [.int .i64 s_1_0, .int .i64 s_1_1, .int .i64 s_1_2], .box g3 27 [.int .i64 b_0_0, .slice Ab_0_1 b_0_1.length cb_0_1], .ro (.sl (.int .i64)) [.slice Ab_0_1 b_0_1.length cb_0_1] b_0_1]) := hC.sel [2, 0, 1, 3, 4, 5, 6, 7] (by decide)
                obtain ⟨y249, h250, hb⟩ := bd hb
                refine lex.cl (⟨_, _, op_call (vs := [.slice A20 y18.length c22, .int .i64 s_1_2, .slice A243 ((([s_1_1, z241] : List Int)).length) c244]) Try.call58 rfl rfl rfl, slices_Insert_Lint_int_ok n hC.lt hs_1_2 hC.give h250⟩) ?_
                rintro _ w255 ⟨A251, m252, c253, rfl, hK⟩
                replace hC := hC.back hK
                clear hK
                obtain ⟨rfl, hl256, hc257⟩ := (hC.ow (i := 0) rfl).sl_len
                refine lex.pure (v := .slice A251 y249.length c253) (pu_assign rfl) ?_
                refine lex.nil ?_
                refine hK240 _ _ ?_
                refine Wc.fresh fun E258 hE => ?_
                have e3 : E258 3 = .pointer (some ⟨g6, 0, none⟩) := (congrFun hE 3).trans e3
                have e4 : E258 4 = .pointer (some ⟨g9, 0, none⟩) := (congrFun hE 4).trans e4
                have e5 : E258 5 = .pointer (some ⟨g12, 0, none⟩) := (congrFun hE 5).trans e5
                have e7 : E258 7 = .slice A251 y249.length c253 := (congrFun hE 7).trans rfl
                have e8 : E258 8 = .pointer (some ⟨g29, 0, none⟩) := (congrFun hE 8).trans e8
                have e9 : E258 9 = .int .i64 b_0_0 := (congrFun hE 9).trans e9
                clear hE
                refine Wc.region (by decide +kernel) ?_
                refine lex.pure (v := .pointer (some ((⟨g6, 0, none⟩ : Addr).add 2))) (pu_field (sz := 1) Try.underlying28 rfl Try.sizeOf3 (by decide) rfl e3) ?_
                refine lex.val (v := .int .i64 s_1_2) (ld_fld (hC.bx (i := 4) rfl) Try.isAgg3 rfl rfl) ?_
                refine lex.pure (v := .agg #[.int .i64 7, .int .i64 0, .int .i64 s_1_2]) (pu_builds (places := [(0, 1), (1, 1), (2, 1)]) (pv := [(0, .int .i64 7), (2, .int .i64 s_1_2)]) Try.type28 Try.underlying28 rfl (mp_cons Try.type3 (mp_cons Try.type3 (mp_cons Try.type3 mp_nil rfl rfl) rfl rfl) rfl rfl) rfl (by simp [Instr.fill, Value.cells])) ?_
                refine lex.sk (hC.seta (i := 1) (ds := [.int .i64 7, .int .i64 0, .int .i64 s_1_2]) rfl Try.type28 rfl rfl rfl e8 rfl) ?_
                rintro w259 ⟨hC, hF⟩
                refine lex.nil ?_
                replace hC := hC.freeze (i := 0) rfl (hC.own_new (i := 0) rfl)
                exact hK34 _ _ ⟨y249, b_0_0, 7, 0, s_1_2, A251, y249.length, c253, e4, e5, e7, e8, e9, hb_0_0, (show I64 7 from by unfold I64; omega), (show I64 0 from by unfold I64; omega), hs_1_2, hC.sel [3, 2, 0, 1] (by decide), hb⟩
              · replace hb := (cF hq239).symm.trans hb
                refine Wc.seq fun K260 hK260 => ?_
                refine Wc.region (by decide +kernel) ?_
                refine lex.pure (v := .bool (decide (s_1_0 = 7))) (pu_eql (k := .i64) (a := s_1_0) (b := 7) e22 rfl) ?_
                refine lex.pure (v := .bool (decide (s_1_0 = 7))) (pu_assign rfl) ?_
                refine lex.nil ?_
                refine hK260 _ _ ?_
                refine Wc.fresh fun E261 hE => ?_
                have e3 : E261 3 = .pointer (some ⟨g6, 0, none⟩) := (congrFun hE 3).trans e3
                have e4 : E261 4 = .pointer (some ⟨g9, 0, none⟩) := (congrFun hE 4).trans e4
                have e5 : E261 5 = .pointer (some ⟨g12, 0, none⟩) := (congrFun hE 5).trans e5
                have e7 : E261 7 = .slice A20 y18.length c22 := (congrFun hE 7).trans e7
                have e8 : E261 8 = .pointer (some ⟨g29, 0, none⟩) := (congrFun hE 8).trans e8
                have e9 : E261 9 = .int .i64 b_0_0 := (congrFun hE 9).trans e9
                have e144 : E261 144 = .bool (decide (s_1_0 = 7)) := (congrFun hE 144).trans rfl
                clear hE
                refine Wc.cond (t := (decide (s_1_0 = 7))) (e144) (fun hq262 => ?_) (fun hq262 => ?_)
                · replace hb := (cT hq262).symm.trans hb
                  refine Wc.seq fun K263 hK263 => ?_
                  refine Wc.regionMix [148, 150, 152] (frm [148, 150, 152] ([] : List Fact) [.box g29 28 [.int .i64 s_1_0, .int .i64 s_1_1, .int .i64 s_1_2]]) (fun _ => rfl) mixed (by decide +kernel) (by decide +kernel) fun w265 hw264 => ?_
                  replace hC := hC.step (Fr.of_drew hw264)
                  have hM := Fr.refl (fun k => k ∈ blocks ([] : List Fact)) w265
                  clear hw264
                  have hS := hC
                  have hD : Fr (fun k => k ∈ blocks (([] : List Fact) ++ [.box g29 28 [.int .i64 s_1_0, .int .i64 s_1_1, .int .i64 s_1_2]])) w265 w265 := hM.wide
                  have hUf31 : g29 < w265.heap.size → g29 ∈ blocks (([] : List Fact) ++ [.box g29 28 [.int .i64 s_1_0, .int .i64 s_1_1, .int .i64 s_1_2]]) := fun _ => box_in (i := 0) rfl
                  refine mixE.pure (v := .slice A20 y18.length c22) (pu_move e7) ?_
                  refine mixE.pure (v := .pointer (some ((⟨g6, 0, none⟩ : Addr).add 2))) (pu_field (sz := 1) Try.underlying28 rfl Try.sizeOf3 (by decide) rfl e3) ?_
                  refine mixE.steady hD (v := .int .i64 s_1_2) (fun _ hF => ld_fld (hS.bx2 (i := 4) rfl [0] (by decide) hF) Try.isAgg3 rfl rfl) ?_
                  obtain ⟨x266, h267, hb⟩ := bd hb
                  obtain ⟨ad268, cs269, hA, ho272, hc270, hr271⟩ := hS.elo2 (i := 1) rfl (get_some h267).2 [0] (by decide)
                  subst hA
                  refine mixE.pure (v := .pointer (some (ad268.add (s_1_2.toNat * 1)))) (pu_index (a := s_1_2) Try.underlying22 Try.sizeOf3 rfl rfl (get_some h267).1) ?_
                  obtain ⟨rfl, hr271'⟩ := hr271
                  refine mixE.steady hD (v := .int .i64 x266) (fun _ hF => ld_one Try.isAgg3 rfl (hF.cell (hc270 0 _ rfl) (off1 ho272))) ?_
                  refine mixE.pure (v := .pointer (some ((⟨g6, 0, none⟩ : Addr).add 2))) (pu_field (sz := 1) Try.underlying28 rfl Try.sizeOf3 (by decide) rfl e3) ?_
                  refine mixE.steady hD (v := .int .i64 s_1_2) (fun _ hF => ld_fld (hS.bx2 (i := 4) rfl [0] (by decide) hF) Try.isAgg3 rfl rfl) ?_
                  refine mixE.pure (v := .agg #[.int .i64 6, .int .i64 x266, .int .i64 s_1_2]) (pu_builds (places := [(0, 1), (1, 1), (2, 1)]) (pv := [(0, .int .i64 6), (1, .int .i64 x266), (2, .int .i64 s_1_2)]) Try.type28 Try.underlying28 rfl (mp_cons Try.type3 (mp_cons Try.type3 (mp_cons Try.type3 mp_nil rfl rfl) rfl rfl) rfl rfl) rfl (by simp [Instr.fill, Value.cells])) ?_
                  refine mixE.sk hD (hC.seta (i := 0) (ds := [.int .i64 6, .int .i64 x266, .int .i64 s_1_2]) rfl Try.type28 rfl rfl rfl e8 rfl) ?_
                  rintro w273 ⟨hC, hF⟩
                  replace hD := hD.besideG hUf31 hF
                  clear hF
                  refine ⟨hD, ?_⟩
                  refine mixE.nil ?_
                  clear hS hM
                  clear hD
                  refine hK263 _ _ ?_
                  refine Wc.region (by decide +kernel) ?_
                  refine lex.pure (v := .slice (some ad268) y18.length c22) (pu_move e7) ?_
                  refine lex.pure (v := .pointer (some ((⟨g6, 0, none⟩ : Addr).add 2))) (pu_field (sz := 1) Try.underlying28 rfl Try.sizeOf3 (by decide) rfl e3) ?_
                  refine lex.val (v := .int .i64 s_1_2) (ld_fld (hC.bx (i := 4) rfl) Try.isAgg3 rfl rfl) ?_
                  refine lex.pure (v := .pointer (some ((⟨g6, 0, none⟩ : Addr).add 2))) (pu_field (sz := 1) Try.underlying28 rfl Try.sizeOf3 (by decide) rfl e3) ?_
                  refine lex.val (v := .int .i64 s_1_2) (ld_fld (hC.bx (i := 4) rfl) Try.isAgg3 rfl rfl) ?_
                  obtain ⟨z274, h275, hb⟩ := bd hb
                  refine lex.pure (v := .int .i64 z274) (pu_addc (a := s_1_2) (b := 2) rfl rfl h275) ?_
                  replace hC : Cx (fun _ => False) O0 w w273 ([.own 3 (.int .i64) (.slice (some ad268) y18.length c22) y18] ++ [.box g29 28 [.int .i64 6, .int .i64 x266, .int .i64 s_1_2], .box g12 28 [.int .i64 0, .int .i64 0, .int .i64 0], .box g9 27 [.int .i64 0, .slice none 0 0], .box g6 28 [.int .i64 s_1_0, .int .i64 s_1_1, .int .i64 s_1_2], .box g3 27 [.int .i64 b_0_0, .slice Ab_0_1 b_0_1.length cb_0_1], .ro (.sl (.int .i64)) [.slice Ab_0_1 b_0_1.length cb_0_1] b_0_1]) := hC.sel [1, 0, 2, 3, 4, 5, 6] (by decide)
                  obtain ⟨y276, h277, hb⟩ := bd hb
                  refine lex.cl (⟨_, _, op_call (vs := [.slice (some ad268) y18.length c22, .int .i64 s_1_2, .int .i64 z274]) Try.call59 rfl rfl rfl, slices_Delete_Lint_int_ok n hC.lt hs_1_2 (chk_rng h275) hC.give h277⟩) ?_
                  rintro _ w282 ⟨A278, m279, c280, rfl, hK⟩
                  replace hC := hC.back hK
                  clear hK
                  obtain ⟨rfl, hl283, hc284⟩ := (hC.ow (i := 0) rfl).sl_len
                  refine lex.pure (v := .slice A278 y276.length c280) (pu_assign rfl) ?_
                  refine lex.nil ?_
                  replace hC := hC.freeze (i := 0) rfl (hC.own_new (i := 0) rfl)
                  exact hK34 _ _ ⟨y276, b_0_0, 6, x266, s_1_2, A278, y276.length, c280, e4, e5, rfl, e8, e9, hb_0_0, (show I64 6 from by unfold I64; omega), (wrap_I64 hr271'), hs_1_2, hC.sel [3, 2, 0, 1] (by decide), hb⟩
                · replace hb := (cF hq262).symm.trans hb
                  refine Wc.skip ?_
                  replace hC := hC.freeze (i := 1) rfl (hC.own_new (i := 1) rfl)
                  exact hK34 _ _ ⟨y18, b_0_0, s_1_0, s_1_1, s_1_2, A20, y18.length, c22, e4, e5, e7, e8, e9, hb_0_0, hs_1_0, hs_1_1, hs_1_2, hC.sel [3, 2, 1, 0] (by decide), hb⟩
  · clear hb hC
    rintro E286 w285 ⟨l7_0, v9_0, bf31_0_0, bf31_1_0, bf31_2_0, Al7_0, ml7_0, cl7_0, e4, e5, e7, e8, e9, hrv9_0, hrbf31_0_0, hrbf31_1_0, hrbf31_2_0, hC, hb⟩
    unfold F.markov_change_j0 at hb
    obtain ⟨rfl, hll7_0, hcl7_0⟩ := (hC.rd (i := 2) rfl).sl_len
    refine Wc.seq fun K287 hK287 => ?_
    refine Wc.regionMix [164] (frm [164] ([] : List Fact) [.box g9 27 [.int .i64 0, .slice none 0 0], .box g12 28 [.int .i64 0, .int .i64 0, .int .i64 0]]) (fun _ => rfl) mixed (by decide +kernel) (by decide +kernel) fun w289 hw288 => ?_
    replace hC := hC.step (Fr.of_drew hw288)
    have hM := Fr.refl (fun k => k ∈ blocks ([] : List Fact)) w289
    clear hw288
    have hS := hC
    have hD : Fr (fun k => k ∈ blocks (([] : List Fact) ++ [.box g9 27 [.int .i64 0, .slice none 0 0], .box g12 28 [.int .i64 0, .int .i64 0, .int .i64 0]])) w289 w289 := hM.wide
    have hUf11 : g9 < w289.heap.size → g9 ∈ blocks (([] : List Fact) ++ [.box g9 27 [.int .i64 0, .slice none 0 0], .box g12 28 [.int .i64 0, .int .i64 0, .int .i64 0]]) := fun _ => box_in (i := 0) rfl
    have hUf14 : g12 < w289.heap.size → g12 ∈ blocks (([] : List Fact) ++ [.box g9 27 [.int .i64 0, .slice none 0 0], .box g12 28 [.int .i64 0, .int .i64 0, .int .i64 0]]) := fun _ => box_in (i := 1) rfl
    refine mixE.pure (v := .int .i64 v9_0) (pu_move e9) ?_
    refine mixE.pure (v := .slice Al7_0 l7_0.length cl7_0) (pu_move e7) ?_
    refine mixE.pure (v := .agg #[.int .i64 v9_0, .slice Al7_0 l7_0.length cl7_0]) (pu_builds (places := [(0, 1), (1, 1)]) (pv := [(0, .int .i64 v9_0), (1, .slice Al7_0 l7_0.length cl7_0)]) Try.type27 Try.underlying27 rfl (mp_cons Try.type3 (mp_cons Try.type22 mp_nil rfl rfl) rfl rfl) rfl (by simp [Instr.fill, Value.cells])) ?_
    refine mixE.steady hD (v := .agg #[.int .i64 bf31_0_0, .int .i64 bf31_1_0, .int .i64 bf31_2_0]) (fun _ hF => ld_blk (hS.bx2 (i := 3) rfl [0, 1] (by decide) hF) Try.isAgg28 Try.sizeOf28 e8) ?_
    refine mixE.sk hD (hC.seta (i := 0) (ds := [.int .i64 v9_0, .slice Al7_0 l7_0.length cl7_0]) rfl Try.type27 rfl rfl rfl e4 rfl) ?_
    rintro w290 ⟨hC, hF⟩
    replace hD := hD.besideG hUf11 hF
    clear hF
    refine ⟨hD, ?_⟩
    refine mixE.sk hD (hC.seta (i := 1) (ds := [.int .i64 bf31_0_0, .int .i64 bf31_1_0, .int .i64 bf31_2_0]) rfl Try.type28 rfl rfl rfl e5 rfl) ?_
    rintro w291 ⟨hC, hF⟩
    replace hD := hD.besideG hUf14 hF
    clear hF
    refine ⟨hD, ?_⟩
    refine mixE.nil ?_
    clear hS hM
    clear hD
    refine hK287 _ _ ?_
    obtain rfl := Option.some.inj hb
    refine Wc.ret ?_
    refine hKR _ _ ?_
    refine ⟨_, res2 Try.results33 ⟨_, e4, loadVar_blk (hC.bx (i := 0) rfl) Try.isAgg27 Try.sizeOf27⟩ ⟨_, e5, loadVar_blk (hC.bx (i := 1) rfl) Try.isAgg28 Try.sizeOf28⟩, _, rfl, Al7_0, l7_0.length, cl7_0, rfl, hrv9_0, hrbf31_0_0, hrbf31_1_0, hrbf31_2_0, hC.sel [2] (by decide)⟩
end Go.Proofs.Ytkjpldmelafooaa
