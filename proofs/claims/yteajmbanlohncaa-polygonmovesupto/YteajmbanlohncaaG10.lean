/- The walks: part 10. -/
import Derived.Test.YteajmbanlohncaaS
import Derived.Test.YteajmbanlohncaaG6
set_option linter.unusedVariables false
set_option linter.unusedSimpArgs false
namespace Go.Proofs.Yteajmbanlohncaa
open Ev
set_option maxRecDepth 100000 in
set_option maxHeartbeats 4000000 in
theorem law46_few_ok (n : Nat) {w : World} {O0 : List Nat} (hO : ∀ k ∈ O0, k < w.heap.size) {Al_0 : Option Addr} {ml_0 cl_0 : Nat} {l_0 : List (List (Int × (Int × Int)))} (hl_0 : Rep O0 w (.sl (.sl (.pr (.int .i64) (.pr (.int .i64) (.int .i64))))) [.slice Al_0 ml_0 cl_0] l_0) {r : Bool} (hb : F.law46_few n l_0 = some r) :
    Calls Try.prog 14 #[.slice Al_0 ml_0 cl_0] w fun e w' => ∃ v, e = .returned v ∧ v = .bool r ∧ Cx (fun _ => False) O0 w w' [] := by
  unfold F.law46_few at hb
  have hC := Cx.start hO
  replace hC := hC.arg rfl hl_0
  clear hO
  obtain ⟨rfl, hll_0, hcl_0⟩ := hl_0.sl_len
  refine calls_of_Wc Try.func14 rfl (by rw [Try.ntmps14]; exact Nat.le_of_ble_eq_true rfl) fun KR hKR => ?_
  refine Wc.seq fun K2 hK2 => ?_
  refine Wc.region (by decide +kernel) ?_
  refine lex.pure (v := .bool false) (pu_assign rfl) ?_
  refine lex.nil ?_
  refine hK2 _ _ ?_
  refine Wc.seq fun K3 hK3 => ?_
  refine Wc.region (by decide +kernel) ?_
  refine lex.pure (v := .int .i64 0) (pu_assign rfl) ?_
  refine lex.nil ?_
  refine hK3 _ _ ?_
  refine Wc.seq fun K4 hK4 => ?_
  refine Wc.seq fun K5 hK5 => ?_
  refine Wc.region (by decide +kernel) ?_
  refine lex.pure (v := .slice Al_0 l_0.length cl_0) (pu_move rfl) ?_
  refine lex.pure (v := .int .i64 (l_0.length : Int)) (pu_len (A := Al_0) (n := l_0.length) (m := cl_0) Try.underlying28 rfl) ?_
  refine lex.pure (v := .int .i64 0) (pu_move rfl) ?_
  refine lex.nil ?_
  refine hK5 _ _ ?_
  obtain ⟨o6, hl0, hb⟩ := bd hb
  refine Wc.cut (fun E wv => ∃ (v3_0 : Int) (v8_0 : Int), E 0 = .slice Al_0 l_0.length cl_0 ∧ E 2 = .bool false ∧ E 3 = .int .i64 v3_0 ∧ I64 v3_0 ∧ I64 v8_0 ∧ Cx (fun _ => False) O0 w wv [.ro (.sl (.sl (.pr (.int .i64) (.pr (.int .i64) (.int .i64))))) [.slice Al_0 l_0.length cl_0] l_0] ∧ (cond (decide ((l_0.length : Int) ≤ 24)) (some (decide (v3_0 ≤ 24))) (some false) : Option (Bool)) = some r) (fun K7 hK7 => ?_) ?_
  · refine Wc.block ?_
    refine Wc.loop (fun m E wv => ∃ (v3_0 : Int) (v8_0 : Int), E 0 = .slice Al_0 l_0.length cl_0 ∧ E 2 = .bool false ∧ E 3 = .int .i64 v3_0 ∧ E 6 = .slice Al_0 l_0.length cl_0 ∧ E 7 = .int .i64 (l_0.length : Int) ∧ E 8 = .int .i64 v8_0 ∧ I64 v3_0 ∧ I64 v8_0 ∧ Cx (fun _ => False) O0 w wv [.ro (.sl (.sl (.pr (.int .i64) (.pr (.int .i64) (.int .i64))))) [.slice Al_0 l_0.length cl_0] l_0] ∧ loopN m (F.law46_few_b0 n l_0) (v3_0, v8_0) = some o6) n ⟨0, 0, rfl, rfl, rfl, rfl, rfl, rfl, (show I64 0 from by unfold I64; omega), (show I64 0 from by unfold I64; omega), hC.sel [0] (by decide), hl0⟩ ?_
    have hbK0 := hb
    clear hb hC hl0
    rintro m9 E11 w10 ⟨v3_0, v8_0, e0, e2, e3, e6, e7, e8, hrv3_0, hrv8_0, hC, hl0⟩ K8 hK8
    obtain ⟨m9', o12, rfl, hb, hl0⟩ := loopN_some hl0
    unfold F.law46_few_b0 at hb
    refine Wc.seq fun K13 hK13 => ?_
    refine Wc.region (by decide +kernel) ?_
    refine lex.pure (v := .bool (decide (v8_0 < (l_0.length : Int)))) (pu_lss (k := .i64) (a := v8_0) (b := (l_0.length : Int)) e8 e7) ?_
    refine lex.nil ?_
    refine hK13 _ _ ?_
    refine Wc.seq fun K14 hK14 => ?_
    refine Wc.cond (t := (decide (v8_0 < (l_0.length : Int)))) (rfl) (fun hq15 => ?_) (fun hq15 => ?_)
    · replace hb := (cT hq15).symm.trans hb
      refine Wc.skip ?_
      refine hK14 _ _ ?_
      refine Wc.seq fun K16 hK16 => ?_
      refine Wc.block ?_
      refine Wc.seq fun K17 hK17 => ?_
      refine Wc.region (by decide +kernel) ?_
      obtain ⟨x18, h19, hb⟩ := bd hb
      obtain ⟨ad20, cs21, hA, hc22, hr23⟩ := hC.elr (i := 0) rfl (get_some h19).2
      subst hA
      refine lex.pure (v := .pointer (some (ad20.add (v8_0.toNat * 1)))) (pu_index (a := v8_0) Try.underlying28 Try.sizeOf43 e6 e8 (get_some h19).1) ?_
      have hR := hr23
      obtain ⟨A24, c25, rfl, hl26, hc27, _⟩ := hr23
      replace hC := hC.ro hR
      clear hR
      refine lex.val (v := .slice A24 x18.length c25) (ld_one Try.isAgg43 rfl (hc22 0 _ rfl)) ?_
      refine lex.pure (v := .slice A24 x18.length c25) (pu_assign rfl) ?_
      refine lex.nil ?_
      refine hK17 _ _ ?_
      refine Wc.region (by decide +kernel) ?_
      refine lex.pure (v := .int .i64 v3_0) (pu_move e3) ?_
      refine lex.pure (v := .slice A24 x18.length c25) (pu_move rfl) ?_
      refine lex.pure (v := .int .i64 (x18.length : Int)) (pu_len (A := A24) (n := x18.length) (m := c25) Try.underlying43 rfl) ?_
      obtain ⟨z29, h30, hb⟩ := bd hb
      refine lex.pure (v := .int .i64 z29) (pu_addc (a := v3_0) (b := (x18.length : Int)) rfl rfl h30) ?_
      refine lex.pure (v := .int .i64 z29) (pu_assign rfl) ?_
      refine lex.nil ?_
      refine hK16 _ _ ?_
      refine Wc.region (by decide +kernel) ?_
      obtain ⟨z31, h32, hb⟩ := bd hb
      refine lex.pure (v := .int .i64 z31) (pu_addc (a := v8_0) (b := 1) e8 rfl h32) ?_
      refine lex.pure (v := .int .i64 z31) (pu_move rfl) ?_
      refine lex.nil ?_
      obtain rfl := Option.some.inj hb
      exact hK8 m9' _ _ (Nat.lt_succ_self _) ⟨z29, z31, e0, e2, rfl, e6, e7, rfl, (chk_rng h30), (chk_rng h32), hC.sel [1] (by decide), lN hl0⟩
    · replace hb := (cF hq15).symm.trans hb
      refine Wc.exit rfl ?_
      obtain rfl := Option.some.inj hb
      obtain rfl := (lX hl0).symm
      exact hK7 _ _ ⟨v3_0, v8_0, e0, e2, e3, hrv3_0, hrv8_0, hC.sel [0] (by decide), hbK0⟩
  · clear hb hC hl0
    rintro E34 w33 ⟨v3_0, v8_0, e0, e2, e3, hrv3_0, hrv8_0, hC, hb⟩
    refine hK4 _ _ ?_
    refine Wc.seq fun K35 hK35 => ?_
    refine Wc.region (by decide +kernel) ?_
    refine lex.pure (v := .slice Al_0 l_0.length cl_0) (pu_move e0) ?_
    refine lex.pure (v := .int .i64 (l_0.length : Int)) (pu_len (A := Al_0) (n := l_0.length) (m := cl_0) Try.underlying28 rfl) ?_
    refine lex.pure (v := .bool (decide ((l_0.length : Int) ≤ 24))) (pu_leq (k := .i64) (a := (l_0.length : Int)) (b := 24) rfl rfl) ?_
    refine lex.pure (v := .bool (decide ((l_0.length : Int) ≤ 24))) (pu_move rfl) ?_
    rcases bS (decide ((l_0.length : Int) ≤ 24)) with hq36 | hq36
    · replace hb := (cT hq36).symm.trans hb
      refine lex.gpure (want_t rfl rfl (show _ = Value.bool (decide ((l_0.length : Int) ≤ 24)) from rfl) hq36) (v := .int .i64 v3_0) (pu_move e3) ?_
      refine lex.gpure (want_t rfl rfl (show _ = Value.bool (decide ((l_0.length : Int) ≤ 24)) from rfl) hq36) (v := .bool (decide (v3_0 ≤ 24))) (pu_leq (k := .i64) (a := v3_0) (b := 24) rfl rfl) ?_
      refine lex.pure (v := .bool (decide (v3_0 ≤ 24))) (pu_pickT (q := (decide ((l_0.length : Int) ≤ 24))) rfl hq36 rfl) ?_
      refine lex.pure (v := .bool (decide (v3_0 ≤ 24))) (pu_assign rfl) ?_
      refine lex.nil ?_
      refine hK35 _ _ ?_
      obtain rfl := Option.some.inj hb
      refine Wc.ret ?_
      refine hKR _ _ ?_
      refine ⟨_, res1 Try.results14 (show RV _ _ _ (.tmp _) (.bool (decide (v3_0 ≤ 24))) from rfl), _, rfl, rfl, hC.sel [] (by decide)⟩
    · replace hb := (cF hq36).symm.trans hb
      refine lex.gskip (want_f rfl rfl (show _ = Value.bool (decide ((l_0.length : Int) ≤ 24)) from rfl) hq36) ?_
      refine lex.gskip (want_f rfl rfl (show _ = Value.bool (decide ((l_0.length : Int) ≤ 24)) from rfl) hq36) ?_
      refine lex.pure (v := .bool false) (pu_pickF (q := (decide ((l_0.length : Int) ≤ 24))) rfl hq36 rfl) ?_
      refine lex.pure (v := .bool false) (pu_assign rfl) ?_
      refine lex.nil ?_
      refine hK35 _ _ ?_
      obtain rfl := Option.some.inj hb
      refine Wc.ret ?_
      refine hKR _ _ ?_
      refine ⟨_, res1 Try.results14 (show RV _ _ _ (.tmp _) (.bool false) from rfl), _, rfl, rfl, hC.sel [] (by decide)⟩

set_option maxRecDepth 100000 in
set_option maxHeartbeats 4000000 in
theorem law46_generic_ok (n : Nat) {w : World} {O0 : List Nat} (hO : ∀ k ∈ O0, k < w.heap.size) {Al_0 : Option Addr} {ml_0 cl_0 : Nat} {l_0 : List (List (Int × (Int × Int)))} (hl_0 : Rep O0 w (.sl (.sl (.pr (.int .i64) (.pr (.int .i64) (.int .i64))))) [.slice Al_0 ml_0 cl_0] l_0) {r : (List Int) × (List Int) × Int × Bool} (hb : F.law46_generic n l_0 = some r) :
    Calls Try.prog 23 #[.slice Al_0 ml_0 cl_0] w fun e w' => ∃ v, e = .returned v ∧ ∃ (A0 : Option Addr) (m0 c0 : Nat) (A1 : Option Addr) (m1 c1 : Nat), v = .tuple #[.agg #[.slice A0 m0 c0, .slice A1 m1 c1, .int .i64 r.2.2.1], .bool r.2.2.2] ∧ I64 r.2.2.1 ∧ Cx (fun _ => False) O0 w w' [.own 3 (.int .i64) (.slice A0 m0 c0) r.1, .own 3 (.int .i64) (.slice A1 m1 c1) r.2.1] := by
  unfold F.law46_generic at hb
  have hC := Cx.start hO
  replace hC := hC.arg rfl hl_0
  clear hO
  obtain ⟨rfl, hll_0, hcl_0⟩ := hl_0.sl_len
  refine calls_of_Wc Try.func23 rfl (by rw [Try.ntmps23]; exact Nat.le_of_ble_eq_true rfl) fun KR hKR => ?_
  refine Wc.seq fun K2 hK2 => ?_
  refine Wc.region (by decide +kernel) ?_
  refine lex.op (hC.alloc (cs := [.slice none 0 0, .slice none 0 0, .int .i64 0]) Try.zeroValue32 rfl) ?_
  rintro _ w4 ⟨g3, rfl, hC, hF, hG⟩
  clear hG
  refine lex.pure (v := .bool false) (pu_assign rfl) ?_
  refine lex.nil ?_
  refine hK2 _ _ ?_
  refine Wc.seq fun K6 hK6 => ?_
  refine Wc.seq fun K7 hK7 => ?_
  refine Wc.region (by decide +kernel) ?_
  refine lex.pure (v := .slice Al_0 l_0.length cl_0) (pu_move rfl) ?_
  obtain ⟨y8, h9, hb⟩ := bd hb
  refine lex.cl (⟨_, _, op_call (vs := [.slice Al_0 l_0.length cl_0]) Try.call14 rfl rfl rfl, law46_few_ok n hC.lt (hC.rd (i := 1) rfl) h9⟩) ?_
  rintro _ w10 ⟨rfl, hK⟩
  replace hC := hC.merge hK
  clear hK
  refine lex.pure (v := .bool (!y8)) (pu_not (q := y8) rfl) ?_
  refine lex.nil ?_
  refine hK7 _ _ ?_
  refine Wc.cond (t := (!y8)) (rfl) (fun hq11 => ?_) (fun hq11 => ?_)
  · replace hb := (cT hq11).symm.trans hb
    refine Wc.seq fun K12 hK12 => ?_
    refine Wc.region (by decide +kernel) ?_
    refine lex.pure (v := .agg #[.slice none 0 0, .slice none 0 0, .int .i64 0]) (pu_builds (places := [(0, 1), (1, 1), (2, 1)]) (pv := []) Try.type32 Try.underlying32 rfl (mp_cons Try.type30 (mp_cons Try.type30 (mp_cons Try.type3 mp_nil rfl rfl) rfl rfl) rfl rfl) rfl (by simp [Instr.fill, Value.cells])) ?_
    refine lex.sk (hC.seta (i := 0) (ds := [.slice none 0 0, .slice none 0 0, .int .i64 0]) rfl Try.type32 rfl rfl rfl rfl rfl) ?_
    rintro w13 ⟨hC, hF⟩
    refine lex.pure (v := .bool false) (pu_assign rfl) ?_
    refine lex.nil ?_
    refine hK12 _ _ ?_
    replace hC := hC.nil 3 (.int .i64)
    replace hC := hC.nil 3 (.int .i64)
    obtain rfl := Option.some.inj hb
    refine Wc.ret ?_
    refine hKR _ _ ?_
    refine ⟨_, res2 Try.results23 ⟨_, rfl, loadVar_blk (hC.bx (i := 2) rfl) Try.isAgg32 Try.sizeOf32⟩ (show RV _ _ _ (.tmp _) (.bool false) from rfl), _, rfl, none, 0, 0, none, 0, 0, rfl, (show I64 0 from by unfold I64; omega), hC.sel [1, 0] (by decide)⟩
  · replace hb := (cF hq11).symm.trans hb
    refine Wc.skip ?_
    refine hK6 _ _ ?_
    refine Wc.seq fun K16 hK16 => ?_
    refine Wc.region (by decide +kernel) ?_
    refine lex.pure (v := .slice Al_0 l_0.length cl_0) (pu_move rfl) ?_
    obtain ⟨y17, h18, hb⟩ := bd hb
    refine lex.cl (⟨_, _, op_call (vs := [.slice Al_0 l_0.length cl_0]) Try.call15 rfl rfl rfl, polygon_Project_ok n hC.lt (hC.rd (i := 1) rfl) h18⟩) ?_
    rintro _ w29 ⟨A19, m20, c21, A23, m24, c25, rfl, hr27, hr28, hK⟩
    replace hC := hC.merge hK
    clear hK
    obtain ⟨rfl, hl30, hc31⟩ := (hC.ow (i := 0) rfl).sl_len
    obtain ⟨rfl, hl32, hc33⟩ := (hC.ow (i := 1) rfl).sl_len
    refine lex.pure (v := .tuple #[.agg #[.slice A19 y17.1.length c21, .slice A23 y17.2.1.length c25, .int .i64 y17.2.2.1], .int .i64 y17.2.2.2]) (pu_move rfl) ?_
    refine lex.pure (v := .agg #[.slice A19 y17.1.length c21, .slice A23 y17.2.1.length c25, .int .i64 y17.2.2.1]) (pu_extract rfl rfl) ?_
    refine lex.pure (v := .int .i64 y17.2.2.2) (pu_extract rfl rfl) ?_
    refine lex.op (hC.alloc (cs := [.slice none 0 0, .slice none 0 0, .int .i64 0]) Try.zeroValue32 rfl) ?_
    rintro _ w35 ⟨g34, rfl, hC, hF, hG⟩
    clear hG
    refine lex.sk (hC.seta (i := 0) (ds := [.slice A19 y17.1.length c21, .slice A23 y17.2.1.length c25, .int .i64 y17.2.2.1]) rfl Try.type32 rfl rfl rfl rfl rfl) ?_
    rintro w37 ⟨hC, hF⟩
    refine lex.pure (v := .int .i64 y17.2.2.2) (pu_assign rfl) ?_
    refine lex.nil ?_
    refine hK16 _ _ ?_
    refine Wc.fresh fun E38 hE => ?_
    have e2 : E38 2 = .pointer (some ⟨g3, 0, none⟩) := (congrFun hE 2).trans rfl
    have e3 : E38 3 = .bool false := (congrFun hE 3).trans rfl
    have e4 : E38 4 = .pointer (some ⟨g34, 0, none⟩) := (congrFun hE 4).trans rfl
    have e5 : E38 5 = .int .i64 y17.2.2.2 := (congrFun hE 5).trans rfl
    clear hE
    refine Wc.seq fun K39 hK39 => ?_
    refine Wc.region (by decide +kernel) ?_
    refine lex.val (v := .agg #[.slice A19 y17.1.length c21, .slice A23 y17.2.1.length c25, .int .i64 y17.2.2.1]) (ld_blk (hC.bx (i := 0) rfl) Try.isAgg32 Try.sizeOf32 e4) ?_
    refine lex.pure (v := .int .i64 y17.2.2.2) (pu_move e5) ?_
    refine lex.pure (v := .bool (decide (y17.2.2.2 = 0))) (pu_eql (k := .i64) (a := y17.2.2.2) (b := 0) rfl rfl) ?_
    refine lex.sk (hC.seta (i := 3) (ds := [.slice A19 y17.1.length c21, .slice A23 y17.2.1.length c25, .int .i64 y17.2.2.1]) rfl Try.type32 rfl rfl rfl e2 rfl) ?_
    rintro w40 ⟨hC, hF⟩
    refine lex.pure (v := .bool (decide (y17.2.2.2 = 0))) (pu_assign rfl) ?_
    refine lex.nil ?_
    refine hK39 _ _ ?_
    obtain rfl := Option.some.inj hb
    refine Wc.ret ?_
    refine hKR _ _ ?_
    refine ⟨_, res2 Try.results23 ⟨_, e2, loadVar_blk (hC.bx (i := 3) rfl) Try.isAgg32 Try.sizeOf32⟩ (show RV _ _ _ (.tmp _) (.bool (decide (y17.2.2.2 = 0))) from rfl), _, rfl, A19, y17.1.length, c21, A23, y17.2.1.length, c25, rfl, hr27, hC.sel [1, 2] (by decide)⟩

set_option maxRecDepth 100000 in
set_option maxHeartbeats 4000000 in
theorem law46_PolygonMoves_c1_ok (n : Nat) {w : World} {O0 : List Nat} (hO : ∀ k ∈ O0, k < w.heap.size) {p_0_0 : Int} (hp_0_0 : I64 p_0_0) {p_0_1 : Int} (hp_0_1 : I64 p_0_1) {p_0_2 : Int} (hp_0_2 : I64 p_0_2) {gu_1 : Nat} {u_1_0 : Int} (hu_1_0 : IntKind.u8.wrap u_1_0 = u_1_0) {gu_2 : Nat} {u_2_0 : Int} (hu_2_0 : IntKind.i8.wrap u_2_0 = u_2_0) {gu_3 : Nat} {u_3_0 : Int} (hu_3_0 : IntKind.i8.wrap u_3_0 = u_3_0) {gu_4 : Nat} {u_4_0 : Int} (hu_4_0 : IntKind.i8.wrap u_4_0 = u_4_0) (hio : Tk O0 w [.box gu_1 5 [.int .u8 u_1_0], .box gu_2 45 [.int .i8 u_2_0], .box gu_3 45 [.int .i8 u_3_0], .box gu_4 45 [.int .i8 u_4_0]]) {r : Int × Int × Int} (hb : F.law46_PolygonMoves_c1 n p_0_0 p_0_1 p_0_2 u_1_0 u_2_0 u_3_0 u_4_0 = some r) :
    Calls Try.prog 25 #[.agg #[.int .i64 p_0_0, .int .i64 p_0_1, .int .i64 p_0_2], .pointer (some ⟨gu_1, 0, none⟩), .pointer (some ⟨gu_2, 0, none⟩), .pointer (some ⟨gu_3, 0, none⟩), .pointer (some ⟨gu_4, 0, none⟩)] w fun e w' => ∃ v, e = .returned v ∧ v = .agg #[.int .i64 r.1, .int .i64 r.2.1, .int .i64 r.2.2] ∧ I64 r.1 ∧ I64 r.2.1 ∧ I64 r.2.2 ∧ Cx (fun k => k ∈ blocks [.box gu_1 5 [.int .u8 u_1_0], .box gu_2 45 [.int .i8 u_2_0], .box gu_3 45 [.int .i8 u_3_0], .box gu_4 45 [.int .i8 u_4_0]]) O0 w w' [.box gu_1 5 [.int .u8 u_1_0], .box gu_2 45 [.int .i8 u_2_0], .box gu_3 45 [.int .i8 u_3_0], .box gu_4 45 [.int .i8 u_4_0]] := by
  unfold F.law46_PolygonMoves_c1 at hb
  have hC := Cx.startTk hO hio
  have hsub := hio.2.2
  clear hO
  clear hio hsub
  obtain ⟨I, hI, hC⟩ : ∃ I : Nat → Prop, I = (fun k => k ∈ blocks [.box gu_1 5 [.int .u8 u_1_0], .box gu_2 45 [.int .i8 u_2_0], .box gu_3 45 [.int .i8 u_3_0], .box gu_4 45 [.int .i8 u_4_0]]) ∧ Cx I O0 w w ([.box gu_1 5 [.int .u8 u_1_0], .box gu_2 45 [.int .i8 u_2_0], .box gu_3 45 [.int .i8 u_3_0], .box gu_4 45 [.int .i8 u_4_0]]) := ⟨_, rfl, hC⟩
  refine calls_of_Wc Try.func25 rfl (by rw [Try.ntmps25]; exact Nat.le_of_ble_eq_true rfl) fun KR hKR => ?_
  refine Wc.seq fun K5 hK5 => ?_
  refine Wc.region (by decide +kernel) ?_
  refine lex.op (hC.box (cs := [.int .i64 p_0_0, .int .i64 p_0_1, .int .i64 p_0_2]) rfl rfl) ?_
  rintro _ w7 ⟨g6, rfl, hC, hF, hG⟩
  clear hG
  refine lex.op (hC.alloc (cs := [.int .i64 0, .int .i64 0, .int .i64 0]) Try.zeroValue23 rfl) ?_
  rintro _ w10 ⟨g9, rfl, hC, hF, hG⟩
  clear hG
  refine lex.nil ?_
  refine hK5 _ _ ?_
  refine Wc.seq fun K12 hK12 => ?_
  refine Wc.seq fun K13 hK13 => ?_
  refine Wc.region (by decide +kernel) ?_
  refine lex.val (v := .int .u8 u_1_0) (ld_one Try.isAgg5 rfl ((hC.bx (i := 2) rfl).cell (j := 0) rfl)) ?_
  obtain ⟨u14, h15, hb⟩ := bd hb
  refine lex.pure (v := .int .u8 (Int.tmod u_1_0 3)) (pu_remk (k := .u8) (nz_some h15) rfl rfl) ?_
  refine lex.nil ?_
  refine hK13 _ _ ?_
  refine Wc.block ?_
  refine Wc.seq fun K16 hK16 => ?_
  refine Wc.region (by decide +kernel) ?_
  refine lex.pure (v := .bool (decide ((Int.tmod u_1_0 3) = 0))) (pu_eql (k := .u8) (a := (Int.tmod u_1_0 3)) (b := 0) rfl rfl) ?_
  refine lex.pure (v := .bool (decide ((Int.tmod u_1_0 3) = 0))) (pu_assign rfl) ?_
  refine lex.nil ?_
  refine hK16 _ _ ?_
  refine Wc.cond (t := (decide ((Int.tmod u_1_0 3) = 0))) (rfl) (fun hq17 => ?_) (fun hq17 => ?_)
  · replace hb := (cT hq17).symm.trans hb
    refine Wc.seq fun K18 hK18 => ?_
    refine Wc.region (by decide +kernel) ?_
    refine lex.pure (v := .pointer (some ((⟨g6, 0, none⟩ : Addr).add 0))) (pu_field (sz := 1) Try.underlying23 rfl Try.sizeOf3 (by decide) rfl rfl) ?_
    refine lex.val (v := .int .i64 p_0_0) (ld_fld (hC.bx (i := 1) rfl) Try.isAgg3 rfl rfl) ?_
    refine lex.val (v := .int .i8 u_2_0) (ld_one Try.isAgg45 rfl ((hC.bx (i := 3) rfl).cell (j := 0) rfl)) ?_
    refine lex.pure (v := .int .i64 u_2_0) (pu_conv (k := .i8) (a := u_2_0) Try.underlying45 Try.underlying3 rfl (small_i8 hu_2_0).wr) ?_
    obtain ⟨z19, h20, hb⟩ := bd hb
    refine lex.pure (v := .int .i64 z19) (pu_addc (a := p_0_0) (b := u_2_0) rfl rfl h20) ?_
    refine lex.pure (v := .pointer (some ((⟨g6, 0, none⟩ : Addr).add 1))) (pu_field (sz := 1) Try.underlying23 rfl Try.sizeOf3 (by decide) rfl rfl) ?_
    refine lex.val (v := .int .i64 p_0_1) (ld_fld (hC.bx (i := 1) rfl) Try.isAgg3 rfl rfl) ?_
    refine lex.val (v := .int .i8 u_3_0) (ld_one Try.isAgg45 rfl ((hC.bx (i := 4) rfl).cell (j := 0) rfl)) ?_
    refine lex.pure (v := .int .i64 u_3_0) (pu_conv (k := .i8) (a := u_3_0) Try.underlying45 Try.underlying3 rfl (small_i8 hu_3_0).wr) ?_
    obtain ⟨z21, h22, hb⟩ := bd hb
    refine lex.pure (v := .int .i64 z21) (pu_addc (a := p_0_1) (b := u_3_0) rfl rfl h22) ?_
    refine lex.pure (v := .pointer (some ((⟨g6, 0, none⟩ : Addr).add 2))) (pu_field (sz := 1) Try.underlying23 rfl Try.sizeOf3 (by decide) rfl rfl) ?_
    refine lex.val (v := .int .i64 p_0_2) (ld_fld (hC.bx (i := 1) rfl) Try.isAgg3 rfl rfl) ?_
    refine lex.val (v := .int .i8 u_4_0) (ld_one Try.isAgg45 rfl ((hC.bx (i := 5) rfl).cell (j := 0) rfl)) ?_
    refine lex.pure (v := .int .i64 u_4_0) (pu_conv (k := .i8) (a := u_4_0) Try.underlying45 Try.underlying3 rfl (small_i8 hu_4_0).wr) ?_
    obtain ⟨z23, h24, hb⟩ := bd hb
    refine lex.pure (v := .int .i64 z23) (pu_addc (a := p_0_2) (b := u_4_0) rfl rfl h24) ?_
    refine lex.pure (v := .agg #[.int .i64 z19, .int .i64 z21, .int .i64 z23]) (pu_builds (places := [(0, 1), (1, 1), (2, 1)]) (pv := [(0, .int .i64 z19), (1, .int .i64 z21), (2, .int .i64 z23)]) Try.type23 Try.underlying23 rfl (mp_cons Try.type3 (mp_cons Try.type3 (mp_cons Try.type3 mp_nil rfl rfl) rfl rfl) rfl rfl) rfl (by simp [Instr.fill, Value.cells])) ?_
    refine lex.sk (hC.seta (i := 0) (ds := [.int .i64 z19, .int .i64 z21, .int .i64 z23]) rfl Try.type23 rfl rfl rfl rfl rfl) ?_
    rintro w25 ⟨hC, hF⟩
    refine lex.nil ?_
    refine hK18 _ _ ?_
    obtain rfl := Option.some.inj hb
    subst hI
    refine Wc.ret ?_
    refine hKR _ _ ?_
    refine ⟨_, res1 Try.results25 ⟨_, rfl, loadVar_blk (hC.bx (i := 0) rfl) Try.isAgg23 Try.sizeOf23⟩, _, rfl, rfl, (chk_rng h20), (chk_rng h22), (chk_rng h24), hC.sel [2, 3, 4, 5] (by decide)⟩
  · replace hb := (cF hq17).symm.trans hb
    refine Wc.seq fun K26 hK26 => ?_
    refine Wc.region (by decide +kernel) ?_
    refine lex.pure (v := .bool (decide ((Int.tmod u_1_0 3) = 1))) (pu_eql (k := .u8) (a := (Int.tmod u_1_0 3)) (b := 1) rfl rfl) ?_
    refine lex.pure (v := .bool (decide ((Int.tmod u_1_0 3) = 1))) (pu_assign rfl) ?_
    refine lex.nil ?_
    refine hK26 _ _ ?_
    refine Wc.cond (t := (decide ((Int.tmod u_1_0 3) = 1))) (rfl) (fun hq27 => ?_) (fun hq27 => ?_)
    · replace hb := (cT hq27).symm.trans hb
      refine Wc.seq fun K28 hK28 => ?_
      refine Wc.region (by decide +kernel) ?_
      refine lex.pure (v := .pointer (some ((⟨g6, 0, none⟩ : Addr).add 1))) (pu_field (sz := 1) Try.underlying23 rfl Try.sizeOf3 (by decide) rfl rfl) ?_
      refine lex.val (v := .int .i64 p_0_1) (ld_fld (hC.bx (i := 1) rfl) Try.isAgg3 rfl rfl) ?_
      obtain ⟨z29, h30, hb⟩ := bd hb
      refine lex.pure (v := .int .i64 z29) (pu_negc (a := p_0_1) rfl h30) ?_
      refine lex.pure (v := .pointer (some ((⟨g6, 0, none⟩ : Addr).add 0))) (pu_field (sz := 1) Try.underlying23 rfl Try.sizeOf3 (by decide) rfl rfl) ?_
      refine lex.val (v := .int .i64 p_0_0) (ld_fld (hC.bx (i := 1) rfl) Try.isAgg3 rfl rfl) ?_
      refine lex.pure (v := .pointer (some ((⟨g6, 0, none⟩ : Addr).add 2))) (pu_field (sz := 1) Try.underlying23 rfl Try.sizeOf3 (by decide) rfl rfl) ?_
      refine lex.val (v := .int .i64 p_0_2) (ld_fld (hC.bx (i := 1) rfl) Try.isAgg3 rfl rfl) ?_
      refine lex.pure (v := .agg #[.int .i64 z29, .int .i64 p_0_0, .int .i64 p_0_2]) (pu_builds (places := [(0, 1), (1, 1), (2, 1)]) (pv := [(0, .int .i64 z29), (1, .int .i64 p_0_0), (2, .int .i64 p_0_2)]) Try.type23 Try.underlying23 rfl (mp_cons Try.type3 (mp_cons Try.type3 (mp_cons Try.type3 mp_nil rfl rfl) rfl rfl) rfl rfl) rfl (by simp [Instr.fill, Value.cells])) ?_
      refine lex.sk (hC.seta (i := 0) (ds := [.int .i64 z29, .int .i64 p_0_0, .int .i64 p_0_2]) rfl Try.type23 rfl rfl rfl rfl rfl) ?_
      rintro w31 ⟨hC, hF⟩
      refine lex.nil ?_
      refine hK28 _ _ ?_
      obtain rfl := Option.some.inj hb
      subst hI
      refine Wc.ret ?_
      refine hKR _ _ ?_
      refine ⟨_, res1 Try.results25 ⟨_, rfl, loadVar_blk (hC.bx (i := 0) rfl) Try.isAgg23 Try.sizeOf23⟩, _, rfl, rfl, (chk_rng h30), hp_0_0, hp_0_2, hC.sel [2, 3, 4, 5] (by decide)⟩
    · replace hb := (cF hq27).symm.trans hb
      refine Wc.skip ?_
      refine hK12 _ _ ?_
      refine Wc.seq fun K32 hK32 => ?_
      refine Wc.region (by decide +kernel) ?_
      refine lex.pure (v := .pointer (some ((⟨g6, 0, none⟩ : Addr).add 0))) (pu_field (sz := 1) Try.underlying23 rfl Try.sizeOf3 (by decide) rfl rfl) ?_
      refine lex.val (v := .int .i64 p_0_0) (ld_fld (hC.bx (i := 1) rfl) Try.isAgg3 rfl rfl) ?_
      refine lex.pure (v := .pointer (some ((⟨g6, 0, none⟩ : Addr).add 1))) (pu_field (sz := 1) Try.underlying23 rfl Try.sizeOf3 (by decide) rfl rfl) ?_
      refine lex.val (v := .int .i64 p_0_1) (ld_fld (hC.bx (i := 1) rfl) Try.isAgg3 rfl rfl) ?_
      refine lex.pure (v := .pointer (some ((⟨g6, 0, none⟩ : Addr).add 2))) (pu_field (sz := 1) Try.underlying23 rfl Try.sizeOf3 (by decide) rfl rfl) ?_
      refine lex.val (v := .int .i64 p_0_2) (ld_fld (hC.bx (i := 1) rfl) Try.isAgg3 rfl rfl) ?_
      obtain ⟨z33, h34, hb⟩ := bd hb
      refine lex.pure (v := .int .i64 z33) (pu_mulc (a := 3) (b := p_0_2) rfl rfl h34) ?_
      refine lex.pure (v := .agg #[.int .i64 p_0_0, .int .i64 p_0_1, .int .i64 z33]) (pu_builds (places := [(0, 1), (1, 1), (2, 1)]) (pv := [(0, .int .i64 p_0_0), (1, .int .i64 p_0_1), (2, .int .i64 z33)]) Try.type23 Try.underlying23 rfl (mp_cons Try.type3 (mp_cons Try.type3 (mp_cons Try.type3 mp_nil rfl rfl) rfl rfl) rfl rfl) rfl (by simp [Instr.fill, Value.cells])) ?_
      refine lex.sk (hC.seta (i := 0) (ds := [.int .i64 p_0_0, .int .i64 p_0_1, .int .i64 z33]) rfl Try.type23 rfl rfl rfl rfl rfl) ?_
      rintro w35 ⟨hC, hF⟩
      refine lex.nil ?_
      refine hK32 _ _ ?_
      obtain rfl := Option.some.inj hb
      subst hI
      refine Wc.ret ?_
      refine hKR _ _ ?_
      refine ⟨_, res1 Try.results25 ⟨_, rfl, loadVar_blk (hC.bx (i := 0) rfl) Try.isAgg23 Try.sizeOf23⟩, _, rfl, rfl, hp_0_0, hp_0_1, (chk_rng h34), hC.sel [2, 3, 4, 5] (by decide)⟩

set_option maxRecDepth 100000 in
set_option maxHeartbeats 4000000 in
theorem law46_moved_law46_PolygonMoves_c1_ok (n : Nat) {w : World} {O0 : List Nat} (hO : ∀ k ∈ O0, k < w.heap.size) {Al_0 : Option Addr} {ml_0 cl_0 : Nat} {l_0 : List (List (Int × (Int × Int)))} (hl_0 : Rep O0 w (.sl (.sl (.pr (.int .i64) (.pr (.int .i64) (.int .i64))))) [.slice Al_0 ml_0 cl_0] l_0) {gf_1_0 : Nat} {f_1_0_0 : Int} (hf_1_0_0 : IntKind.u8.wrap f_1_0_0 = f_1_0_0) {gf_1_1 : Nat} {f_1_1_0 : Int} (hf_1_1_0 : IntKind.i8.wrap f_1_1_0 = f_1_1_0) {gf_1_2 : Nat} {f_1_2_0 : Int} (hf_1_2_0 : IntKind.i8.wrap f_1_2_0 = f_1_2_0) {gf_1_3 : Nat} {f_1_3_0 : Int} (hf_1_3_0 : IntKind.i8.wrap f_1_3_0 = f_1_3_0) (hio : Tk O0 w [.box gf_1_0 5 [.int .u8 f_1_0_0], .box gf_1_1 45 [.int .i8 f_1_1_0], .box gf_1_2 45 [.int .i8 f_1_2_0], .box gf_1_3 45 [.int .i8 f_1_3_0]]) {r : (List (List (Int × (Int × Int))))} (hb : F.law46_moved_law46_PolygonMoves_c1 n l_0 f_1_0_0 f_1_1_0 f_1_2_0 f_1_3_0 = some r) :
    Calls Try.prog 24 #[.slice Al_0 ml_0 cl_0, .func (.func 25) #[] #[.pointer (some ⟨gf_1_0, 0, none⟩), .pointer (some ⟨gf_1_1, 0, none⟩), .pointer (some ⟨gf_1_2, 0, none⟩), .pointer (some ⟨gf_1_3, 0, none⟩)]] w fun e w' => ∃ v, e = .returned v ∧ ∃ (A0 : Option Addr) (m0 c0 : Nat), v = .slice A0 m0 c0 ∧ Cx (fun k => k ∈ blocks [.box gf_1_0 5 [.int .u8 f_1_0_0], .box gf_1_1 45 [.int .i8 f_1_1_0], .box gf_1_2 45 [.int .i8 f_1_2_0], .box gf_1_3 45 [.int .i8 f_1_3_0]]) O0 w w' [.own 43 (.sl (.pr (.int .i64) (.pr (.int .i64) (.int .i64)))) (.slice A0 m0 c0) r, .box gf_1_0 5 [.int .u8 f_1_0_0], .box gf_1_1 45 [.int .i8 f_1_1_0], .box gf_1_2 45 [.int .i8 f_1_2_0], .box gf_1_3 45 [.int .i8 f_1_3_0]] := by
  unfold F.law46_moved_law46_PolygonMoves_c1 at hb
  have hC := Cx.startTk hO hio
  have hsub := hio.2.2
  replace hC := hC.argTk (by first | exact hsub | exact fun k hk => hsub k (by simpa [blocks, Fact.blk] using hk)) hl_0
  clear hO
  obtain ⟨rfl, hll_0, hcl_0⟩ := hl_0.sl_len
  clear hio hsub
  obtain ⟨I, hI, hC⟩ : ∃ I : Nat → Prop, I = (fun k => k ∈ blocks [.box gf_1_0 5 [.int .u8 f_1_0_0], .box gf_1_1 45 [.int .i8 f_1_1_0], .box gf_1_2 45 [.int .i8 f_1_2_0], .box gf_1_3 45 [.int .i8 f_1_3_0]]) ∧ Cx I O0 w w ([.ro (.sl (.sl (.pr (.int .i64) (.pr (.int .i64) (.int .i64))))) [.slice Al_0 l_0.length cl_0] l_0, .box gf_1_0 5 [.int .u8 f_1_0_0], .box gf_1_1 45 [.int .i8 f_1_1_0], .box gf_1_2 45 [.int .i8 f_1_2_0], .box gf_1_3 45 [.int .i8 f_1_3_0]]) := ⟨_, rfl, hC⟩
  refine calls_of_Wc Try.func24 rfl (by rw [Try.ntmps24]; exact Nat.le_of_ble_eq_true rfl) fun KR hKR => ?_
  refine Wc.seq fun K6 hK6 => ?_
  refine Wc.region (by decide +kernel) ?_
  refine lex.pure (v := .slice none 0 0) (pu_assign rfl) ?_
  refine lex.nil ?_
  refine hK6 _ _ ?_
  refine Wc.seq fun K7 hK7 => ?_
  refine Wc.region (by decide +kernel) ?_
  refine lex.pure (v := .slice none 0 0) (pu_assign rfl) ?_
  refine lex.nil ?_
  refine hK7 _ _ ?_
  refine Wc.seq fun K8 hK8 => ?_
  refine Wc.seq fun K9 hK9 => ?_
  refine Wc.region (by decide +kernel) ?_
  refine lex.pure (v := .slice Al_0 l_0.length cl_0) (pu_move rfl) ?_
  refine lex.pure (v := .int .i64 (l_0.length : Int)) (pu_len (A := Al_0) (n := l_0.length) (m := cl_0) Try.underlying28 rfl) ?_
  refine lex.pure (v := .int .i64 0) (pu_move rfl) ?_
  refine lex.nil ?_
  refine hK9 _ _ ?_
  replace hC := hC.nil 43 (.sl (.pr (.int .i64) (.pr (.int .i64) (.int .i64))))
  obtain ⟨o11, hl0, hb⟩ := bd hb
  refine Wc.cut (fun E wv => ∃ (l5_0 : List (List (Int × (Int × Int)))) (v13_0 : Int) (Al5_0 : Option Addr) (ml5_0 cl5_0 : Nat), E 4 = .slice none 0 0 ∧ E 5 = .slice Al5_0 ml5_0 cl5_0 ∧ I64 v13_0 ∧ Cx I O0 w wv [.own 43 (.sl (.pr (.int .i64) (.pr (.int .i64) (.int .i64)))) (.slice Al5_0 ml5_0 cl5_0) l5_0, .box gf_1_0 5 [.int .u8 f_1_0_0], .box gf_1_1 45 [.int .i8 f_1_1_0], .box gf_1_2 45 [.int .i8 f_1_2_0], .box gf_1_3 45 [.int .i8 f_1_3_0]] ∧ (some l5_0 : Option ((List (List (Int × (Int × Int)))))) = some r) (fun K12 hK12 => ?_) ?_
  · refine Wc.block ?_
    refine Wc.loop (fun m E wv => ∃ (l5_0 : List (List (Int × (Int × Int)))) (v13_0 : Int) (Al5_0 : Option Addr) (ml5_0 cl5_0 : Nat), E 1 = .func (.func 25) #[] #[.pointer (some ⟨gf_1_0, 0, none⟩), .pointer (some ⟨gf_1_1, 0, none⟩), .pointer (some ⟨gf_1_2, 0, none⟩), .pointer (some ⟨gf_1_3, 0, none⟩)] ∧ E 4 = .slice none 0 0 ∧ E 5 = .slice Al5_0 ml5_0 cl5_0 ∧ E 11 = .slice Al_0 l_0.length cl_0 ∧ E 12 = .int .i64 (l_0.length : Int) ∧ E 13 = .int .i64 v13_0 ∧ I64 v13_0 ∧ Cx I O0 w wv [.box gf_1_0 5 [.int .u8 f_1_0_0], .box gf_1_1 45 [.int .i8 f_1_1_0], .box gf_1_2 45 [.int .i8 f_1_2_0], .box gf_1_3 45 [.int .i8 f_1_3_0], .own 43 (.sl (.pr (.int .i64) (.pr (.int .i64) (.int .i64)))) (.slice Al5_0 ml5_0 cl5_0) l5_0, .ro (.sl (.sl (.pr (.int .i64) (.pr (.int .i64) (.int .i64))))) [.slice Al_0 l_0.length cl_0] l_0] ∧ loopN m (F.law46_moved_law46_PolygonMoves_c1_b0 n l_0 f_1_0_0 f_1_1_0 f_1_2_0 f_1_3_0) (l5_0, v13_0) = some o11) n ⟨([] : List (List (Int × (Int × Int)))), 0, none, 0, 0, rfl, rfl, rfl, rfl, rfl, rfl, (show I64 0 from by unfold I64; omega), hC.sel [2, 3, 4, 5, 0, 1] (by decide), hl0⟩ ?_
    have hbK0 := hb
    clear hb hC hl0
    rintro m14 E16 w15 ⟨l5_0, v13_0, Al5_0, ml5_0, cl5_0, e1, e4, e5, e11, e12, e13, hrv13_0, hC, hl0⟩ K13 hK13
    obtain ⟨m14', o17, rfl, hb, hl0⟩ := loopN_some hl0
    unfold F.law46_moved_law46_PolygonMoves_c1_b0 at hb
    obtain ⟨rfl, hll5_0, hcl5_0⟩ := (hC.ow (i := 4) rfl).sl_len
    refine Wc.seq fun K18 hK18 => ?_
    refine Wc.region (by decide +kernel) ?_
    refine lex.pure (v := .bool (decide (v13_0 < (l_0.length : Int)))) (pu_lss (k := .i64) (a := v13_0) (b := (l_0.length : Int)) e13 e12) ?_
    refine lex.nil ?_
    refine hK18 _ _ ?_
    refine Wc.seq fun K19 hK19 => ?_
    refine Wc.cond (t := (decide (v13_0 < (l_0.length : Int)))) (rfl) (fun hq20 => ?_) (fun hq20 => ?_)
    · replace hb := (cT hq20).symm.trans hb
      refine Wc.skip ?_
      refine hK19 _ _ ?_
      refine Wc.seq fun K21 hK21 => ?_
      refine Wc.block ?_
      refine Wc.seq fun K22 hK22 => ?_
      refine Wc.region (by decide +kernel) ?_
      obtain ⟨x23, h24, hb⟩ := bd hb
      obtain ⟨ad25, cs26, hA, hc27, hr28⟩ := hC.elr (i := 5) rfl (get_some h24).2
      subst hA
      refine lex.pure (v := .pointer (some (ad25.add (v13_0.toNat * 1)))) (pu_index (a := v13_0) Try.underlying28 Try.sizeOf43 e11 e13 (get_some h24).1) ?_
      have hR := hr28
      obtain ⟨A29, c30, rfl, hl31, hc32, _⟩ := hr28
      replace hC := hC.ro hR
      clear hR
      refine lex.val (v := .slice A29 x23.length c30) (ld_one Try.isAgg43 rfl (hc27 0 _ rfl)) ?_
      refine lex.pure (v := .slice A29 x23.length c30) (pu_assign rfl) ?_
      refine lex.nil ?_
      refine hK22 _ _ ?_
      refine Wc.seq fun K34 hK34 => ?_
      refine Wc.region (by decide +kernel) ?_
      refine lex.pure (v := .slice none 0 0) (pu_assign rfl) ?_
      refine lex.nil ?_
      refine hK34 _ _ ?_
      refine Wc.seq fun K35 hK35 => ?_
      refine Wc.seq fun K36 hK36 => ?_
      refine Wc.region (by decide +kernel) ?_
      refine lex.pure (v := .slice A29 x23.length c30) (pu_move rfl) ?_
      refine lex.pure (v := .int .i64 (x23.length : Int)) (pu_len (A := A29) (n := x23.length) (m := c30) Try.underlying43 rfl) ?_
      refine lex.pure (v := .int .i64 0) (pu_move rfl) ?_
      refine lex.nil ?_
      refine hK36 _ _ ?_
      replace hC := hC.nil 23 (.pr (.int .i64) (.pr (.int .i64) (.int .i64)))
      obtain ⟨o38, hl1, hb⟩ := bd hb
      refine Wc.cut (fun E wv => ∃ (l8_1 : List (Int × (Int × Int))) (v19_1 : Int) (Al8_1 : Option Addr) (ml8_1 cl8_1 : Nat), E 1 = .func (.func 25) #[] #[.pointer (some ⟨gf_1_0, 0, none⟩), .pointer (some ⟨gf_1_1, 0, none⟩), .pointer (some ⟨gf_1_2, 0, none⟩), .pointer (some ⟨gf_1_3, 0, none⟩)] ∧ E 4 = .slice none 0 0 ∧ E 5 = .slice Al5_0 l5_0.length cl5_0 ∧ E 7 = .slice A29 x23.length c30 ∧ E 8 = .slice Al8_1 ml8_1 cl8_1 ∧ E 11 = .slice (some ad25) l_0.length cl_0 ∧ E 12 = .int .i64 (l_0.length : Int) ∧ E 13 = .int .i64 v13_0 ∧ E 14 = .bool (decide (v13_0 < (l_0.length : Int))) ∧ E 17 = .slice A29 x23.length c30 ∧ E 18 = .int .i64 (x23.length : Int) ∧ E 19 = .int .i64 v19_1 ∧ I64 v19_1 ∧ Cx I O0 w wv [.box gf_1_0 5 [.int .u8 f_1_0_0], .box gf_1_1 45 [.int .i8 f_1_1_0], .box gf_1_2 45 [.int .i8 f_1_2_0], .box gf_1_3 45 [.int .i8 f_1_3_0], .own 43 (.sl (.pr (.int .i64) (.pr (.int .i64) (.int .i64)))) (.slice Al5_0 l5_0.length cl5_0) l5_0, .ro (.sl (.pr (.int .i64) (.pr (.int .i64) (.int .i64)))) [.slice A29 x23.length c30] x23, .own 23 (.pr (.int .i64) (.pr (.int .i64) (.int .i64))) (.slice Al8_1 ml8_1 cl8_1) l8_1, .ro (.sl (.sl (.pr (.int .i64) (.pr (.int .i64) (.int .i64))))) [.slice (some ad25) l_0.length cl_0] l_0] ∧ ((lim (l5_0.length + ([l8_1] : List (List (Int × (Int × Int)))).length)).bind fun u97 => (chk (v13_0 + 1)).bind fun z104 => some (.inl ((l5_0 ++ ([l8_1] : List (List (Int × (Int × Int))))), z104)) : Option (((List (List (Int × (Int × Int)))) × Int) ⊕ (((List (List (Int × (Int × Int)))) × Int)))) = some o17) (fun K39 hK39 => ?_) ?_
      · refine Wc.block ?_
        refine Wc.loop (fun m E wv => ∃ (l8_1 : List (Int × (Int × Int))) (v19_1 : Int) (Al8_1 : Option Addr) (ml8_1 cl8_1 : Nat), E 1 = .func (.func 25) #[] #[.pointer (some ⟨gf_1_0, 0, none⟩), .pointer (some ⟨gf_1_1, 0, none⟩), .pointer (some ⟨gf_1_2, 0, none⟩), .pointer (some ⟨gf_1_3, 0, none⟩)] ∧ E 4 = .slice none 0 0 ∧ E 5 = .slice Al5_0 l5_0.length cl5_0 ∧ E 7 = .slice A29 x23.length c30 ∧ E 8 = .slice Al8_1 ml8_1 cl8_1 ∧ E 11 = .slice (some ad25) l_0.length cl_0 ∧ E 12 = .int .i64 (l_0.length : Int) ∧ E 13 = .int .i64 v13_0 ∧ E 14 = .bool (decide (v13_0 < (l_0.length : Int))) ∧ E 17 = .slice A29 x23.length c30 ∧ E 18 = .int .i64 (x23.length : Int) ∧ E 19 = .int .i64 v19_1 ∧ I64 v19_1 ∧ Cx I O0 w wv [.box gf_1_0 5 [.int .u8 f_1_0_0], .box gf_1_1 45 [.int .i8 f_1_1_0], .box gf_1_2 45 [.int .i8 f_1_2_0], .box gf_1_3 45 [.int .i8 f_1_3_0], .own 43 (.sl (.pr (.int .i64) (.pr (.int .i64) (.int .i64)))) (.slice Al5_0 l5_0.length cl5_0) l5_0, .ro (.sl (.pr (.int .i64) (.pr (.int .i64) (.int .i64)))) [.slice A29 x23.length c30] x23, .own 23 (.pr (.int .i64) (.pr (.int .i64) (.int .i64))) (.slice Al8_1 ml8_1 cl8_1) l8_1, .ro (.sl (.sl (.pr (.int .i64) (.pr (.int .i64) (.int .i64))))) [.slice (some ad25) l_0.length cl_0] l_0] ∧ loopN m (F.law46_moved_law46_PolygonMoves_c1_b1 n f_1_0_0 f_1_1_0 f_1_2_0 f_1_3_0 x23) (l8_1, v19_1) = some o38) n ⟨([] : List (Int × (Int × Int))), 0, none, 0, 0, e1, e4, e5, rfl, rfl, e11, e12, e13, rfl, rfl, rfl, rfl, (show I64 0 from by unfold I64; omega), hC.sel [2, 3, 4, 5, 6, 1, 0, 7] (by decide), hl1⟩ ?_
        have hbK1 := hb
        clear hb hC hl1
        rintro m41 E43 w42 ⟨l8_1, v19_1, Al8_1, ml8_1, cl8_1, e1, e4, e5, e7, e8, e11, e12, e13, e14, e17, e18, e19, hrv19_1, hC, hl1⟩ K40 hK40
        obtain ⟨m41', o44, rfl, hb, hl1⟩ := loopN_some hl1
        unfold F.law46_moved_law46_PolygonMoves_c1_b1 at hb
        obtain ⟨rfl, hll8_1, hcl8_1⟩ := (hC.ow (i := 6) rfl).sl_len
        refine Wc.seq fun K45 hK45 => ?_
        refine Wc.region (by decide +kernel) ?_
        refine lex.pure (v := .bool (decide (v19_1 < (x23.length : Int)))) (pu_lss (k := .i64) (a := v19_1) (b := (x23.length : Int)) e19 e18) ?_
        refine lex.nil ?_
        refine hK45 _ _ ?_
        refine Wc.seq fun K46 hK46 => ?_
        refine Wc.cond (t := (decide (v19_1 < (x23.length : Int)))) (rfl) (fun hq47 => ?_) (fun hq47 => ?_)
        · replace hb := (cT hq47).symm.trans hb
          refine Wc.skip ?_
          refine hK46 _ _ ?_
          refine Wc.seq fun K48 hK48 => ?_
          refine Wc.block ?_
          refine Wc.seq fun K49 hK49 => ?_
          refine Wc.region (by decide +kernel) ?_
          obtain ⟨x50, h51, hb⟩ := bd hb
          obtain ⟨ad52, cs53, hA, hc54, hr55⟩ := hC.elr (i := 5) rfl (get_some h51).2
          subst hA
          refine lex.pure (v := .pointer (some (ad52.add (v19_1.toNat * 3)))) (pu_index (a := v19_1) Try.underlying43 Try.sizeOf23 e17 e19 (get_some h51).1) ?_
          obtain ⟨k56, k57, rfl, hr58, hr59⟩ := hr55
          obtain ⟨rfl, hr58⟩ := hr58
          obtain ⟨k60, k61, rfl, hr62, hr63⟩ := hr59
          obtain ⟨rfl, hr62⟩ := hr62
          obtain ⟨rfl, hr63⟩ := hr63
          refine lex.val (v := .agg #[.int .i64 x50.1, .int .i64 x50.2.1, .int .i64 x50.2.2]) (ld_agg Try.isAgg23 Try.sizeOf23 rfl rfl hc54) ?_
          refine lex.op (hC.alloc (cs := [.int .i64 0, .int .i64 0, .int .i64 0]) Try.zeroValue23 rfl) ?_
          rintro _ w65 ⟨g64, rfl, hC, hF, hG⟩
          clear hG
          refine lex.sk (hC.seta (i := 0) (ds := [.int .i64 x50.1, .int .i64 x50.2.1, .int .i64 x50.2.2]) rfl Try.type23 rfl rfl rfl rfl rfl) ?_
          rintro w67 ⟨hC, hF⟩
          refine lex.nil ?_
          refine hK49 _ _ ?_
          refine Wc.region (by decide +kernel) ?_
          refine lex.pure (v := .slice Al8_1 l8_1.length cl8_1) (pu_move e8) ?_
          refine lex.pure (v := .func (.func 25) #[] #[.pointer (some ⟨gf_1_0, 0, none⟩), .pointer (some ⟨gf_1_1, 0, none⟩), .pointer (some ⟨gf_1_2, 0, none⟩), .pointer (some ⟨gf_1_3, 0, none⟩)]) (pu_move e1) ?_
          refine lex.val (v := .agg #[.int .i64 x50.1, .int .i64 x50.2.1, .int .i64 x50.2.2]) (ld_blk (hC.bx (i := 0) rfl) Try.isAgg23 Try.sizeOf23 rfl) ?_
          replace hC : Cx I O0 w w67 ([.box gf_1_0 5 [.int .u8 f_1_0_0], .box gf_1_1 45 [.int .i8 f_1_1_0], .box gf_1_2 45 [.int .i8 f_1_2_0], .box gf_1_3 45 [.int .i8 f_1_3_0]] ++ [.box g64 23 [.int .i64 x50.1, .int .i64 x50.2.1, .int .i64 x50.2.2], .own 43 (.sl (.pr (.int .i64) (.pr (.int .i64) (.int .i64)))) (.slice Al5_0 l5_0.length cl5_0) l5_0, .ro (.sl (.pr (.int .i64) (.pr (.int .i64) (.int .i64)))) [.slice (some ad52) x23.length c30] x23, .own 23 (.pr (.int .i64) (.pr (.int .i64) (.int .i64))) (.slice Al8_1 l8_1.length cl8_1) l8_1, .ro (.sl (.sl (.pr (.int .i64) (.pr (.int .i64) (.int .i64))))) [.slice (some ad25) l_0.length cl_0] l_0]) := hC.sel [1, 2, 3, 4, 0, 5, 6, 7, 8] (by decide)
          obtain ⟨y68, h69, hb⟩ := bd hb
          refine lex.cl (⟨_, _, op_callv (vs := [.agg #[.int .i64 x50.1, .int .i64 x50.2.1, .int .i64 x50.2.2], .pointer (some ⟨gf_1_0, 0, none⟩), .pointer (some ⟨gf_1_1, 0, none⟩), .pointer (some ⟨gf_1_2, 0, none⟩), .pointer (some ⟨gf_1_3, 0, none⟩)]) (ca := #[.pointer (some ⟨gf_1_0, 0, none⟩), .pointer (some ⟨gf_1_1, 0, none⟩), .pointer (some ⟨gf_1_2, 0, none⟩), .pointer (some ⟨gf_1_3, 0, none⟩)]) Try.call25 rfl rfl rfl, law46_PolygonMoves_c1_ok n hC.lt (wrap_I64 hr58) (wrap_I64 hr62) (wrap_I64 hr63) hf_1_0_0 hf_1_1_0 hf_1_2_0 hf_1_3_0 hC.give h69⟩) ?_
          rintro _ w73 ⟨rfl, hr70, hr71, hr72, hK⟩
          replace hC := hC.back hK
          clear hK
          refine lex.op (hC.lit (s := (.pr (.int .i64) (.pr (.int .i64) (.int .i64)))) (vs := [.agg #[.int .i64 y68.1, .int .i64 y68.2.1, .int .i64 y68.2.2]]) (xs := [(y68.1, (y68.2.1, y68.2.2))]) Try.underlying43 Try.type23 rfl rfl (Nat.le_of_ble_eq_true rfl) rfl rfl (by simp [Value.cells, Sh.n]) rfl (show Elems _ _ (.pr (.int .i64) (.pr (.int .i64) (.int .i64))) ([.int .i64 y68.1, .int .i64 y68.2.1, .int .i64 y68.2.2] ++ ([])) ([(y68.1, (y68.2.1, y68.2.2))] : List (Int × (Int × Int))) from Elems.cons (⟨[.int .i64 y68.1], [.int .i64 y68.2.1, .int .i64 y68.2.2], rfl, ⟨rfl, I64.wr hr70⟩, ⟨[.int .i64 y68.2.1], [.int .i64 y68.2.2], rfl, ⟨rfl, I64.wr hr71⟩, ⟨rfl, I64.wr hr72⟩⟩⟩) (Elems.nil _ _ _))) ?_
          rintro _ w78 ⟨A74, c75, rfl, hl76, hc77, hC, hF, hN⟩
          clear hF hN
          obtain ⟨u80, h81, hb⟩ := bd hb
          refine lex.op (hC.app (i := 8) (s := (.pr (.int .i64) (.pr (.int .i64) (.int .i64)))) (xs := l8_1) (ys := ([(y68.1, (y68.2.1, y68.2.2))] : List (Int × (Int × Int)))) (m := ((([(y68.1, (y68.2.1, y68.2.2))] : List (Int × (Int × Int)))).length)) rfl Try.underlying43 Try.underlying43 Try.type23 rfl rfl rfl (hC.srco (i := 0) rfl) rfl rfl (by have := lim_some h81; simp at this ⊢ <;> omega) (by decide)) ?_
          rintro _ w86 ⟨A82, c83, rfl, hl84, hc85, hC, hF, hN⟩
          clear hF hN
          refine lex.pure (v := .slice A82 ((l8_1 ++ ([(y68.1, (y68.2.1, y68.2.2))] : List (Int × (Int × Int)))).length) c83) (pu_assign rfl) ?_
          refine lex.nil ?_
          refine hK48 _ _ ?_
          refine Wc.region (by decide +kernel) ?_
          obtain ⟨z87, h88, hb⟩ := bd hb
          refine lex.pure (v := .int .i64 z87) (pu_addc (a := v19_1) (b := 1) e19 rfl h88) ?_
          refine lex.pure (v := .int .i64 z87) (pu_move rfl) ?_
          refine lex.nil ?_
          obtain rfl := Option.some.inj hb
          exact hK40 m41' _ _ (Nat.lt_succ_self _) ⟨(l8_1 ++ ([(y68.1, (y68.2.1, y68.2.2))] : List (Int × (Int × Int)))), z87, A82, (l8_1 ++ ([(y68.1, (y68.2.1, y68.2.2))] : List (Int × (Int × Int)))).length, c83, e1, e4, e5, e7, rfl, e11, e12, e13, e14, e17, e18, rfl, (chk_rng h88), hC.sel [1, 2, 3, 4, 6, 7, 8, 9] (by decide), lN hl1⟩
        · replace hb := (cF hq47).symm.trans hb
          refine Wc.exit rfl ?_
          obtain rfl := Option.some.inj hb
          obtain rfl := (lX hl1).symm
          exact hK39 _ _ ⟨l8_1, v19_1, Al8_1, l8_1.length, cl8_1, e1, e4, e5, e7, e8, e11, e12, e13, e14, e17, e18, e19, hrv19_1, hC.sel [0, 1, 2, 3, 4, 5, 6, 7] (by decide), hbK1⟩
      · clear hb hC hl1
        rintro E90 w89 ⟨l8_1, v19_1, Al8_1, ml8_1, cl8_1, e1, e4, e5, e7, e8, e11, e12, e13, e14, e17, e18, e19, hrv19_1, hC, hb⟩
        obtain ⟨rfl, hll8_1, hcl8_1⟩ := (hC.ow (i := 6) rfl).sl_len
        refine hK35 _ _ ?_
        refine Wc.region (by decide +kernel) ?_
        refine lex.pure (v := .slice Al5_0 l5_0.length cl5_0) (pu_move e5) ?_
        refine lex.pure (v := .slice Al8_1 l8_1.length cl8_1) (pu_move e8) ?_
        replace hC := hC.freeze (i := 6) rfl (hC.own_newI hI (i := 6) rfl (List.forall_mem_cons.2 ⟨fun g hg => ⟨0, _, rfl, by decide, hg⟩, List.forall_mem_cons.2 ⟨fun g hg => ⟨1, _, rfl, by decide, hg⟩, List.forall_mem_cons.2 ⟨fun g hg => ⟨2, _, rfl, by decide, hg⟩, List.forall_mem_cons.2 ⟨fun g hg => ⟨3, _, rfl, by decide, hg⟩, fun _ h => absurd h List.not_mem_nil⟩⟩⟩⟩))
        refine lex.op (hC.lit (s := (.sl (.pr (.int .i64) (.pr (.int .i64) (.int .i64))))) (vs := [.slice Al8_1 l8_1.length cl8_1]) (xs := [l8_1]) Try.underlying28 Try.type43 rfl rfl (Nat.le_of_ble_eq_true rfl) rfl rfl (by simp [Value.cells, Sh.n]) rfl (show Elems _ _ (.sl (.pr (.int .i64) (.pr (.int .i64) (.int .i64)))) ([.slice Al8_1 l8_1.length cl8_1] ++ ([])) ([l8_1] : List (List (Int × (Int × Int)))) from Elems.cons (hC.rd (i := 6) rfl) (Elems.nil _ _ _))) ?_
        rintro _ w95 ⟨A91, c92, rfl, hl93, hc94, hC, hF, hN⟩
        clear hF hN
        obtain ⟨u97, h98, hb⟩ := bd hb
        refine lex.op (hC.app (i := 5) (s := (.sl (.pr (.int .i64) (.pr (.int .i64) (.int .i64))))) (xs := l5_0) (ys := ([l8_1] : List (List (Int × (Int × Int))))) (m := ((([l8_1] : List (List (Int × (Int × Int))))).length)) rfl Try.underlying28 Try.underlying28 Try.type43 rfl rfl rfl (hC.srco (i := 0) rfl) rfl rfl (by have := lim_some h98; simp at this ⊢ <;> omega) (by decide)) ?_
        rintro _ w103 ⟨A99, c100, rfl, hl101, hc102, hC, hF, hN⟩
        clear hF hN
        refine lex.pure (v := .slice A99 ((l5_0 ++ ([l8_1] : List (List (Int × (Int × Int))))).length) c100) (pu_assign rfl) ?_
        refine lex.nil ?_
        refine hK21 _ _ ?_
        refine Wc.region (by decide +kernel) ?_
        obtain ⟨z104, h105, hb⟩ := bd hb
        refine lex.pure (v := .int .i64 z104) (pu_addc (a := v13_0) (b := 1) e13 rfl h105) ?_
        refine lex.pure (v := .int .i64 z104) (pu_move rfl) ?_
        refine lex.nil ?_
        obtain rfl := Option.some.inj hb
        exact hK13 m14' _ _ (Nat.lt_succ_self _) ⟨(l5_0 ++ ([l8_1] : List (List (Int × (Int × Int))))), z104, A99, (l5_0 ++ ([l8_1] : List (List (Int × (Int × Int))))).length, c100, e1, e4, rfl, e11, e12, rfl, (chk_rng h105), hC.sel [1, 2, 3, 4, 5, 8] (by decide), lN hl0⟩
    · replace hb := (cF hq20).symm.trans hb
      refine Wc.exit rfl ?_
      obtain rfl := Option.some.inj hb
      obtain rfl := (lX hl0).symm
      exact hK12 _ _ ⟨l5_0, v13_0, Al5_0, l5_0.length, cl5_0, e4, e5, hrv13_0, hC.sel [4, 0, 1, 2, 3] (by decide), hbK0⟩
  · clear hb hC hl0
    rintro E107 w106 ⟨l5_0, v13_0, Al5_0, ml5_0, cl5_0, e4, e5, hrv13_0, hC, hb⟩
    obtain ⟨rfl, hll5_0, hcl5_0⟩ := (hC.ow (i := 0) rfl).sl_len
    refine hK8 _ _ ?_
    refine Wc.seq fun K108 hK108 => ?_
    refine Wc.region (by decide +kernel) ?_
    refine lex.pure (v := .slice Al5_0 l5_0.length cl5_0) (pu_move e5) ?_
    refine lex.pure (v := .slice Al5_0 l5_0.length cl5_0) (pu_assign rfl) ?_
    refine lex.nil ?_
    refine hK108 _ _ ?_
    obtain rfl := Option.some.inj hb
    subst hI
    refine Wc.ret ?_
    refine hKR _ _ ?_
    refine ⟨_, res1 Try.results24 (show RV _ _ _ (.tmp _) (.slice Al5_0 l5_0.length cl5_0) from rfl), _, rfl, Al5_0, l5_0.length, cl5_0, rfl, hC.sel [0, 1, 2, 3, 4] (by decide)⟩

set_option maxRecDepth 100000 in
set_option maxHeartbeats 4000000 in
theorem slices_Equal_Lint_int_ok (n : Nat) {w : World} {O0 : List Nat} (hO : ∀ k ∈ O0, k < w.heap.size) {As1_0 : Option Addr} {ms1_0 cs1_0 : Nat} {s1_0 : List Int} (hs1_0 : Rep O0 w (.sl (.int .i64)) [.slice As1_0 ms1_0 cs1_0] s1_0) {As2_1 : Option Addr} {ms2_1 cs2_1 : Nat} {s2_1 : List Int} (hs2_1 : Rep O0 w (.sl (.int .i64)) [.slice As2_1 ms2_1 cs2_1] s2_1) {r : Bool} (hb : F.slices_Equal_Lint_int n s1_0 s2_1 = some r) :
    Calls Try.prog 64 #[.slice As1_0 ms1_0 cs1_0, .slice As2_1 ms2_1 cs2_1] w fun e w' => ∃ v, e = .returned v ∧ v = .bool r ∧ Cx (fun _ => False) O0 w w' [] := by
  unfold F.slices_Equal_Lint_int at hb
  have hC := Cx.start hO
  replace hC := hC.arg rfl hs1_0
  replace hC := hC.arg rfl hs2_1
  clear hO
  obtain ⟨rfl, hls1_0, hcs1_0⟩ := hs1_0.sl_len
  obtain ⟨rfl, hls2_1, hcs2_1⟩ := hs2_1.sl_len
  refine calls_of_Wc Try.func64 rfl (by rw [Try.ntmps64]; exact Nat.le_of_ble_eq_true rfl) fun KR hKR => ?_
  refine Wc.seq fun K3 hK3 => ?_
  refine Wc.region (by decide +kernel) ?_
  refine lex.pure (v := .bool false) (pu_assign rfl) ?_
  refine lex.nil ?_
  refine hK3 _ _ ?_
  refine Wc.seq fun K4 hK4 => ?_
  refine Wc.seq fun K5 hK5 => ?_
  refine Wc.region (by decide +kernel) ?_
  refine lex.pure (v := .slice As1_0 s1_0.length cs1_0) (pu_move rfl) ?_
  refine lex.pure (v := .int .i64 (s1_0.length : Int)) (pu_len (A := As1_0) (n := s1_0.length) (m := cs1_0) Try.underlying30 rfl) ?_
  refine lex.pure (v := .slice As2_1 s2_1.length cs2_1) (pu_move rfl) ?_
  refine lex.pure (v := .int .i64 (s2_1.length : Int)) (pu_len (A := As2_1) (n := s2_1.length) (m := cs2_1) Try.underlying30 rfl) ?_
  refine lex.pure (v := .bool (!(decide ((s1_0.length : Int) = (s2_1.length : Int))))) (pu_neq (k := .i64) (a := (s1_0.length : Int)) (b := (s2_1.length : Int)) rfl rfl) ?_
  refine lex.nil ?_
  refine hK5 _ _ ?_
  refine Wc.cond (t := (!(decide ((s1_0.length : Int) = (s2_1.length : Int))))) (rfl) (fun hq6 => ?_) (fun hq6 => ?_)
  · replace hb := (cT hq6).symm.trans hb
    refine Wc.seq fun K7 hK7 => ?_
    refine Wc.region (by decide +kernel) ?_
    refine lex.pure (v := .bool false) (pu_assign rfl) ?_
    refine lex.nil ?_
    refine hK7 _ _ ?_
    obtain rfl := Option.some.inj hb
    refine Wc.ret ?_
    refine hKR _ _ ?_
    refine ⟨_, res1 Try.results64 (show RV _ _ _ (.tmp _) (.bool false) from rfl), _, rfl, rfl, hC.sel [] (by decide)⟩
  · replace hb := (cF hq6).symm.trans hb
    refine Wc.skip ?_
    refine hK4 _ _ ?_
    refine Wc.seq fun K8 hK8 => ?_
    refine Wc.seq fun K9 hK9 => ?_
    refine Wc.region (by decide +kernel) ?_
    refine lex.pure (v := .slice As1_0 s1_0.length cs1_0) (pu_move rfl) ?_
    refine lex.pure (v := .int .i64 (s1_0.length : Int)) (pu_len (A := As1_0) (n := s1_0.length) (m := cs1_0) Try.underlying30 rfl) ?_
    refine lex.pure (v := .int .i64 0) (pu_move rfl) ?_
    refine lex.nil ?_
    refine hK9 _ _ ?_
    obtain ⟨o10, hl0, hb⟩ := bd hb
    refine Wc.cut (fun E wv => ∃ (v13_0 : Int), E 4 = .bool false ∧ I64 v13_0 ∧ Cx (fun _ => False) O0 w wv [] ∧ (some true : Option (Bool)) = some r) (fun K11 hK11 => ?_) ?_
    · refine Wc.block ?_
      refine Wc.loop (fun m E wv => ∃ (v13_0 : Int), E 0 = .slice As1_0 s1_0.length cs1_0 ∧ E 1 = .slice As2_1 s2_1.length cs2_1 ∧ E 4 = .bool false ∧ E 12 = .int .i64 (s1_0.length : Int) ∧ E 13 = .int .i64 v13_0 ∧ I64 v13_0 ∧ Cx (fun _ => False) O0 w wv [.ro (.sl (.int .i64)) [.slice As1_0 s1_0.length cs1_0] s1_0, .ro (.sl (.int .i64)) [.slice As2_1 s2_1.length cs2_1] s2_1] ∧ loopN m (F.slices_Equal_Lint_int_b0 n s1_0 s2_1) v13_0 = some o10) n ⟨0, rfl, rfl, rfl, rfl, rfl, (show I64 0 from by unfold I64; omega), hC.sel [1, 0] (by decide), hl0⟩ ?_
      have hbK0 := hb
      clear hb hC hl0
      rintro m13 E15 w14 ⟨v13_0, e0, e1, e4, e12, e13, hrv13_0, hC, hl0⟩ K12 hK12
      obtain ⟨m13', o16, rfl, hb, hl0⟩ := loopN_some hl0
      unfold F.slices_Equal_Lint_int_b0 at hb
      refine Wc.seq fun K17 hK17 => ?_
      refine Wc.region (by decide +kernel) ?_
      refine lex.pure (v := .bool (decide (v13_0 < (s1_0.length : Int)))) (pu_lss (k := .i64) (a := v13_0) (b := (s1_0.length : Int)) e13 e12) ?_
      refine lex.nil ?_
      refine hK17 _ _ ?_
      refine Wc.seq fun K18 hK18 => ?_
      refine Wc.cond (t := (decide (v13_0 < (s1_0.length : Int)))) (rfl) (fun hq19 => ?_) (fun hq19 => ?_)
      · replace hb := (cT hq19).symm.trans hb
        refine Wc.skip ?_
        refine hK18 _ _ ?_
        refine Wc.seq fun K20 hK20 => ?_
        refine Wc.block ?_
        refine Wc.seq fun K21 hK21 => ?_
        refine Wc.region (by decide +kernel) ?_
        refine lex.pure (v := .int .i64 v13_0) (pu_move e13) ?_
        refine lex.pure (v := .int .i64 v13_0) (pu_assign rfl) ?_
        refine lex.nil ?_
        refine hK21 _ _ ?_
        refine Wc.seq fun K22 hK22 => ?_
        refine Wc.regionMix [] (frm [] ([] : List Fact) ([] : List Fact)) (fun _ => rfl) mixed (by decide +kernel) (by decide +kernel) fun w24 hw23 => ?_
        replace hC := hC.step (Fr.of_drew hw23)
        have hM := Fr.refl (fun k => k ∈ blocks ([] : List Fact)) w24
        clear hw23
        have hS := hC
        refine mixE.pure (v := .slice As1_0 s1_0.length cs1_0) (pu_move e0) ?_
        refine mixE.pure (v := .int .i64 v13_0) (pu_move rfl) ?_
        obtain ⟨x25, h26, hb⟩ := bd hb
        obtain ⟨ad27, cs28, hA, ho31, hc29, hr30⟩ := hS.elr2 (i := 0) rfl (get_some h26).2 []
        subst hA
        refine mixE.pure (v := .pointer (some (ad27.add (v13_0.toNat * 1)))) (pu_index (a := v13_0) Try.underlying30 Try.sizeOf3 rfl rfl (get_some h26).1) ?_
        obtain ⟨rfl, hr30'⟩ := hr30
        refine mixE.load hM (v := .int .i64 x25) (fun _ hF => ld_one Try.isAgg3 rfl (hF.cell (hc29 0 _ rfl) (off1 ho31))) ?_
        refine mixE.pure (v := .slice As2_1 s2_1.length cs2_1) (pu_move e1) ?_
        refine mixE.pure (v := .int .i64 v13_0) (pu_move rfl) ?_
        obtain ⟨x32, h33, hb⟩ := bd hb
        obtain ⟨ad34, cs35, hA, ho38, hc36, hr37⟩ := hS.elr2 (i := 1) rfl (get_some h33).2 []
        subst hA
        refine mixE.pure (v := .pointer (some (ad34.add (v13_0.toNat * 1)))) (pu_index (a := v13_0) Try.underlying30 Try.sizeOf3 rfl rfl (get_some h33).1) ?_
        obtain ⟨rfl, hr37'⟩ := hr37
        refine mixE.load hM (v := .int .i64 x32) (fun _ hF => ld_one Try.isAgg3 rfl (hF.cell (hc36 0 _ rfl) (off1 ho38))) ?_
        refine mixE.pure (v := .bool (!(decide (x25 = x32)))) (pu_neq (k := .i64) (a := x25) (b := x32) rfl rfl) ?_
        refine mixE.nil ?_
        clear hS hM
        refine hK22 _ _ ?_
        refine Wc.cond (t := (!(decide (x25 = x32)))) (rfl) (fun hq39 => ?_) (fun hq39 => ?_)
        · replace hb := (cT hq39).symm.trans hb
          refine Wc.seq fun K40 hK40 => ?_
          refine Wc.region (by decide +kernel) ?_
          refine lex.pure (v := .bool false) (pu_assign rfl) ?_
          refine lex.nil ?_
          refine hK40 _ _ ?_
          obtain rfl := Option.some.inj hb
          obtain rfl := (lX hl0).symm
          replace hb := hbK0
          obtain rfl := Option.some.inj hb
          refine Wc.ret ?_
          refine hKR _ _ ?_
          refine ⟨_, res1 Try.results64 (show RV _ _ _ (.tmp _) (.bool false) from rfl), _, rfl, rfl, hC.sel [] (by decide)⟩
        · replace hb := (cF hq39).symm.trans hb
          refine Wc.skip ?_
          refine hK20 _ _ ?_
          refine Wc.region (by decide +kernel) ?_
          obtain ⟨z41, h42, hb⟩ := bd hb
          refine lex.pure (v := .int .i64 z41) (pu_addc (a := v13_0) (b := 1) e13 rfl h42) ?_
          refine lex.pure (v := .int .i64 z41) (pu_move rfl) ?_
          refine lex.nil ?_
          obtain rfl := Option.some.inj hb
          exact hK12 m13' _ _ (Nat.lt_succ_self _) ⟨z41, e0, e1, e4, e12, rfl, (chk_rng h42), hC.sel [0, 1] (by decide), lN hl0⟩
      · replace hb := (cF hq19).symm.trans hb
        refine Wc.exit rfl ?_
        obtain rfl := Option.some.inj hb
        obtain rfl := (lX hl0).symm
        exact hK11 _ _ ⟨v13_0, e4, hrv13_0, hC.sel [] (by decide), hbK0⟩
    · clear hb hC hl0
      rintro E44 w43 ⟨v13_0, e4, hrv13_0, hC, hb⟩
      refine hK8 _ _ ?_
      refine Wc.seq fun K45 hK45 => ?_
      refine Wc.region (by decide +kernel) ?_
      refine lex.pure (v := .bool true) (pu_assign rfl) ?_
      refine lex.nil ?_
      refine hK45 _ _ ?_
      obtain rfl := Option.some.inj hb
      refine Wc.ret ?_
      refine hKR _ _ ?_
      refine ⟨_, res1 Try.results64 (show RV _ _ _ (.tmp _) (.bool true) from rfl), _, rfl, rfl, hC.sel [] (by decide)⟩

set_option maxRecDepth 100000 in
set_option maxHeartbeats 4000000 in
theorem diagram_Equal_ok (n : Nat) {w : World} {O0 : List Nat} (hO : ∀ k ∈ O0, k < w.heap.size) {Aa_0_0 : Option Addr} {ma_0_0 ca_0_0 : Nat} {a_0_0 : List Int} (ha_0_0 : Rep O0 w (.sl (.int .i64)) [.slice Aa_0_0 ma_0_0 ca_0_0] a_0_0) {Aa_0_1 : Option Addr} {ma_0_1 ca_0_1 : Nat} {a_0_1 : List Int} (ha_0_1 : Rep O0 w (.sl (.int .i64)) [.slice Aa_0_1 ma_0_1 ca_0_1] a_0_1) {a_0_2 : Int} (ha_0_2 : I64 a_0_2) {Ab_1_0 : Option Addr} {mb_1_0 cb_1_0 : Nat} {b_1_0 : List Int} (hb_1_0 : Rep O0 w (.sl (.int .i64)) [.slice Ab_1_0 mb_1_0 cb_1_0] b_1_0) {Ab_1_1 : Option Addr} {mb_1_1 cb_1_1 : Nat} {b_1_1 : List Int} (hb_1_1 : Rep O0 w (.sl (.int .i64)) [.slice Ab_1_1 mb_1_1 cb_1_1] b_1_1) {b_1_2 : Int} (hb_1_2 : I64 b_1_2) {r : Bool} (hb : F.diagram_Equal n a_0_0 a_0_1 a_0_2 b_1_0 b_1_1 b_1_2 = some r) :
    Calls Try.prog 26 #[.agg #[.slice Aa_0_0 ma_0_0 ca_0_0, .slice Aa_0_1 ma_0_1 ca_0_1, .int .i64 a_0_2], .agg #[.slice Ab_1_0 mb_1_0 cb_1_0, .slice Ab_1_1 mb_1_1 cb_1_1, .int .i64 b_1_2]] w fun e w' => ∃ v, e = .returned v ∧ v = .bool r ∧ Cx (fun _ => False) O0 w w' [] := by
  unfold F.diagram_Equal at hb
  have hC := Cx.start hO
  replace hC := hC.arg rfl ha_0_0
  replace hC := hC.arg rfl ha_0_1
  replace hC := hC.arg rfl hb_1_0
  replace hC := hC.arg rfl hb_1_1
  clear hO
  obtain ⟨rfl, hla_0_0, hca_0_0⟩ := ha_0_0.sl_len
  obtain ⟨rfl, hla_0_1, hca_0_1⟩ := ha_0_1.sl_len
  obtain ⟨rfl, hlb_1_0, hcb_1_0⟩ := hb_1_0.sl_len
  obtain ⟨rfl, hlb_1_1, hcb_1_1⟩ := hb_1_1.sl_len
  refine calls_of_Wc Try.func26 rfl (by rw [Try.ntmps26]; exact Nat.le_of_ble_eq_true rfl) fun KR hKR => ?_
  refine Wc.seq fun K5 hK5 => ?_
  refine Wc.region (by decide +kernel) ?_
  refine lex.op (hC.box (cs := [.slice Aa_0_0 a_0_0.length ca_0_0, .slice Aa_0_1 a_0_1.length ca_0_1, .int .i64 a_0_2]) rfl rfl) ?_
  rintro _ w7 ⟨g6, rfl, hC, hF, hG⟩
  clear hG
  refine lex.op (hC.box (cs := [.slice Ab_1_0 b_1_0.length cb_1_0, .slice Ab_1_1 b_1_1.length cb_1_1, .int .i64 b_1_2]) rfl rfl) ?_
  rintro _ w10 ⟨g9, rfl, hC, hF, hG⟩
  clear hG
  refine lex.pure (v := .bool false) (pu_assign rfl) ?_
  refine lex.nil ?_
  refine hK5 _ _ ?_
  refine Wc.seq fun K12 hK12 => ?_
  refine Wc.region (by decide +kernel) ?_
  refine lex.pure (v := .pointer (some ((⟨g6, 0, none⟩ : Addr).add 0))) (pu_field (sz := 1) Try.underlying32 rfl Try.sizeOf30 (by decide) rfl rfl) ?_
  refine lex.val (v := .slice Aa_0_0 a_0_0.length ca_0_0) (ld_fld (hC.bx (i := 1) rfl) Try.isAgg30 rfl rfl) ?_
  refine lex.pure (v := .pointer (some ((⟨g9, 0, none⟩ : Addr).add 0))) (pu_field (sz := 1) Try.underlying32 rfl Try.sizeOf30 (by decide) rfl rfl) ?_
  refine lex.val (v := .slice Ab_1_0 b_1_0.length cb_1_0) (ld_fld (hC.bx (i := 0) rfl) Try.isAgg30 rfl rfl) ?_
  obtain ⟨y13, h14, hb⟩ := bd hb
  refine lex.cl (⟨_, _, op_call (vs := [.slice Aa_0_0 a_0_0.length ca_0_0, .slice Ab_1_0 b_1_0.length cb_1_0]) Try.call64 rfl rfl rfl, slices_Equal_Lint_int_ok n hC.lt (hC.rd (i := 5) rfl) (hC.rd (i := 3) rfl) h14⟩) ?_
  rintro _ w15 ⟨rfl, hK⟩
  replace hC := hC.merge hK
  clear hK
  refine lex.pure (v := .bool y13) (pu_move rfl) ?_
  rcases bS y13 with hq16 | hq16
  · replace hb := (cT hq16).symm.trans hb
    refine lex.gpure (want_t rfl rfl (show _ = Value.bool y13 from rfl) hq16) (v := .pointer (some ((⟨g6, 0, none⟩ : Addr).add 1))) (pu_field (sz := 1) Try.underlying32 rfl Try.sizeOf30 (by decide) rfl rfl) ?_
    refine lex.gval (want_t rfl rfl (show _ = Value.bool y13 from rfl) hq16) (v := .slice Aa_0_1 a_0_1.length ca_0_1) (ld_fld (hC.bx (i := 1) rfl) Try.isAgg30 rfl rfl) ?_
    refine lex.gpure (want_t rfl rfl (show _ = Value.bool y13 from rfl) hq16) (v := .pointer (some ((⟨g9, 0, none⟩ : Addr).add 1))) (pu_field (sz := 1) Try.underlying32 rfl Try.sizeOf30 (by decide) rfl rfl) ?_
    refine lex.gval (want_t rfl rfl (show _ = Value.bool y13 from rfl) hq16) (v := .slice Ab_1_1 b_1_1.length cb_1_1) (ld_fld (hC.bx (i := 0) rfl) Try.isAgg30 rfl rfl) ?_
    obtain ⟨y17, h18, hb⟩ := bd hb
    refine lex.gcl (want_t rfl rfl (show _ = Value.bool y13 from rfl) hq16) (⟨_, _, op_call (vs := [.slice Aa_0_1 a_0_1.length ca_0_1, .slice Ab_1_1 b_1_1.length cb_1_1]) Try.call64 rfl rfl rfl, slices_Equal_Lint_int_ok n hC.lt (hC.rd (i := 4) rfl) (hC.rd (i := 2) rfl) h18⟩) ?_
    rintro _ w19 ⟨rfl, hK⟩
    replace hC := hC.merge hK
    clear hK
    refine lex.pure (v := .bool y17) (pu_pickT (q := y13) rfl hq16 rfl) ?_
    refine lex.pure (v := .bool y17) (pu_move rfl) ?_
    rcases bS y17 with hq20 | hq20
    · replace hb := (cT hq20).symm.trans hb
      refine lex.gpure (want_t rfl rfl (show _ = Value.bool y17 from rfl) hq20) (v := .pointer (some ((⟨g6, 0, none⟩ : Addr).add 2))) (pu_field (sz := 1) Try.underlying32 rfl Try.sizeOf3 (by decide) rfl rfl) ?_
      refine lex.gval (want_t rfl rfl (show _ = Value.bool y17 from rfl) hq20) (v := .int .i64 a_0_2) (ld_fld (hC.bx (i := 1) rfl) Try.isAgg3 rfl rfl) ?_
      refine lex.gpure (want_t rfl rfl (show _ = Value.bool y17 from rfl) hq20) (v := .pointer (some ((⟨g9, 0, none⟩ : Addr).add 2))) (pu_field (sz := 1) Try.underlying32 rfl Try.sizeOf3 (by decide) rfl rfl) ?_
      refine lex.gval (want_t rfl rfl (show _ = Value.bool y17 from rfl) hq20) (v := .int .i64 b_1_2) (ld_fld (hC.bx (i := 0) rfl) Try.isAgg3 rfl rfl) ?_
      refine lex.gpure (want_t rfl rfl (show _ = Value.bool y17 from rfl) hq20) (v := .bool (decide (a_0_2 = b_1_2))) (pu_eql (k := .i64) (a := a_0_2) (b := b_1_2) rfl rfl) ?_
      refine lex.pure (v := .bool (decide (a_0_2 = b_1_2))) (pu_pickT (q := y17) rfl hq20 rfl) ?_
      refine lex.pure (v := .bool (decide (a_0_2 = b_1_2))) (pu_assign rfl) ?_
      refine lex.nil ?_
      refine hK12 _ _ ?_
      obtain rfl := Option.some.inj hb
      refine Wc.ret ?_
      refine hKR _ _ ?_
      refine ⟨_, res1 Try.results26 (show RV _ _ _ (.tmp _) (.bool (decide (a_0_2 = b_1_2))) from rfl), _, rfl, rfl, hC.sel [] (by decide)⟩
    · replace hb := (cF hq20).symm.trans hb
      refine lex.gskip (want_f rfl rfl (show _ = Value.bool y17 from rfl) hq20) ?_
      refine lex.gskip (want_f rfl rfl (show _ = Value.bool y17 from rfl) hq20) ?_
      refine lex.gskip (want_f rfl rfl (show _ = Value.bool y17 from rfl) hq20) ?_
      refine lex.gskip (want_f rfl rfl (show _ = Value.bool y17 from rfl) hq20) ?_
      refine lex.gskip (want_f rfl rfl (show _ = Value.bool y17 from rfl) hq20) ?_
      refine lex.pure (v := .bool false) (pu_pickF (q := y17) rfl hq20 rfl) ?_
      refine lex.pure (v := .bool false) (pu_assign rfl) ?_
      refine lex.nil ?_
      refine hK12 _ _ ?_
      obtain rfl := Option.some.inj hb
      refine Wc.ret ?_
      refine hKR _ _ ?_
      refine ⟨_, res1 Try.results26 (show RV _ _ _ (.tmp _) (.bool false) from rfl), _, rfl, rfl, hC.sel [] (by decide)⟩
  · replace hb := (cF hq16).symm.trans hb
    refine lex.gskip (want_f rfl rfl (show _ = Value.bool y13 from rfl) hq16) ?_
    refine lex.gskip (want_f rfl rfl (show _ = Value.bool y13 from rfl) hq16) ?_
    refine lex.gskip (want_f rfl rfl (show _ = Value.bool y13 from rfl) hq16) ?_
    refine lex.gskip (want_f rfl rfl (show _ = Value.bool y13 from rfl) hq16) ?_
    refine lex.gskip (want_f rfl rfl (show _ = Value.bool y13 from rfl) hq16) ?_
    refine lex.pure (v := .bool false) (pu_pickF (q := y13) rfl hq16 rfl) ?_
    refine lex.pure (v := .bool false) (pu_move rfl) ?_
    refine lex.gskip (want_f rfl rfl (show _ = Value.bool false from rfl) rfl) ?_
    refine lex.gskip (want_f rfl rfl (show _ = Value.bool false from rfl) rfl) ?_
    refine lex.gskip (want_f rfl rfl (show _ = Value.bool false from rfl) rfl) ?_
    refine lex.gskip (want_f rfl rfl (show _ = Value.bool false from rfl) rfl) ?_
    refine lex.gskip (want_f rfl rfl (show _ = Value.bool false from rfl) rfl) ?_
    refine lex.pure (v := .bool false) (pu_pickF (q := false) rfl rfl rfl) ?_
    refine lex.pure (v := .bool false) (pu_assign rfl) ?_
    refine lex.nil ?_
    refine hK12 _ _ ?_
    obtain rfl := Option.some.inj hb
    refine Wc.ret ?_
    refine hKR _ _ ?_
    refine ⟨_, res1 Try.results26 (show RV _ _ _ (.tmp _) (.bool false) from rfl), _, rfl, rfl, hC.sel [] (by decide)⟩
end Go.Proofs.Yteajmbanlohncaa
