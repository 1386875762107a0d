/- The walks: part 10. -/
import Derived.Test.YteajmbanlohncaaS
import Derived.Test.YteajmbanlohncaaG6
set_option linter.unusedVariables false
set_option linter.unusedSimpArgs false
namespace Go.Proofs.Yteajmbanlohncaa
open Ev
set_option maxRecDepth 100000 in
set_option maxHeartbeats 4000000 in
theorem law46_few_ok (n : Nat) {w : World} {O0 : List Nat} (hO : ∀ k ∈ O0, k < w.heap.size) {Al_0 : Option Addr} {ml_0 cl_0 : Nat} {l_0 : List (List (Int × (Int × Int)))} (hl_0 : Rep O0 w (.sl (.sl (.pr (.int .i64) (.pr (.int .i64) (.int .i64))))) [.slice Al_0 ml_0 cl_0] l_0) {r : Bool} (hb : F.law46_few n l_0 = some r) :
    Calls Try.prog 14 #[.slice Al_0 ml_0 cl_0] w fun e w' => ∃ v, e = .returned v ∧ v = .bool r ∧ Cx (fun _ => False) O0 w w' [] := by
  unfold F.law46_few at hb
  have hC := Cx.start hO
  replace hC := hC.arg rfl hl_0
  clear hO
  obtain ⟨rfl, hll_0, hcl_0⟩ := hl_0.sl_len
  refine calls_of_Wc Try.func14 rfl (by rw [Try.ntmps14]; exact Nat.le_of_ble_eq_true rfl) fun KR hKR => ?_
  refine Wc.seq fun K2 hK2 => ?_
  refine Wc.region (by decide +kernel) ?_
  refine lex.pure (v := .bool false) (pu_assign rfl) ?_
  refine lex.nil ?_
  refine hK2 _ _ ?_
  refine Wc.seq fun K3 hK3 => ?_
  refine Wc.region (by decide +kernel) ?_
  refine lex.pure (v := .int .i64 0) (pu_assign rfl) ?_
  refine lex.nil ?_
  refine hK3 _ _ ?_
  refine Wc.seq fun K4 hK4 => ?_
  refine Wc.seq fun K5 hK5 => ?_
  refine Wc.region (by decide +kernel) ?_
  refine lex.pure (v := .slice Al_0 l_0.length cl_0) (pu_move rfl) ?_
  refine lex.pure (v := .int .i64 (l_0.length : Int)) (pu_len (A := Al_0) (n := l_0.length) (m := cl_0) Try.underlying28 rfl) ?_
  refine lex.pure (v := .int .i64 0) (pu_move rfl) ?_
  refine lex.nil ?_
  refine hK5 _ _ ?_
  obtain ⟨o6, hl0, hb⟩ := bd hb
  refine Wc.cut (fun E wv => ∃ (v3_0 : Int) (v8_0 : Int), E 0 = .slice Al_0 l_0.length cl_0 ∧ E 2 = .bool false ∧ E 3 = .int .i64 v3_0 ∧ I64 v3_0 ∧ I64 v8_0 ∧ Cx (fun _ => False) O0 w wv [.ro (.sl (.sl (.pr (.int .i64) (.pr (.int .i64) (.int .i64))))) [.slice Al_0 l_0.length cl_0] l_0] ∧ (cond (decide ((l_0.length : Int) ≤ 24)) (some (decide (v3_0 ≤ 24))) (some false) : Option (Bool)) = some r) (fun K7 hK7 => ?_) ?_
  · refine Wc.block ?_
    refine Wc.loop (fun m E wv => ∃ (v3_0 : Int) (v8_0 : Int), E 0 = .slice Al_0 l_0.length cl_0 ∧ E 2 = .bool false ∧ E 3 = .int .i64 v3_0 ∧ E 6 = .slice Al_0 l_0.length cl_0 ∧ E 7 = .int .i64 (l_0.length : Int) ∧ E 8 = .int .i64 v8_0 ∧ I64 v3_0 ∧ I64 v8_0 ∧ Cx (fun _ => False) O0 w wv [.ro (.sl (.sl (.pr (.int .i64) (.pr (.int .i64) (.int .i64))))) [.slice Al_0 l_0.length cl_0] l_0] ∧ loopN m (F.law46_few_b0 n l_0) (v3_0, v8_0) = some o6) n ⟨0, 0, rfl, rfl, rfl, rfl, rfl, rfl, (show I64 0 from by unfold I64; omega), (show I64 0 from by unfold I64; omega), hC.sel [0] (by decide), hl0⟩ ?_
    have hbK0 := hb
    clear hb hC hl0
    rintro m9 E11 w10 ⟨v3_0, v8_0, e0, e2, e3, e6, e7, e8, hrv3_0, hrv8_0, hC, hl0⟩ K8 hK8
    obtain ⟨m9', o12, rfl, hb, hl0⟩ := loopN_some hl0
    unfold F.law46_few_b0 at hb
    refine Wc.seq fun K13 hK13 => ?_
    refine Wc.region (by decide +kernel) ?_
    refine lex.pure (v := .bool (decide (v8_0 < (l_0.length : Int)))) (pu_lss (k := .i64) (a := v8_0) (b := (l_0.length : Int)) e8 e7) ?_
    refine lex.nil ?_
    refine hK13 _ _ ?_
    refine Wc.seq fun K14 hK14 => ?_
    refine Wc.cond (t := (decide (v8_0 < (l_0.length : Int)))) (rfl) (fun hq15 => ?_) (fun hq15 => ?_)
    · replace hb := (cT hq15).symm.trans hb
      refine Wc.skip ?_
      refine hK14 _ _ ?_
      refine Wc.seq fun K16 hK16 => ?_
      refine Wc.block ?_
      refine Wc.seq fun K17 hK17 => ?_
      refine Wc.region (by decide +kernel) ?_
      obtain ⟨x18, h19, hb⟩ := bd hb
      obtain ⟨ad20, cs21, hA, hc22, hr23⟩ := hC.elr (i := 0) rfl (get_some h19).2
      subst hA
      refine lex.pure (v := .pointer (some (ad20.add (v8_0.toNat * 1)))) (pu_index (a := v8_0) Try.underlying28 Try.sizeOf43 e6 e8 (get_some h19).1) ?_
      have hR := hr23
      obtain ⟨A24, c25, rfl, hl26, hc27, _⟩ := hr23
      replace hC := hC.ro hR
      clear hR
      refine lex.val (v := .slice A24 x18.length c25) (ld_one Try.isAgg43 rfl (hc22 0 _ rfl)) ?_
      refine lex.pure (v := .slice A24 x18.length c25) (pu_assign rfl) ?_
      refine lex.nil ?_
      refine hK17 _ _ ?_
      refine Wc.region (by decide +kernel) ?_
      refine lex.pure (v := .int .i64 v3_0) (pu_move e3) ?_
      refine lex.pure (v := .slice A24 x18.length c25) (pu_move rfl) ?_
      refine lex.pure (v := .int .i64 (x18.length : Int)) (pu_len (A := A24) (n := x18.length) (m := c25) Try.underlying43 rfl) ?_
      obtain ⟨z29, h30, hb⟩ := bd hb
      refine lex.pure (v := .int .i64 z29) (pu_addc (a := v3_0) (b := (x18.length : Int)) rfl rfl h30) ?_
      refine lex.pure (v := .int .i64 z29) (pu_assign rfl) ?_
      refine lex.nil ?_
      refine hK16 _ _ ?_
      refine Wc.region (by decide +kernel) ?_
      obtain ⟨z31, h32, hb⟩ := bd hb
      refine lex.pure (v := .int .i64 z31) (pu_addc (a := v8_0) (b := 1) e8 rfl h32) ?_
      refine lex.pure (v := .int .i64 z31) (pu_move rfl) ?_
      refine lex.nil ?_
      obtain rfl := Option.some.inj hb
      exact hK8 m9' _ _ (Nat.lt_succ_self _) ⟨z29, z31, e0, e2, rfl, e6, e7, rfl, (chk_rng h30), (chk_rng h32), hC.sel [1] (by decide), lN hl0⟩
    · replace hb := (cF hq15).symm.trans hb
      refine Wc.exit rfl ?_
      obtain rfl := Option.some.inj hb
      obtain rfl := (lX hl0).symm
      exact hK7 _ _ ⟨v3_0, v8_0, e0, e2, e3, hrv3_0, hrv8_0, hC.sel [0] (by decide), hbK0⟩
  · clear hb hC hl0
    rintro E34 w33 ⟨v3_0, v8_0, e0, e2, e3, hrv3_0, hrv8_0, hC, hb⟩
    refine hK4 _ _ ?_
    refine Wc.seq fun K35 hK35 => ?_
    refine Wc.region (by decide +kernel) ?_
    refine lex.pure (v := .slice Al_0 l_0.length cl_0) (pu_move e0) ?_
    refine lex.pure (v := .int .i64 (l_0.length : Int)) (pu_len (A := Al_0) (n := l_0.length) (m := cl_0) Try.underlying28 rfl) ?_
    refine lex.pure (v := .bool (decide ((l_0.length : Int) ≤ 24))) (pu_leq (k := .i64) (a := (l_0.length : Int)) (b := 24) rfl rfl) ?_
    refine lex.pure (v := .bool (decide ((l_0.length : Int) ≤ 24))) (pu_move rfl) ?_
    rcases bS (decide ((l_0.length : Int) ≤ 24)) with hq36 | hq36
    · replace hb := (cT hq36).symm.trans hb
      refine lex.gpure (want_t rfl rfl (show _ = Value.bool (decide ((l_0.length : Int) ≤ 24)) from rfl) hq36) (v := .int .i64 v3_0) (pu_move e3) ?_
      refine lex.gpure (want_t rfl rfl (show _ = Value.bool (decide ((l_0.length : Int) ≤ 24)) from rfl) hq36) (v := .bool (decide (v3_0 ≤ 24))) (pu_leq (k := .i64) (a := v3_0) (b := 24) rfl rfl) ?_
      refine lex.pure (v := .bool (decide (v3_0 ≤ 24))) (pu_pickT (q := (decide ((l_0.length : Int) ≤ 24))) rfl hq36 rfl) ?_
      refine lex.pure (v := .bool (decide (v3_0 ≤ 24))) (pu_assign rfl) ?_
      refine lex.nil ?_
      refine hK35 _ _ ?_
      obtain rfl := Option.some.inj hb
      refine Wc.ret ?_
      refine hKR _ _ ?_
      refine ⟨_, res1 Try.results14 (show RV _ _ _ (.tmp _) (.bool (decide (v3_0 ≤ 24))) from rfl), _, rfl, rfl, hC.sel [] (by decide)⟩
    · replace hb := (cF hq36).symm.trans hb
      refine lex.gskip (want_f rfl rfl (show _ = Value.bool (decide ((l_0.length : Int) ≤ 24)) from rfl) hq36) ?_
      refine lex.gskip (want_f rfl rfl (show _ = Value.bool (decide ((l_0.length : Int) ≤ 24)) from rfl) hq36) ?_
      refine lex.pure (v := .bool false) (pu_pickF (q := (decide ((l_0.length : Int) ≤ 24))) rfl hq36 rfl) ?_
      refine lex.pure (v := .bool false) (pu_assign rfl) ?_
      refine lex.nil ?_
      refine hK35 _ _ ?_
      obtain rfl := Option.some.inj hb
      refine Wc.ret ?_
      refine hKR _ _ ?_
      refine ⟨_, res1 Try.results14 (show RV _ _ _ (.tmp _) (.bool false) from rfl), _, rfl, rfl, hC.sel [] (by decide)⟩

set_option maxRecDepth 100000 in
set_option maxHeartbeats 4000000 in
theorem law46_generic_ok (n : Nat) {w : World} {O0 : List Nat} (hO : ∀ k ∈ O0, k < w.heap.size) {Al_0 : Option Addr} {ml_0 cl_0 : Nat} {l_0 : List (List (Int × (Int × Int)))} (hl_0 : Rep O0 w (.sl (.sl (.pr (.int .i64) (.pr (.int .i64) (.int .i64))))) [.slice Al_0 ml_0 cl_0] l_0) {r : (List Int) × (List Int) × Int × Bool} (hb : F.law46_generic n l_0 = some r) :
    Calls Try.prog 23 #[.slice Al_0 ml_0 cl_0] w fun e w' => ∃ v, e = .returned v ∧ ∃ (A0 : Option Addr) (m0 c0 : Nat) (A1 : Option Addr) (m1 c1 : Nat), v = .tuple #[.agg #[.slice A0 m0 c0, .slice A1 m1 c1, .int .i64 r.2.2.1], .bool r.2.2.2] ∧ I64 r.2.2.1 ∧ Cx (fun _ => False) O0 w w' [.own 3 (.int .i64) (.slice A0 m0 c0) r.1, .own 3 (.int .i64) (.slice A1 m1 c1) r.2.1] := by
  unfold F.law46_generic at hb
  have hC := Cx.start hO
  replace hC := hC.arg rfl hl_0
  clear hO
  obtain ⟨rfl, hll_0, hcl_0⟩ := hl_0.sl_len
  refine calls_of_Wc Try.func23 rfl (by rw [Try.ntmps23]; exact Nat.le_of_ble_eq_true rfl) fun KR hKR => ?_
  refine Wc.seq fun K2 hK2 => ?_
  refine Wc.region (by decide +kernel) ?_
  refine lex.op (hC.alloc (cs := [.slice none 0 0, .slice none 0 0, .int .i64 0]) Try.zeroValue32 rfl) ?_
  rintro _ w4 ⟨g3, rfl, hC, hF, hG⟩
  clear hG
  refine lex.pure (v := .bool false) (pu_assign rfl) ?_
  refine lex.nil ?_
  refine hK2 _ _ ?_
  refine Wc.seq fun K6 hK6 => ?_
  refine Wc.seq fun K7 hK7 => ?_
  refine Wc.region (by decide +kernel) ?_
  refine lex.pure (v := .slice Al_0 l_0.length cl_0) (pu_move rfl) ?_
  obtain ⟨y8, h9, hb⟩ := bd hb
  refine lex.cl (⟨_, _, op_call (vs := [.slice Al_0 l_0.length cl_0]) Try.call14 rfl rfl rfl, law46_few_ok n hC.lt (hC.rd (i := 1) rfl) h9⟩) ?_
  rintro _ w10 ⟨rfl, hK⟩
  replace hC := hC.merge hK
  clear hK
  refine lex.pure (v := .bool (!y8)) (pu_not (q := y8) rfl) ?_
  refine lex.nil ?_
  refine hK7 _ _ ?_
  refine Wc.cond (t := (!y8)) (rfl) (fun hq11 => ?_) (fun hq11 => ?_)
  · replace hb := (cT hq11).symm.trans hb
    refine Wc.seq fun K12 hK12 => ?_
    refine Wc.region (by decide +kernel) ?_
    refine lex.pure (v := .agg #[.slice none 0 0, .slice none 0 0, .int .i64 0]) (pu_builds (places := [(0, 1), (1, 1), (2, 1)]) (pv := []) Try.type32 Try.underlying32 rfl (mp_cons Try.type30 (mp_cons Try.type30 (mp_cons Try.type3 mp_nil rfl rfl) rfl rfl) rfl rfl) rfl (by simp [Instr.fill, Value.cells])) ?_
    refine lex.sk (hC.seta (i := 0) (ds := [.slice none 0 0, .slice none 0 0, .int .i64 0]) rfl Try.type32 rfl rfl rfl rfl rfl) ?_
    rintro w13 ⟨hC, hF⟩
    refine lex.pure (v := .bool false) (pu_assign rfl) ?_
    refine lex.nil ?_
    refine hK12 _ _ ?_
    replace hC := hC.nil 3 (.int .i64)
    replace hC := hC.nil 3 (.int .i64)
    obtain rfl := Option.some.inj hb
    refine Wc.ret ?_
    refine hKR _ _ ?_
    refine ⟨_, res2 Try.results23 ⟨_, rfl, loadVar_blk (hC.bx (i := 2) rfl) Try.isAgg32 Try.sizeOf32⟩ (show RV _ _ _ (.tmp _) (.bool false) from rfl), _, rfl, none, 0, 0, none, 0, 0, rfl, (show I64 0 from by unfold I64; omega), hC.sel [1, 0] (by decide)⟩
  · replace hb := (cF hq11).symm.trans hb
    refine Wc.skip ?_
    refine hK6 _ _ ?_
    refine Wc.seq fun K16 hK16 => ?_
    refine Wc.region (by decide +kernel) ?_
    refine lex.pure (v := .slice Al_0 l_0.length cl_0) (pu_move rfl) ?_
    obtain ⟨y17, h18, hb⟩ := bd hb
    refine lex.cl (⟨_, _, op_call (vs := [.slice Al_0 l_0.length cl_0]) Try.call15 rfl rfl rfl, polygon_Project_ok n hC.lt (hC.rd (i := 1) rfl) h18⟩) ?_
    rintro _ w29 ⟨A19, m20, c21, A23, m24, c25, rfl, hr27, hr28, hK⟩
    replace hC := hC.merge hK
    clear hK
    obtain ⟨rfl, hl30, hc31⟩ := (hC.ow (i := 0) rfl).sl_len
    obtain ⟨rfl, hl32, hc33⟩ := (hC.ow (i := 1) rfl).sl_len
    refine lex.pure (v := .tuple #[.agg #[.slice A19 y17.1.length c21, .slice A23 y17.2.1.length c25, .int .i64 y17.2.2.1], .int .i64 y17.2.2.2]) (pu_move rfl) ?_
    refine lex.pure (v := .agg #[.slice A19 y17.1.length c21, .slice A23 y17.2.1.length c25, .int .i64 y17.2.2.1]) (pu_extract rfl rfl) ?_
    refine lex.pure (v := .int .i64 y17.2.2.2) (pu_extract rfl rfl) ?_
    refine lex.op (hC.alloc (cs := [.slice none 0 0, .slice none 0 0, .int .i64 0]) Try.zeroValue32 rfl) ?_
    rintro _ w35 ⟨g34, rfl, hC, hF, hG⟩
    clear hG
    refine lex.sk (hC.seta (i := 0) (ds := [.slice A19 y17.1.length c21, .slice A23 y17.2.1.length c25, .int .i64 y17.2.2.1]) rfl Try.type32 rfl rfl rfl rfl rfl) ?_
    rintro w37 ⟨hC, hF⟩
    refine lex.pure (v := .int .i64 y17.2.2.2) (pu_assign rfl) ?_
    refine lex.nil ?_
    refine hK16 _ _ ?_
    refine Wc.fresh fun E38 hE => ?_
    have e2 : E38 2 = .pointer (some ⟨g3, 0, none⟩) := (congrFun hE 2).trans rfl
    have e3 : E38 3 = .bool false := (congrFun hE 3).trans rfl
    have e4 : E38 4 = .pointer (some ⟨g34, 0, none⟩) := (congrFun hE 4).trans rfl
    have e5 : E38 5 = .int .i64 y17.2.2.2 := (congrFun hE 5).trans rfl
    clear hE
    refine Wc.seq fun K39 hK39 => ?_
    refine Wc.region (by decide +kernel) ?_
    refine lex.val (v := .agg #[.slice A19 y17.1.length c21, .slice A23 y17.2.1.length c25, .int .i64 y17.2.2.1]) (ld_blk (hC.bx (i := 0) rfl) Try.isAgg32 Try.sizeOf32 e4) ?_
    refine lex.pure (v := .int .i64 y17.2.2.2) (pu_move e5) ?_
    refine lex.pure (v := .bool (decide (y17.2.2.2 = 0))) (pu_eql (k := .i64) (a := y17.2.2.2) (b := 0) rfl rfl) ?_
    refine lex.sk (hC.seta (i := 3) (ds := [.slice A19 y17.1.length c21, .slice A23 y17.2.1.length c25, .int .i64 y17.2.2.1]) rfl Try.type32 rfl rfl rfl e2 rfl) ?_
    rintro w40 ⟨hC, hF⟩
    refine lex.pure (v := .bool (decide (y17.2.2.2 = 0))) (pu_assign rfl) ?_
    refine lex.nil ?_
    refine hK39 _ _ ?_
    obtain rfl := Option.some.inj hb
    refine Wc.ret ?_
    refine hKR _ _ ?_
    refine ⟨_, res2 Try.results23 ⟨_, e2, loadVar_blk (hC.bx (i := 3) rfl) Try.isAgg32 Try.sizeOf32⟩ (show RV _ _ _ (.tmp _) (.bool (decide (y17.2.2.2 = 0))) from rfl), _, rfl, A19, y17.1.length, c21, A23, y17.2.1.length, c25, rfl, hr27, hC.sel [1, 2] (by decide)⟩
end Go.Proofs.Yteajmbanlohncaa
