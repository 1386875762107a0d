/- The walks: part 8. -/
import Derived.Test.YtmlkiafidahnbaaS
set_option linter.unusedVariables false
set_option linter.unusedSimpArgs false
namespace Go.Proofs.Ytmlkiafidahnbaa
open Ev
set_option maxRecDepth 100000 in
set_option maxHeartbeats 4000000 in
theorem law30_plain_ok (n : Nat) {w : World} {O0 : List Nat} (hO : ∀ k ∈ O0, k < w.heap.size) {Al_0 : Option Addr} {ml_0 cl_0 : Nat} {l_0 : List (List Int)} (hl_0 : Rep O0 w (.sl (.sl (.int .i64))) [.slice Al_0 ml_0 cl_0] l_0) {r : (List (List Int))} (hb : F.law30_plain n l_0 = some r) :
    Calls Try.prog 16 #[.slice Al_0 ml_0 cl_0] w fun e w' => ∃ v, e = .returned v ∧ ∃ (A0 : Option Addr) (m0 c0 : Nat), v = .slice A0 m0 c0 ∧ Cx (fun _ => False) O0 w w' [.own 28 (.sl (.int .i64)) (.slice A0 m0 c0) r] := by
  unfold F.law30_plain at hb
  have hC := Cx.start hO
  replace hC := hC.arg rfl hl_0
  clear hO
  obtain ⟨rfl, hll_0, hcl_0⟩ := hl_0.sl_len
  refine calls_of_Wc Try.func16 rfl (by rw [Try.ntmps16]; exact Nat.le_of_ble_eq_true rfl) fun KR hKR => ?_
  refine Wc.seq fun K2 hK2 => ?_
  refine Wc.region (by decide +kernel) ?_
  refine lex.pure (v := .slice none 0 0) (pu_assign rfl) ?_
  refine lex.nil ?_
  refine hK2 _ _ ?_
  refine Wc.seq fun K3 hK3 => ?_
  refine Wc.region (by decide +kernel) ?_
  refine lex.pure (v := .slice none 0 0) (pu_assign rfl) ?_
  refine lex.nil ?_
  refine hK3 _ _ ?_
  refine Wc.seq fun K4 hK4 => ?_
  refine Wc.seq fun K5 hK5 => ?_
  refine Wc.region (by decide +kernel) ?_
  refine lex.pure (v := .slice Al_0 l_0.length cl_0) (pu_move rfl) ?_
  refine lex.pure (v := .int .i64 (l_0.length : Int)) (pu_len (A := Al_0) (n := l_0.length) (m := cl_0) Try.underlying32 rfl) ?_
  refine lex.pure (v := .int .i64 0) (pu_move rfl) ?_
  refine lex.nil ?_
  refine hK5 _ _ ?_
  replace hC := hC.nil 28 (.sl (.int .i64))
  obtain ⟨o7, hl0, hb⟩ := bd hb
  refine Wc.cut (fun E wv => ∃ (l3_0 : List (List Int)) (v8_0 : Int) (Al3_0 : Option Addr) (ml3_0 cl3_0 : Nat), E 2 = .slice none 0 0 ∧ E 3 = .slice Al3_0 ml3_0 cl3_0 ∧ I64 v8_0 ∧ Cx (fun _ => False) O0 w wv [.own 28 (.sl (.int .i64)) (.slice Al3_0 ml3_0 cl3_0) l3_0] ∧ (some l3_0 : Option ((List (List Int)))) = some r) (fun K8 hK8 => ?_) ?_
  · refine Wc.block ?_
    refine Wc.loop (fun m E wv => ∃ (l3_0 : List (List Int)) (v8_0 : Int) (Al3_0 : Option Addr) (ml3_0 cl3_0 : Nat), E 2 = .slice none 0 0 ∧ E 3 = .slice Al3_0 ml3_0 cl3_0 ∧ E 6 = .slice Al_0 l_0.length cl_0 ∧ E 7 = .int .i64 (l_0.length : Int) ∧ E 8 = .int .i64 v8_0 ∧ I64 v8_0 ∧ Cx (fun _ => False) O0 w wv [.own 28 (.sl (.int .i64)) (.slice Al3_0 ml3_0 cl3_0) l3_0, .ro (.sl (.sl (.int .i64))) [.slice Al_0 l_0.length cl_0] l_0] ∧ loopN m (F.law30_plain_b0 n l_0) (l3_0, v8_0) = some o7) n ⟨([] : List (List Int)), 0, none, 0, 0, rfl, rfl, rfl, rfl, rfl, (show I64 0 from by unfold I64; omega), hC.sel [0, 1] (by decide), hl0⟩ ?_
    have hbK0 := hb
    clear hb hC hl0
    rintro m10 E12 w11 ⟨l3_0, v8_0, Al3_0, ml3_0, cl3_0, e2, e3, e6, e7, e8, hrv8_0, hC, hl0⟩ K9 hK9
    obtain ⟨m10', o13, rfl, hb, hl0⟩ := loopN_some hl0
    unfold F.law30_plain_b0 at hb
    obtain ⟨rfl, hll3_0, hcl3_0⟩ := (hC.ow (i := 0) rfl).sl_len
    refine Wc.seq fun K14 hK14 => ?_
    refine Wc.region (by decide +kernel) ?_
    refine lex.pure (v := .bool (decide (v8_0 < (l_0.length : Int)))) (pu_lss (k := .i64) (a := v8_0) (b := (l_0.length : Int)) e8 e7) ?_
    refine lex.nil ?_
    refine hK14 _ _ ?_
    refine Wc.seq fun K15 hK15 => ?_
    refine Wc.cond (t := (decide (v8_0 < (l_0.length : Int)))) (rfl) (fun hq16 => ?_) (fun hq16 => ?_)
    · replace hb := (cT hq16).symm.trans hb
      refine Wc.skip ?_
      refine hK15 _ _ ?_
      refine Wc.seq fun K17 hK17 => ?_
      refine Wc.block ?_
      refine Wc.seq fun K18 hK18 => ?_
      refine Wc.region (by decide +kernel) ?_
      obtain ⟨x19, h20, hb⟩ := bd hb
      obtain ⟨ad21, cs22, hA, hc23, hr24⟩ := hC.elr (i := 1) rfl (get_some h20).2
      subst hA
      refine lex.pure (v := .pointer (some (ad21.add (v8_0.toNat * 1)))) (pu_index (a := v8_0) Try.underlying32 Try.sizeOf29 e6 e8 (get_some h20).1) ?_
      have hR := hr24
      obtain ⟨A25, c26, rfl, hl27, hc28, _⟩ := hr24
      replace hC := hC.ro hR
      clear hR
      refine lex.val (v := .slice A25 x19.length c26) (ld_one Try.isAgg29 rfl (hc23 0 _ rfl)) ?_
      refine lex.pure (v := .slice A25 x19.length c26) (pu_assign rfl) ?_
      refine lex.nil ?_
      refine hK18 _ _ ?_
      refine Wc.region (by decide +kernel) ?_
      refine lex.pure (v := .slice Al3_0 l3_0.length cl3_0) (pu_move e3) ?_
      refine lex.pure (v := .slice A25 x19.length c26) (pu_move rfl) ?_
      refine lex.op (hC.lit (s := (.sl (.int .i64))) (vs := [.slice A25 x19.length c26]) (xs := [x19]) Try.underlying23 Try.type28 rfl rfl (Nat.le_of_ble_eq_true rfl) rfl rfl (by simp [Value.cells, Sh.n]) rfl (show Elems _ _ (.sl (.int .i64)) ([.slice A25 x19.length c26] ++ ([])) ([x19] : List (List Int)) from Elems.cons (hC.rd (i := 0) rfl) (Elems.nil _ _ _))) ?_
      rintro _ w34 ⟨A30, c31, rfl, hl32, hc33, hC, hF, hN⟩
      clear hF hN
      obtain ⟨u36, h37, hb⟩ := bd hb
      refine lex.op (hC.app (i := 2) (s := (.sl (.int .i64))) (xs := l3_0) (ys := ([x19] : List (List Int))) (m := ((([x19] : List (List Int))).length)) rfl Try.underlying23 Try.underlying23 Try.type28 rfl rfl rfl (hC.srco (i := 0) rfl) rfl rfl (by have := lim_some h37; simp at this ⊢ <;> omega) (by decide)) ?_
      rintro _ w42 ⟨A38, c39, rfl, hl40, hc41, hC, hF, hN⟩
      clear hF hN
      refine lex.pure (v := .slice A38 ((l3_0 ++ ([x19] : List (List Int))).length) c39) (pu_assign rfl) ?_
      refine lex.nil ?_
      refine hK17 _ _ ?_
      refine Wc.region (by decide +kernel) ?_
      obtain ⟨z43, h44, hb⟩ := bd hb
      refine lex.pure (v := .int .i64 z43) (pu_addc (a := v8_0) (b := 1) e8 rfl h44) ?_
      refine lex.pure (v := .int .i64 z43) (pu_move rfl) ?_
      refine lex.nil ?_
      obtain rfl := Option.some.inj hb
      exact hK9 m10' _ _ (Nat.lt_succ_self _) ⟨(l3_0 ++ ([x19] : List (List Int))), z43, A38, (l3_0 ++ ([x19] : List (List Int))).length, c39, e2, rfl, e6, e7, rfl, (chk_rng h44), hC.sel [2, 3] (by decide), lN hl0⟩
    · replace hb := (cF hq16).symm.trans hb
      refine Wc.exit rfl ?_
      obtain rfl := Option.some.inj hb
      obtain rfl := (lX hl0).symm
      exact hK8 _ _ ⟨l3_0, v8_0, Al3_0, l3_0.length, cl3_0, e2, e3, hrv8_0, hC.sel [0] (by decide), hbK0⟩
  · clear hb hC hl0
    rintro E46 w45 ⟨l3_0, v8_0, Al3_0, ml3_0, cl3_0, e2, e3, hrv8_0, hC, hb⟩
    obtain ⟨rfl, hll3_0, hcl3_0⟩ := (hC.ow (i := 0) rfl).sl_len
    refine hK4 _ _ ?_
    refine Wc.seq fun K47 hK47 => ?_
    refine Wc.region (by decide +kernel) ?_
    refine lex.pure (v := .slice Al3_0 l3_0.length cl3_0) (pu_move e3) ?_
    refine lex.pure (v := .slice Al3_0 l3_0.length cl3_0) (pu_assign rfl) ?_
    refine lex.nil ?_
    refine hK47 _ _ ?_
    obtain rfl := Option.some.inj hb
    refine Wc.ret ?_
    refine hKR _ _ ?_
    refine ⟨_, res1 Try.results16 (show RV _ _ _ (.tmp _) (.slice Al3_0 l3_0.length cl3_0) from rfl), _, rfl, Al3_0, l3_0.length, cl3_0, rfl, hC.sel [0] (by decide)⟩
end Go.Proofs.Ytmlkiafidahnbaa
