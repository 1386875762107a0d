/- The walks: part 10. -/
import Derived.Test.YtkeaonceaaafcaaS
set_option linter.unusedVariables false
set_option linter.unusedSimpArgs false
namespace Go.Proofs.Ytkeaonceaaafcaa
open Ev
set_option maxRecDepth 100000 in
set_option maxHeartbeats 4000000 in
theorem ref34_Half_ok (n : Nat) {w : World} {O0 : List Nat} (hO : ∀ k ∈ O0, k < w.heap.size) {nx_0 : Int} (hnx_0 : I64 nx_0) {r : (List Int)} (hb : F.ref34_Half n nx_0 = some r) :
    Calls Try.prog 24 #[.int .i64 nx_0] w fun e w' => ∃ v, e = .returned v ∧ ∃ (A0 : Option Addr) (m0 c0 : Nat), v = .slice A0 m0 c0 ∧ Cx (fun _ => False) O0 w w' [.own 3 (.int .i64) (.slice A0 m0 c0) r] := by
  unfold F.ref34_Half at hb
  have hC := Cx.start hO
  clear hO
  refine calls_of_Wc Try.func24 rfl (by rw [Try.ntmps24]; exact Nat.le_of_ble_eq_true rfl) fun KR hKR => ?_
  refine Wc.seq fun K1 hK1 => ?_
  refine Wc.region (by decide +kernel) ?_
  refine lex.pure (v := .slice none 0 0) (pu_assign rfl) ?_
  refine lex.nil ?_
  refine hK1 _ _ ?_
  refine Wc.seq fun K2 hK2 => ?_
  refine Wc.region (by decide +kernel) ?_
  refine lex.pure (v := .slice none 0 0) (pu_assign rfl) ?_
  refine lex.nil ?_
  refine hK2 _ _ ?_
  refine Wc.seq fun K3 hK3 => ?_
  refine Wc.seq fun K4 hK4 => ?_
  refine Wc.region (by decide +kernel) ?_
  refine lex.pure (v := .int .i64 0) (pu_assign rfl) ?_
  refine lex.nil ?_
  refine hK4 _ _ ?_
  replace hC := hC.nil 3 (.int .i64)
  obtain ⟨o6, hl0, hb⟩ := bd hb
  refine Wc.cut (fun E wv => ∃ (l3_0 : List Int) (v4_0 : Int) (Al3_0 : Option Addr) (ml3_0 cl3_0 : Nat), E 2 = .slice none 0 0 ∧ E 3 = .slice Al3_0 ml3_0 cl3_0 ∧ I64 v4_0 ∧ Cx (fun _ => False) O0 w wv [.own 3 (.int .i64) (.slice Al3_0 ml3_0 cl3_0) l3_0] ∧ (some l3_0 : Option ((List Int))) = some r) (fun K7 hK7 => ?_) ?_
  · refine Wc.block ?_
    refine Wc.loop (fun m E wv => ∃ (l3_0 : List Int) (v4_0 : Int) (Al3_0 : Option Addr) (ml3_0 cl3_0 : Nat), E 0 = .int .i64 nx_0 ∧ E 2 = .slice none 0 0 ∧ E 3 = .slice Al3_0 ml3_0 cl3_0 ∧ E 4 = .int .i64 v4_0 ∧ I64 v4_0 ∧ Cx (fun _ => False) O0 w wv [.own 3 (.int .i64) (.slice Al3_0 ml3_0 cl3_0) l3_0] ∧ loopN m (F.ref34_Half_b0 n nx_0) (l3_0, v4_0) = some o6) n ⟨([] : List Int), 0, none, 0, 0, rfl, rfl, rfl, rfl, (show I64 0 from by unfold I64; omega), hC.sel [0] (by decide), hl0⟩ ?_
    have hbK0 := hb
    clear hb hC hl0
    rintro m9 E11 w10 ⟨l3_0, v4_0, Al3_0, ml3_0, cl3_0, e0, e2, e3, e4, hrv4_0, hC, hl0⟩ K8 hK8
    obtain ⟨m9', o12, rfl, hb, hl0⟩ := loopN_some hl0
    unfold F.ref34_Half_b0 at hb
    obtain ⟨rfl, hll3_0, hcl3_0⟩ := (hC.ow (i := 0) rfl).sl_len
    refine Wc.seq fun K13 hK13 => ?_
    refine Wc.seq fun K14 hK14 => ?_
    refine Wc.region (by decide +kernel) ?_
    refine lex.pure (v := .int .i64 v4_0) (pu_move e4) ?_
    refine lex.pure (v := .int .i64 nx_0) (pu_move e0) ?_
    refine lex.pure (v := .bool (decide (v4_0 < nx_0))) (pu_lss (k := .i64) (a := v4_0) (b := nx_0) rfl rfl) ?_
    refine lex.nil ?_
    refine hK14 _ _ ?_
    refine Wc.cond (t := (decide (v4_0 < nx_0))) (rfl) (fun hq15 => ?_) (fun hq15 => ?_)
    · replace hb := (cT hq15).symm.trans hb
      refine Wc.skip ?_
      refine hK13 _ _ ?_
      refine Wc.seq fun K16 hK16 => ?_
      refine Wc.block ?_
      refine Wc.region (by decide +kernel) ?_
      refine lex.pure (v := .slice Al3_0 l3_0.length cl3_0) (pu_move e3) ?_
      refine lex.pure (v := .int .i64 nx_0) (pu_move e0) ?_
      obtain ⟨z17, h18, hb⟩ := bd hb
      refine lex.pure (v := .int .i64 z17) (pu_subc (a := nx_0) (b := 1) rfl rfl h18) ?_
      refine lex.pure (v := .int .i64 v4_0) (pu_move e4) ?_
      obtain ⟨z19, h20, hb⟩ := bd hb
      refine lex.pure (v := .int .i64 z19) (pu_subc (a := z17) (b := v4_0) rfl rfl h20) ?_
      refine lex.op (hC.lit (s := (.int .i64)) (vs := [.int .i64 z19]) (xs := [z19]) Try.underlying22 Try.type3 rfl rfl (Nat.le_of_ble_eq_true rfl) rfl rfl (by simp [Value.cells, Sh.n]) rfl (show Elems _ _ (.int .i64) ([.int .i64 z19] ++ ([])) ([z19] : List Int) from Elems.cons (⟨rfl, I64.wr (chk_rng h20)⟩) (Elems.nil _ _ _))) ?_
      rintro _ w25 ⟨A21, c22, rfl, hl23, hc24, hC, hF, hN⟩
      clear hF hN
      obtain ⟨u27, h28, hb⟩ := bd hb
      refine lex.op (hC.app (i := 1) (s := (.int .i64)) (xs := l3_0) (ys := ([z19] : List Int)) (m := ((([z19] : List Int)).length)) rfl Try.underlying22 Try.underlying22 Try.type3 rfl rfl rfl (hC.srco (i := 0) rfl) rfl rfl (by have := lim_some h28; simp at this ⊢ <;> omega) (by decide)) ?_
      rintro _ w33 ⟨A29, c30, rfl, hl31, hc32, hC, hF, hN⟩
      clear hF hN
      refine lex.pure (v := .slice A29 ((l3_0 ++ ([z19] : List Int)).length) c30) (pu_assign rfl) ?_
      refine lex.nil ?_
      refine hK16 _ _ ?_
      refine Wc.region (by decide +kernel) ?_
      refine lex.pure (v := .int .i64 v4_0) (pu_move e4) ?_
      obtain ⟨z34, h35, hb⟩ := bd hb
      refine lex.pure (v := .int .i64 z34) (pu_addc (a := v4_0) (b := 1) rfl rfl h35) ?_
      refine lex.pure (v := .int .i64 z34) (pu_assign rfl) ?_
      refine lex.nil ?_
      obtain rfl := Option.some.inj hb
      exact hK8 m9' _ _ (Nat.lt_succ_self _) ⟨(l3_0 ++ ([z19] : List Int)), z34, A29, (l3_0 ++ ([z19] : List Int)).length, c30, e0, e2, rfl, rfl, (chk_rng h35), hC.sel [1] (by decide), lN hl0⟩
    · replace hb := (cF hq15).symm.trans hb
      refine Wc.exit rfl ?_
      obtain rfl := Option.some.inj hb
      obtain rfl := (lX hl0).symm
      exact hK7 _ _ ⟨l3_0, v4_0, Al3_0, l3_0.length, cl3_0, e2, e3, hrv4_0, hC.sel [0] (by decide), hbK0⟩
  · clear hb hC hl0
    rintro E37 w36 ⟨l3_0, v4_0, Al3_0, ml3_0, cl3_0, e2, e3, hrv4_0, hC, hb⟩
    obtain ⟨rfl, hll3_0, hcl3_0⟩ := (hC.ow (i := 0) rfl).sl_len
    refine hK3 _ _ ?_
    refine Wc.seq fun K38 hK38 => ?_
    refine Wc.region (by decide +kernel) ?_
    refine lex.pure (v := .slice Al3_0 l3_0.length cl3_0) (pu_move e3) ?_
    refine lex.pure (v := .slice Al3_0 l3_0.length cl3_0) (pu_assign rfl) ?_
    refine lex.nil ?_
    refine hK38 _ _ ?_
    obtain rfl := Option.some.inj hb
    refine Wc.ret ?_
    refine hKR _ _ ?_
    refine ⟨_, res1 Try.results24 (show RV _ _ _ (.tmp _) (.slice Al3_0 l3_0.length cl3_0) from rfl), _, rfl, Al3_0, l3_0.length, cl3_0, rfl, hC.sel [0] (by decide)⟩
end Go.Proofs.Ytkeaonceaaafcaa
