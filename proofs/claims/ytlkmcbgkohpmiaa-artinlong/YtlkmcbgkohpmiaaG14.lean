/- The walks: part 14. -/
import Derived.Test.YtlkmcbgkohpmiaaS
import Derived.Test.YtlkmcbgkohpmiaaG9
set_option linter.unusedVariables false
set_option linter.unusedSimpArgs false
namespace Go.Proofs.Ytlkmcbgkohpmiaa
open Ev
set_option maxRecDepth 100000 in
set_option maxHeartbeats 4000000 in
theorem ref35_Images_ok (n : Nat) {w : World} {O0 : List Nat} (hO : ∀ k ∈ O0, k < w.heap.size) {strands_0 : Int} (hstrands_0 : I64 strands_0) {Abraid_1 : Option Addr} {mbraid_1 cbraid_1 : Nat} {braid_1 : List Int} (hbraid_1 : Rep O0 w (.sl (.int .i64)) [.slice Abraid_1 mbraid_1 cbraid_1] braid_1) {r : (List (List Int)) × Bool} (hb : F.ref35_Images n strands_0 braid_1 = some r) :
    Calls Try.prog 20 #[.int .i64 strands_0, .slice Abraid_1 mbraid_1 cbraid_1] w fun e w' => ∃ v, e = .returned v ∧ ∃ (A0 : Option Addr) (m0 c0 : Nat), v = .tuple #[.slice A0 m0 c0, .bool r.2] ∧ Cx (fun _ => False) O0 w w' [.own 22 (.sl (.int .i64)) (.slice A0 m0 c0) r.1] := by
  unfold F.ref35_Images at hb
  have hC := Cx.start hO
  replace hC := hC.arg rfl hbraid_1
  clear hO
  obtain ⟨rfl, hlbraid_1, hcbraid_1⟩ := hbraid_1.sl_len
  refine calls_of_Wc Try.func20 rfl (by rw [Try.ntmps20]; exact Nat.le_of_ble_eq_true rfl) fun KR hKR => ?_
  refine Wc.seq fun K2 hK2 => ?_
  refine Wc.region (by decide +kernel) ?_
  refine lex.pure (v := .slice none 0 0) (pu_assign rfl) ?_
  refine lex.pure (v := .bool false) (pu_assign rfl) ?_
  refine lex.nil ?_
  refine hK2 _ _ ?_
  refine Wc.seq fun K3 hK3 => ?_
  refine Wc.region (by decide +kernel) ?_
  refine lex.pure (v := .slice none 0 0) (pu_assign rfl) ?_
  refine lex.nil ?_
  refine hK3 _ _ ?_
  refine Wc.seq fun K4 hK4 => ?_
  refine Wc.seq fun K5 hK5 => ?_
  refine Wc.region (by decide +kernel) ?_
  refine lex.pure (v := .int .i64 1) (pu_assign rfl) ?_
  refine lex.nil ?_
  refine hK5 _ _ ?_
  replace hC := hC.nil 22 (.sl (.int .i64))
  obtain ⟨o7, hl0, hb⟩ := bd hb
  refine Wc.cut (fun E wv => ∃ (l6_0 : List (List Int)) (v7_0 : Int) (Al6_0 : Option Addr) (ml6_0 cl6_0 : Nat), E 4 = .slice none 0 0 ∧ E 5 = .bool false ∧ E 6 = .slice Al6_0 ml6_0 cl6_0 ∧ I64 v7_0 ∧ Cx (fun _ => False) O0 w wv [.own 22 (.sl (.int .i64)) (.slice Al6_0 ml6_0 cl6_0) l6_0] ∧ (some (l6_0, true) : Option ((List (List Int)) × Bool)) = some r) (fun K8 hK8 => ?_) ?_
  · refine Wc.block ?_
    refine Wc.loop (fun m E wv => ∃ (l6_0 : List (List Int)) (v7_0 : Int) (Al6_0 : Option Addr) (ml6_0 cl6_0 : Nat), E 0 = .int .i64 strands_0 ∧ E 1 = .slice Abraid_1 braid_1.length cbraid_1 ∧ E 4 = .slice none 0 0 ∧ E 5 = .bool false ∧ E 6 = .slice Al6_0 ml6_0 cl6_0 ∧ E 7 = .int .i64 v7_0 ∧ I64 v7_0 ∧ Cx (fun _ => False) O0 w wv [.ro (.sl (.int .i64)) [.slice Abraid_1 braid_1.length cbraid_1] braid_1, .own 22 (.sl (.int .i64)) (.slice Al6_0 ml6_0 cl6_0) l6_0] ∧ loopN m (F.ref35_Images_b0 n strands_0 braid_1) (l6_0, v7_0) = some o7) n ⟨([] : List (List Int)), 1, none, 0, 0, rfl, rfl, rfl, rfl, rfl, rfl, (show I64 1 from by unfold I64; omega), hC.sel [1, 0] (by decide), hl0⟩ ?_
    have hbK0 := hb
    clear hb hC hl0
    rintro m10 E12 w11 ⟨l6_0, v7_0, Al6_0, ml6_0, cl6_0, e0, e1, e4, e5, e6, e7, hrv7_0, hC, hl0⟩ K9 hK9
    obtain ⟨m10', o13, rfl, hb, hl0⟩ := loopN_some hl0
    unfold F.ref35_Images_b0 at hb
    obtain ⟨rfl, hll6_0, hcl6_0⟩ := (hC.ow (i := 1) rfl).sl_len
    refine Wc.seq fun K14 hK14 => ?_
    refine Wc.seq fun K15 hK15 => ?_
    refine Wc.region (by decide +kernel) ?_
    refine lex.pure (v := .int .i64 v7_0) (pu_move e7) ?_
    refine lex.pure (v := .int .i64 strands_0) (pu_move e0) ?_
    refine lex.pure (v := .bool (decide (v7_0 ≤ strands_0))) (pu_leq (k := .i64) (a := v7_0) (b := strands_0) rfl rfl) ?_
    refine lex.nil ?_
    refine hK15 _ _ ?_
    refine Wc.cond (t := (decide (v7_0 ≤ strands_0))) (rfl) (fun hq16 => ?_) (fun hq16 => ?_)
    · replace hb := (cT hq16).symm.trans hb
      refine Wc.skip ?_
      refine hK14 _ _ ?_
      refine Wc.seq fun K17 hK17 => ?_
      refine Wc.block ?_
      refine Wc.seq fun K18 hK18 => ?_
      refine Wc.region (by decide +kernel) ?_
      refine lex.pure (v := .int .i64 strands_0) (pu_move e0) ?_
      refine lex.pure (v := .slice Abraid_1 braid_1.length cbraid_1) (pu_move e1) ?_
      refine lex.pure (v := .int .i64 v7_0) (pu_move e7) ?_
      refine lex.op (hC.lit (s := (.int .i64)) (vs := [.int .i64 v7_0]) (xs := [v7_0]) Try.underlying22 Try.type3 rfl rfl (Nat.le_of_ble_eq_true rfl) rfl rfl (by simp [Value.cells, Sh.n]) rfl (show Elems _ _ (.int .i64) ([.int .i64 v7_0] ++ ([])) ([v7_0] : List Int) from Elems.cons (⟨rfl, I64.wr hrv7_0⟩) (Elems.nil _ _ _))) ?_
      rintro _ w23 ⟨A19, c20, rfl, hl21, hc22, hC, hF, hN⟩
      clear hF hN
      obtain ⟨y25, h26, hb⟩ := bd hb
      refine lex.cl (⟨_, _, op_call (vs := [.int .i64 strands_0, .slice Abraid_1 braid_1.length cbraid_1, .slice A19 ((([v7_0] : List Int)).length) c20]) Try.call14 rfl rfl rfl, ref35_Act_ok n (hC.lentLt [.slice A19 ((([v7_0] : List Int)).length) c20]) hstrands_0 ((hC.rd (i := 1) rfl).lent [.slice A19 ((([v7_0] : List Int)).length) c20]) ((hC.ow (i := 0) rfl).lend (vs := [.slice A19 ((([v7_0] : List Int)).length) c20]) (by simp)) h26⟩) ?_
      rintro _ w31 ⟨A27, m28, c29, rfl, hK⟩
      replace hC := hC.mergeF hK rfl
      clear hK
      obtain ⟨rfl, hl32, hc33⟩ := (hC.ow (i := 0) rfl).sl_len
      refine lex.pure (v := .tuple #[.slice A27 y25.1.length c29, .bool y25.2]) (pu_move rfl) ?_
      refine lex.pure (v := .slice A27 y25.1.length c29) (pu_extract rfl rfl) ?_
      refine lex.pure (v := .bool y25.2) (pu_extract rfl rfl) ?_
      refine lex.pure (v := .slice A27 y25.1.length c29) (pu_assign rfl) ?_
      refine lex.pure (v := .bool y25.2) (pu_assign rfl) ?_
      refine lex.nil ?_
      refine hK18 _ _ ?_
      refine Wc.fresh fun E34 hE => ?_
      have e0 : E34 0 = .int .i64 strands_0 := (congrFun hE 0).trans e0
      have e1 : E34 1 = .slice Abraid_1 braid_1.length cbraid_1 := (congrFun hE 1).trans e1
      have e4 : E34 4 = .slice none 0 0 := (congrFun hE 4).trans e4
      have e5 : E34 5 = .bool false := (congrFun hE 5).trans e5
      have e6 : E34 6 = .slice Al6_0 l6_0.length cl6_0 := (congrFun hE 6).trans e6
      have e7 : E34 7 = .int .i64 v7_0 := (congrFun hE 7).trans e7
      have e8 : E34 8 = .slice A27 y25.1.length c29 := (congrFun hE 8).trans rfl
      have e9 : E34 9 = .bool y25.2 := (congrFun hE 9).trans rfl
      have e12 : E34 12 = .bool (decide (v7_0 ≤ strands_0)) := (congrFun hE 12).trans rfl
      clear hE
      refine Wc.seq fun K35 hK35 => ?_
      refine Wc.seq fun K36 hK36 => ?_
      refine Wc.region (by decide +kernel) ?_
      refine lex.pure (v := .bool y25.2) (pu_move e9) ?_
      refine lex.pure (v := .bool (!y25.2)) (pu_not (q := y25.2) rfl) ?_
      refine lex.nil ?_
      refine hK36 _ _ ?_
      refine Wc.cond (t := (!y25.2)) (rfl) (fun hq37 => ?_) (fun hq37 => ?_)
      · replace hb := (cT hq37).symm.trans hb
        refine Wc.seq fun K38 hK38 => ?_
        refine Wc.region (by decide +kernel) ?_
        refine lex.pure (v := .slice none 0 0) (pu_assign rfl) ?_
        refine lex.pure (v := .bool false) (pu_assign rfl) ?_
        refine lex.nil ?_
        refine hK38 _ _ ?_
        obtain rfl := Option.some.inj hb
        obtain rfl := (lX hl0).symm
        replace hb := hbK0
        replace hC := hC.nil 22 (.sl (.int .i64))
        obtain rfl := Option.some.inj hb
        refine Wc.ret ?_
        refine hKR _ _ ?_
        refine ⟨_, res2 Try.results20 (show RV _ _ _ (.tmp _) (.slice none 0 0) from rfl) (show RV _ _ _ (.tmp _) (.bool false) from rfl), _, rfl, none, 0, 0, rfl, hC.sel [0] (by decide)⟩
      · replace hb := (cF hq37).symm.trans hb
        refine Wc.skip ?_
        refine hK35 _ _ ?_
        refine Wc.region (by decide +kernel) ?_
        refine lex.pure (v := .slice Al6_0 l6_0.length cl6_0) (pu_move e6) ?_
        refine lex.pure (v := .slice A27 y25.1.length c29) (pu_move e8) ?_
        replace hC := hC.freeze (i := 0) rfl (hC.own_new (i := 0) rfl)
        refine lex.op (hC.lit (s := (.sl (.int .i64))) (vs := [.slice A27 y25.1.length c29]) (xs := [y25.1]) Try.underlying41 Try.type22 rfl rfl (Nat.le_of_ble_eq_true rfl) rfl rfl (by simp [Value.cells, Sh.n]) rfl (show Elems _ _ (.sl (.int .i64)) ([.slice A27 y25.1.length c29] ++ ([])) ([y25.1] : List (List Int)) from Elems.cons (hC.rd (i := 0) rfl) (Elems.nil _ _ _))) ?_
        rintro _ w44 ⟨A40, c41, rfl, hl42, hc43, hC, hF, hN⟩
        clear hF hN
        obtain ⟨u46, h47, hb⟩ := bd hb
        refine lex.op (hC.app (i := 4) (s := (.sl (.int .i64))) (xs := l6_0) (ys := ([y25.1] : List (List Int))) (m := ((([y25.1] : List (List Int))).length)) rfl Try.underlying41 Try.underlying41 Try.type22 rfl rfl rfl (hC.srco (i := 0) rfl) rfl rfl (by have := lim_some h47; simp at this ⊢ <;> omega) (by decide)) ?_
        rintro _ w52 ⟨A48, c49, rfl, hl50, hc51, hC, hF, hN⟩
        clear hF hN
        refine lex.pure (v := .slice A48 ((l6_0 ++ ([y25.1] : List (List Int))).length) c49) (pu_assign rfl) ?_
        refine lex.nil ?_
        refine hK17 _ _ ?_
        refine Wc.region (by decide +kernel) ?_
        refine lex.pure (v := .int .i64 v7_0) (pu_move e7) ?_
        obtain ⟨z53, h54, hb⟩ := bd hb
        refine lex.pure (v := .int .i64 z53) (pu_addc (a := v7_0) (b := 1) rfl rfl h54) ?_
        refine lex.pure (v := .int .i64 z53) (pu_assign rfl) ?_
        refine lex.nil ?_
        obtain rfl := Option.some.inj hb
        exact hK9 m10' _ _ (Nat.lt_succ_self _) ⟨(l6_0 ++ ([y25.1] : List (List Int))), z53, A48, (l6_0 ++ ([y25.1] : List (List Int))).length, c49, e0, e1, e4, e5, rfl, rfl, (chk_rng h54), hC.sel [3, 4] (by decide), lN hl0⟩
    · replace hb := (cF hq16).symm.trans hb
      refine Wc.exit rfl ?_
      obtain rfl := Option.some.inj hb
      obtain rfl := (lX hl0).symm
      exact hK8 _ _ ⟨l6_0, v7_0, Al6_0, l6_0.length, cl6_0, e4, e5, e6, hrv7_0, hC.sel [1] (by decide), hbK0⟩
  · clear hb hC hl0
    rintro E56 w55 ⟨l6_0, v7_0, Al6_0, ml6_0, cl6_0, e4, e5, e6, hrv7_0, hC, hb⟩
    obtain ⟨rfl, hll6_0, hcl6_0⟩ := (hC.ow (i := 0) rfl).sl_len
    refine hK4 _ _ ?_
    refine Wc.seq fun K57 hK57 => ?_
    refine Wc.region (by decide +kernel) ?_
    refine lex.pure (v := .slice Al6_0 l6_0.length cl6_0) (pu_move e6) ?_
    refine lex.pure (v := .slice Al6_0 l6_0.length cl6_0) (pu_assign rfl) ?_
    refine lex.pure (v := .bool true) (pu_assign rfl) ?_
    refine lex.nil ?_
    refine hK57 _ _ ?_
    obtain rfl := Option.some.inj hb
    refine Wc.ret ?_
    refine hKR _ _ ?_
    refine ⟨_, res2 Try.results20 (show RV _ _ _ (.tmp _) (.slice Al6_0 l6_0.length cl6_0) from rfl) (show RV _ _ _ (.tmp _) (.bool true) from rfl), _, rfl, Al6_0, l6_0.length, cl6_0, rfl, hC.sel [0] (by decide)⟩
end Go.Proofs.Ytlkmcbgkohpmiaa
