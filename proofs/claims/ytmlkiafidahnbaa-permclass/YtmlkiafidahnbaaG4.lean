/- The walks: part 4. -/
import Derived.Test.YtmlkiafidahnbaaS
import Derived.Test.YtmlkiafidahnbaaG3
set_option linter.unusedVariables false
set_option linter.unusedSimpArgs false
namespace Go.Proofs.Ytmlkiafidahnbaa
open Ev
set_option maxRecDepth 100000 in
set_option maxHeartbeats 4000000 in
theorem ref30_All_ok (n : Nat) : ∀ {w : World} {O0 : List Nat} (hO : ∀ k ∈ O0, k < w.heap.size) {nx_0 : Int} (hnx_0 : I64 nx_0) {Afront_1 : Option Addr} {mfront_1 cfront_1 : Nat} {front_1 : List Int} (hfront_1 : Rep O0 w (.sl (.int .i64)) [.slice Afront_1 mfront_1 cfront_1] front_1) {r : (List (List Int))} (hb : F.ref30_All n nx_0 front_1 = some r),
    Calls Try.prog 11 #[.int .i64 nx_0, .slice Afront_1 mfront_1 cfront_1] w fun e w' => ∃ v, e = .returned v ∧ ∃ (A0 : Option Addr) (m0 c0 : Nat), v = .slice A0 m0 c0 ∧ Cx (fun _ => False) O0 w w' [.own 28 (.sl (.int .i64)) (.slice A0 m0 c0) r] := by
  induction n with
  | zero =>
    intro w O0 hO nx_0 hnx_0 Afront_1 mfront_1 cfront_1 front_1 hfront_1 r hb
    rw [F.ref30_All] at hb
    cases hb
  | succ n ih =>
    intro w O0 hO nx_0 hnx_0 Afront_1 mfront_1 cfront_1 front_1 hfront_1 r hb
    rw [F.ref30_All] at hb
    have hC := Cx.start hO
    replace hC := hC.arg rfl hfront_1
    clear hO
    obtain ⟨rfl, hlfront_1, hcfront_1⟩ := hfront_1.sl_len
    refine calls_of_Wc Try.func11 rfl (by rw [Try.ntmps11]; exact Nat.le_of_ble_eq_true rfl) fun KR hKR => ?_
    refine Wc.seq fun K2 hK2 => ?_
    refine Wc.region (by decide +kernel) ?_
    refine lex.pure (v := .slice none 0 0) (pu_assign rfl) ?_
    refine lex.nil ?_
    refine hK2 _ _ ?_
    refine Wc.seq fun K3 hK3 => ?_
    refine Wc.seq fun K4 hK4 => ?_
    refine Wc.region (by decide +kernel) ?_
    refine lex.pure (v := .slice Afront_1 front_1.length cfront_1) (pu_move rfl) ?_
    refine lex.pure (v := .int .i64 (front_1.length : Int)) (pu_len (A := Afront_1) (n := front_1.length) (m := cfront_1) Try.underlying28 rfl) ?_
    refine lex.pure (v := .int .i64 nx_0) (pu_move rfl) ?_
    refine lex.pure (v := .bool (decide ((front_1.length : Int) = nx_0))) (pu_eql (k := .i64) (a := (front_1.length : Int)) (b := nx_0) rfl rfl) ?_
    refine lex.nil ?_
    refine hK4 _ _ ?_
    refine Wc.cond (t := (decide ((front_1.length : Int) = nx_0))) (rfl) (fun hq5 => ?_) (fun hq5 => ?_)
    · replace hb := (cT hq5).symm.trans hb
      refine Wc.seq fun K6 hK6 => ?_
      refine Wc.region (by decide +kernel) ?_
      refine lex.op (hC.lit (s := (.int .i64)) (vs := []) (xs := []) Try.underlying28 Try.type3 rfl rfl (Nat.le_of_ble_eq_true rfl) rfl rfl (by simp [Value.cells, Sh.n]) rfl (show Elems _ _ (.int .i64) ([]) ([] : List Int) from Elems.nil _ _ _)) ?_
      rintro _ w11 ⟨A7, c8, rfl, hl9, hc10, hC, hF, hN⟩
      clear hF hN
      refine lex.pure (v := .slice Afront_1 front_1.length cfront_1) (pu_move rfl) ?_
      obtain ⟨u13, h14, hb⟩ := bd hb
      refine lex.op (hC.app (i := 0) (s := (.int .i64)) (xs := ([] : List Int)) (ys := front_1) (m := front_1.length) rfl Try.underlying28 Try.underlying28 Try.type3 rfl rfl rfl (hC.srcr (i := 1) rfl) rfl rfl (by have := lim_some h14; simp at this ⊢ <;> omega) (by decide)) ?_
      rintro _ w19 ⟨A15, c16, rfl, hl17, hc18, hC, hF, hN⟩
      clear hF hN
      replace hC := hC.freeze (i := 0) rfl (hC.own_new (i := 0) rfl)
      refine lex.op (hC.lit (s := (.sl (.int .i64))) (vs := [.slice A15 ((([] : List Int) ++ front_1).length) c16]) (xs := [(([] : List Int) ++ front_1)]) Try.underlying23 Try.type28 rfl rfl (Nat.le_of_ble_eq_true rfl) rfl rfl (by simp [Value.cells, Sh.n]) rfl (show Elems _ _ (.sl (.int .i64)) ([.slice A15 ((([] : List Int) ++ front_1).length) c16] ++ ([])) ([(([] : List Int) ++ front_1)] : List (List Int)) from Elems.cons (hC.rd (i := 0) rfl) (Elems.nil _ _ _))) ?_
      rintro _ w24 ⟨A20, c21, rfl, hl22, hc23, hC, hF, hN⟩
      clear hF hN
      refine lex.pure (v := .slice A20 ((([(([] : List Int) ++ front_1)] : List (List Int))).length) c21) (pu_assign rfl) ?_
      refine lex.nil ?_
      refine hK6 _ _ ?_
      obtain rfl := Option.some.inj hb
      refine Wc.ret ?_
      refine hKR _ _ ?_
      refine ⟨_, res1 Try.results11 (show RV _ _ _ (.tmp _) (.slice A20 ((([(([] : List Int) ++ front_1)] : List (List Int))).length) c21) from rfl), _, rfl, A20, (([(([] : List Int) ++ front_1)] : List (List Int))).length, c21, rfl, hC.sel [0] (by decide)⟩
    · replace hb := (cF hq5).symm.trans hb
      refine Wc.skip ?_
      refine hK3 _ _ ?_
      refine Wc.seq fun K26 hK26 => ?_
      refine Wc.region (by decide +kernel) ?_
      refine lex.pure (v := .slice none 0 0) (pu_assign rfl) ?_
      refine lex.nil ?_
      refine hK26 _ _ ?_
      refine Wc.seq fun K27 hK27 => ?_
      refine Wc.seq fun K28 hK28 => ?_
      refine Wc.region (by decide +kernel) ?_
      refine lex.pure (v := .int .i64 0) (pu_assign rfl) ?_
      refine lex.nil ?_
      refine hK28 _ _ ?_
      replace hC := hC.nil 28 (.sl (.int .i64))
      obtain ⟨o30, hl0, hb⟩ := bd hb
      refine Wc.cut (fun E wv => ∃ (l5_0 : List (List Int)) (v6_0 : Int) (Al5_0 : Option Addr) (ml5_0 cl5_0 : Nat), E 4 = .slice none 0 0 ∧ E 5 = .slice Al5_0 ml5_0 cl5_0 ∧ I64 v6_0 ∧ Cx (fun _ => False) O0 w wv [.own 28 (.sl (.int .i64)) (.slice Al5_0 ml5_0 cl5_0) l5_0] ∧ (some l5_0 : Option ((List (List Int)))) = some r) (fun K31 hK31 => ?_) ?_
      · refine Wc.block ?_
        refine Wc.loop (fun m E wv => ∃ (l5_0 : List (List Int)) (v6_0 : Int) (Al5_0 : Option Addr) (ml5_0 cl5_0 : Nat), E 0 = .int .i64 nx_0 ∧ E 1 = .slice Afront_1 front_1.length cfront_1 ∧ E 4 = .slice none 0 0 ∧ E 5 = .slice Al5_0 ml5_0 cl5_0 ∧ E 6 = .int .i64 v6_0 ∧ I64 v6_0 ∧ Cx (fun _ => False) O0 w wv [.ro (.sl (.int .i64)) [.slice Afront_1 front_1.length cfront_1] front_1, .own 28 (.sl (.int .i64)) (.slice Al5_0 ml5_0 cl5_0) l5_0] ∧ loopN m (F.ref30_All_b0 (F.ref30_All n) n nx_0 front_1) (l5_0, v6_0) = some o30) n ⟨([] : List (List Int)), 0, none, 0, 0, rfl, rfl, rfl, rfl, rfl, (show I64 0 from by unfold I64; omega), hC.sel [1, 0] (by decide), hl0⟩ ?_
        have hbK0 := hb
        clear hb hC hl0
        rintro m33 E35 w34 ⟨l5_0, v6_0, Al5_0, ml5_0, cl5_0, e0, e1, e4, e5, e6, hrv6_0, hC, hl0⟩ K32 hK32
        obtain ⟨m33', o36, rfl, hb, hl0⟩ := loopN_some hl0
        unfold F.ref30_All_b0 at hb
        obtain ⟨rfl, hll5_0, hcl5_0⟩ := (hC.ow (i := 1) rfl).sl_len
        refine Wc.seq fun K37 hK37 => ?_
        refine Wc.seq fun K38 hK38 => ?_
        refine Wc.region (by decide +kernel) ?_
        refine lex.pure (v := .int .i64 v6_0) (pu_move e6) ?_
        refine lex.pure (v := .int .i64 nx_0) (pu_move e0) ?_
        refine lex.pure (v := .bool (decide (v6_0 < nx_0))) (pu_lss (k := .i64) (a := v6_0) (b := nx_0) rfl rfl) ?_
        refine lex.nil ?_
        refine hK38 _ _ ?_
        refine Wc.cond (t := (decide (v6_0 < nx_0))) (rfl) (fun hq39 => ?_) (fun hq39 => ?_)
        · replace hb := (cT hq39).symm.trans hb
          refine Wc.skip ?_
          refine hK37 _ _ ?_
          refine Wc.seq fun K40 hK40 => ?_
          refine Wc.block ?_
          refine Wc.seq fun K41 hK41 => ?_
          refine Wc.region (by decide +kernel) ?_
          refine lex.pure (v := .slice Afront_1 front_1.length cfront_1) (pu_move e1) ?_
          refine lex.pure (v := .int .i64 v6_0) (pu_move e6) ?_
          obtain ⟨y42, h43, hb⟩ := bd hb
          refine lex.cl (⟨_, _, op_call (vs := [.slice Afront_1 front_1.length cfront_1, .int .i64 v6_0]) Try.call39 rfl rfl rfl, ref01_In_ok n hC.lt (hC.rd (i := 0) rfl) hrv6_0 h43⟩) ?_
          rintro _ w44 ⟨rfl, hK⟩
          replace hC := hC.merge hK
          clear hK
          refine lex.pure (v := .bool (!y42)) (pu_not (q := y42) rfl) ?_
          refine lex.nil ?_
          refine hK41 _ _ ?_
          refine Wc.cond (t := (!y42)) (rfl) (fun hq45 => ?_) (fun hq45 => ?_)
          · replace hb := (cT hq45).symm.trans hb
            refine Wc.region (by decide +kernel) ?_
            refine lex.pure (v := .slice Al5_0 l5_0.length cl5_0) (pu_move e5) ?_
            refine lex.pure (v := .int .i64 nx_0) (pu_move e0) ?_
            refine lex.op (hC.lit (s := (.int .i64)) (vs := []) (xs := []) Try.underlying28 Try.type3 rfl rfl (Nat.le_of_ble_eq_true rfl) rfl rfl (by simp [Value.cells, Sh.n]) rfl (show Elems _ _ (.int .i64) ([]) ([] : List Int) from Elems.nil _ _ _)) ?_
            rintro _ w50 ⟨A46, c47, rfl, hl48, hc49, hC, hF, hN⟩
            clear hF hN
            refine lex.pure (v := .slice Afront_1 front_1.length cfront_1) (pu_move e1) ?_
            obtain ⟨u52, h53, hb⟩ := bd hb
            refine lex.op (hC.app (i := 0) (s := (.int .i64)) (xs := ([] : List Int)) (ys := front_1) (m := front_1.length) rfl Try.underlying28 Try.underlying28 Try.type3 rfl rfl rfl (hC.srcr (i := 1) rfl) rfl rfl (by have := lim_some h53; simp at this ⊢ <;> omega) (by decide)) ?_
            rintro _ w58 ⟨A54, c55, rfl, hl56, hc57, hC, hF, hN⟩
            clear hF hN
            refine lex.pure (v := .int .i64 v6_0) (pu_move e6) ?_
            refine lex.op (hC.lit (s := (.int .i64)) (vs := [.int .i64 v6_0]) (xs := [v6_0]) Try.underlying28 Try.type3 rfl rfl (Nat.le_of_ble_eq_true rfl) rfl rfl (by simp [Value.cells, Sh.n]) rfl (show Elems _ _ (.int .i64) ([.int .i64 v6_0] ++ ([])) ([v6_0] : List Int) from Elems.cons (⟨rfl, I64.wr hrv6_0⟩) (Elems.nil _ _ _))) ?_
            rintro _ w63 ⟨A59, c60, rfl, hl61, hc62, hC, hF, hN⟩
            clear hF hN
            obtain ⟨u65, h66, hb⟩ := bd hb
            refine lex.op (hC.app (i := 1) (s := (.int .i64)) (xs := (([] : List Int) ++ front_1)) (ys := ([v6_0] : List Int)) (m := ((([v6_0] : List Int)).length)) rfl Try.underlying28 Try.underlying28 Try.type3 rfl rfl rfl (hC.srco (i := 0) rfl) rfl rfl (by have := lim_some h66; simp at this ⊢ <;> omega) (by decide)) ?_
            rintro _ w71 ⟨A67, c68, rfl, hl69, hc70, hC, hF, hN⟩
            clear hF hN
            replace hC := hC.freeze (i := 1) rfl (hC.own_new (i := 1) rfl)
            obtain ⟨y72, h73, hb⟩ := bd hb
            refine lex.cl (⟨_, _, op_call (vs := [.int .i64 nx_0, .slice A67 (((([] : List Int) ++ front_1) ++ ([v6_0] : List Int)).length) c68]) Try.call11 rfl rfl rfl, ih hC.lt hnx_0 (hC.rd (i := 1) rfl) h73⟩) ?_
            rintro _ w78 ⟨A74, m75, c76, rfl, hK⟩
            replace hC := hC.merge hK
            clear hK
            obtain ⟨rfl, hl79, hc80⟩ := (hC.ow (i := 0) rfl).sl_len
            obtain ⟨u81, h82, hb⟩ := bd hb
            refine lex.op (hC.app (i := 4) (s := (.sl (.int .i64))) (xs := l5_0) (ys := y72) (m := y72.length) rfl Try.underlying23 Try.underlying23 Try.type28 rfl rfl rfl (hC.srco (i := 0) rfl) rfl rfl (by have := lim_some h82; simp at this ⊢ <;> omega) (by decide)) ?_
            rintro _ w87 ⟨A83, c84, rfl, hl85, hc86, hC, hF, hN⟩
            clear hF hN
            refine lex.pure (v := .slice A83 ((l5_0 ++ y72).length) c84) (pu_assign rfl) ?_
            refine lex.nil ?_
            refine hK40 _ _ ?_
            refine Wc.region (by decide +kernel) ?_
            refine lex.pure (v := .int .i64 v6_0) (pu_move e6) ?_
            obtain ⟨z88, h89, hb⟩ := bd hb
            refine lex.pure (v := .int .i64 z88) (pu_addc (a := v6_0) (b := 1) rfl rfl h89) ?_
            refine lex.pure (v := .int .i64 z88) (pu_assign rfl) ?_
            refine lex.nil ?_
            obtain rfl := Option.some.inj hb
            exact hK32 m33' _ _ (Nat.lt_succ_self _) ⟨(l5_0 ++ y72), z88, A83, (l5_0 ++ y72).length, c84, e0, e1, e4, rfl, rfl, (chk_rng h89), hC.sel [3, 4] (by decide), lN hl0⟩
          · replace hb := (cF hq45).symm.trans hb
            refine Wc.skip ?_
            refine hK40 _ _ ?_
            refine Wc.region (by decide +kernel) ?_
            refine lex.pure (v := .int .i64 v6_0) (pu_move e6) ?_
            obtain ⟨z90, h91, hb⟩ := bd hb
            refine lex.pure (v := .int .i64 z90) (pu_addc (a := v6_0) (b := 1) rfl rfl h91) ?_
            refine lex.pure (v := .int .i64 z90) (pu_assign rfl) ?_
            refine lex.nil ?_
            obtain rfl := Option.some.inj hb
            exact hK32 m33' _ _ (Nat.lt_succ_self _) ⟨l5_0, z90, Al5_0, l5_0.length, cl5_0, e0, e1, e4, e5, rfl, (chk_rng h91), hC.sel [0, 1] (by decide), lN hl0⟩
        · replace hb := (cF hq39).symm.trans hb
          refine Wc.exit rfl ?_
          obtain rfl := Option.some.inj hb
          obtain rfl := (lX hl0).symm
          exact hK31 _ _ ⟨l5_0, v6_0, Al5_0, l5_0.length, cl5_0, e4, e5, hrv6_0, hC.sel [1] (by decide), hbK0⟩
      · clear hb hC hl0
        rintro E93 w92 ⟨l5_0, v6_0, Al5_0, ml5_0, cl5_0, e4, e5, hrv6_0, hC, hb⟩
        obtain ⟨rfl, hll5_0, hcl5_0⟩ := (hC.ow (i := 0) rfl).sl_len
        refine hK27 _ _ ?_
        refine Wc.seq fun K94 hK94 => ?_
        refine Wc.region (by decide +kernel) ?_
        refine lex.pure (v := .slice Al5_0 l5_0.length cl5_0) (pu_move e5) ?_
        refine lex.pure (v := .slice Al5_0 l5_0.length cl5_0) (pu_assign rfl) ?_
        refine lex.nil ?_
        refine hK94 _ _ ?_
        obtain rfl := Option.some.inj hb
        refine Wc.ret ?_
        refine hKR _ _ ?_
        refine ⟨_, res1 Try.results11 (show RV _ _ _ (.tmp _) (.slice Al5_0 l5_0.length cl5_0) from rfl), _, rfl, Al5_0, l5_0.length, cl5_0, rfl, hC.sel [0] (by decide)⟩
end Go.Proofs.Ytmlkiafidahnbaa
