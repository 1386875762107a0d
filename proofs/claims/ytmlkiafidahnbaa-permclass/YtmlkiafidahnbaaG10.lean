/- The walks: part 10. -/
import Derived.Test.YtmlkiafidahnbaaS
import Derived.Test.YtmlkiafidahnbaaG1
import Derived.Test.YtmlkiafidahnbaaG2
import Derived.Test.YtmlkiafidahnbaaG4
import Derived.Test.YtmlkiafidahnbaaG5
import Derived.Test.YtmlkiafidahnbaaG7
import Derived.Test.YtmlkiafidahnbaaG8
import Derived.Test.YtmlkiafidahnbaaG9
set_option linter.unusedVariables false
set_option linter.unusedSimpArgs false
namespace Go.Proofs.Ytmlkiafidahnbaa
open Ev
set_option maxRecDepth 100000 in
set_option maxHeartbeats 4000000 in
theorem ref30_Class_ok (n : Nat) {w : World} {O0 : List Nat} (hO : ∀ k ∈ O0, k < w.heap.size) {nx_0 : Int} (hnx_0 : I64 nx_0) {Acycles_1 : Option Addr} {mcycles_1 ccycles_1 : Nat} {cycles_1 : List Int} (hcycles_1 : Rep O0 w (.sl (.int .i64)) [.slice Acycles_1 mcycles_1 ccycles_1] cycles_1) {r : (List (List Int))} (hb : F.ref30_Class n nx_0 cycles_1 = some r) :
    Calls Try.prog 17 #[.int .i64 nx_0, .slice Acycles_1 mcycles_1 ccycles_1] w fun e w' => ∃ v, e = .returned v ∧ ∃ (A0 : Option Addr) (m0 c0 : Nat), v = .slice A0 m0 c0 ∧ Cx (fun _ => False) O0 w w' [.own 28 (.sl (.int .i64)) (.slice A0 m0 c0) r] := by
  unfold F.ref30_Class at hb
  have hC := Cx.start hO
  replace hC := hC.arg rfl hcycles_1
  clear hO
  obtain ⟨rfl, hlcycles_1, hccycles_1⟩ := hcycles_1.sl_len
  refine calls_of_Wc Try.func17 rfl (by rw [Try.ntmps17]; exact Nat.le_of_ble_eq_true rfl) fun KR hKR => ?_
  refine Wc.seq fun K2 hK2 => ?_
  refine Wc.region (by decide +kernel) ?_
  refine lex.pure (v := .slice none 0 0) (pu_assign rfl) ?_
  refine lex.nil ?_
  refine hK2 _ _ ?_
  refine Wc.seq fun K3 hK3 => ?_
  refine Wc.region (by decide +kernel) ?_
  refine lex.pure (v := .slice none 0 0) (pu_assign rfl) ?_
  refine lex.nil ?_
  refine hK3 _ _ ?_
  refine Wc.seq fun K4 hK4 => ?_
  refine Wc.region (by decide +kernel) ?_
  refine lex.pure (v := .int .i64 nx_0) (pu_move rfl) ?_
  obtain ⟨y5, h6, hb⟩ := bd hb
  refine lex.cl (⟨_, _, op_call (vs := [.int .i64 nx_0, .slice none 0 0]) Try.call11 rfl rfl rfl, ref30_All_ok n hC.lt hnx_0 ((show Rep _ _ (.sl (.int .i64)) [.slice none 0 0] ([] : List Int) from ⟨none, 0, rfl, Nat.le_refl _, by omega, fun h => absurd h (by simp)⟩)) h6⟩) ?_
  rintro _ w11 ⟨A7, m8, c9, rfl, hK⟩
  replace hC := hC.merge hK
  clear hK
  obtain ⟨rfl, hl12, hc13⟩ := (hC.ow (i := 0) rfl).sl_len
  refine lex.pure (v := .slice A7 y5.length c9) (pu_assign rfl) ?_
  refine lex.nil ?_
  refine hK4 _ _ ?_
  refine Wc.seq fun K14 hK14 => ?_
  refine Wc.seq fun K15 hK15 => ?_
  refine Wc.region (by decide +kernel) ?_
  refine lex.pure (v := .int .i64 0) (pu_assign rfl) ?_
  refine lex.nil ?_
  refine hK15 _ _ ?_
  replace hC := hC.nil 28 (.sl (.int .i64))
  obtain ⟨o17, hl0, hb⟩ := bd hb
  refine Wc.cut (fun E wv => ∃ (l5_0 : List (List Int)) (v7_0 : Int) (Al5_0 : Option Addr) (ml5_0 cl5_0 : Nat), E 4 = .slice none 0 0 ∧ E 5 = .slice Al5_0 ml5_0 cl5_0 ∧ I64 v7_0 ∧ Cx (fun _ => False) O0 w wv [.own 28 (.sl (.int .i64)) (.slice Al5_0 ml5_0 cl5_0) l5_0] ∧ (some l5_0 : Option ((List (List Int)))) = some r) (fun K18 hK18 => ?_) ?_
  · refine Wc.block ?_
    refine Wc.loop (fun m E wv => ∃ (l5_0 : List (List Int)) (v7_0 : Int) (Al5_0 : Option Addr) (ml5_0 cl5_0 : Nat), E 1 = .slice Acycles_1 cycles_1.length ccycles_1 ∧ E 4 = .slice none 0 0 ∧ E 5 = .slice Al5_0 ml5_0 cl5_0 ∧ E 6 = .slice A7 y5.length c9 ∧ E 7 = .int .i64 v7_0 ∧ I64 v7_0 ∧ Cx (fun _ => False) O0 w wv [.ro (.sl (.int .i64)) [.slice Acycles_1 cycles_1.length ccycles_1] cycles_1, .own 28 (.sl (.int .i64)) (.slice Al5_0 ml5_0 cl5_0) l5_0, .own 28 (.sl (.int .i64)) (.slice A7 y5.length c9) y5] ∧ loopN m (F.ref30_Class_b0 n cycles_1 y5) (l5_0, v7_0) = some o17) n ⟨([] : List (List Int)), 0, none, 0, 0, rfl, rfl, rfl, rfl, rfl, (show I64 0 from by unfold I64; omega), hC.sel [2, 0, 1] (by decide), hl0⟩ ?_
    have hbK0 := hb
    clear hb hC hl0
    rintro m20 E22 w21 ⟨l5_0, v7_0, Al5_0, ml5_0, cl5_0, e1, e4, e5, e6, e7, hrv7_0, hC, hl0⟩ K19 hK19
    obtain ⟨m20', o23, rfl, hb, hl0⟩ := loopN_some hl0
    unfold F.ref30_Class_b0 at hb
    obtain ⟨rfl, hll5_0, hcl5_0⟩ := (hC.ow (i := 1) rfl).sl_len
    refine Wc.seq fun K24 hK24 => ?_
    refine Wc.seq fun K25 hK25 => ?_
    refine Wc.region (by decide +kernel) ?_
    refine lex.pure (v := .int .i64 v7_0) (pu_move e7) ?_
    refine lex.pure (v := .slice A7 y5.length c9) (pu_move e6) ?_
    refine lex.pure (v := .int .i64 (y5.length : Int)) (pu_len (A := A7) (n := y5.length) (m := c9) Try.underlying23 rfl) ?_
    refine lex.pure (v := .bool (decide (v7_0 < (y5.length : Int)))) (pu_lss (k := .i64) (a := v7_0) (b := (y5.length : Int)) rfl rfl) ?_
    refine lex.nil ?_
    refine hK25 _ _ ?_
    refine Wc.cond (t := (decide (v7_0 < (y5.length : Int)))) (rfl) (fun hq26 => ?_) (fun hq26 => ?_)
    · replace hb := (cT hq26).symm.trans hb
      refine Wc.skip ?_
      refine hK24 _ _ ?_
      refine Wc.seq fun K27 hK27 => ?_
      refine Wc.block ?_
      refine Wc.seq fun K28 hK28 => ?_
      refine Wc.region (by decide +kernel) ?_
      refine lex.pure (v := .slice A7 y5.length c9) (pu_move e6) ?_
      refine lex.pure (v := .int .i64 v7_0) (pu_move e7) ?_
      obtain ⟨x29, h30, hb⟩ := bd hb
      obtain ⟨ad31, cs32, hA, hc33, hr34⟩ := hC.elo (i := 2) rfl (get_some h30).2
      subst hA
      refine lex.pure (v := .pointer (some (ad31.add (v7_0.toNat * 1)))) (pu_index (a := v7_0) Try.underlying23 Try.sizeOf28 rfl rfl (get_some h30).1) ?_
      have hR := hr34
      obtain ⟨A35, c36, rfl, hl37, hc38, _⟩ := hr34
      replace hC := hC.ro hR
      clear hR
      refine lex.val (v := .slice A35 x29.length c36) (ld_one Try.isAgg28 rfl (hc33 0 _ rfl)) ?_
      obtain ⟨y40, h41, hb⟩ := bd hb
      refine lex.cl (⟨_, _, op_call (vs := [.slice A35 x29.length c36]) Try.call30 rfl rfl rfl, ref30_Type_ok n hC.lt (hC.rd (i := 0) rfl) h41⟩) ?_
      rintro _ w46 ⟨A42, m43, c44, rfl, hK⟩
      replace hC := hC.merge hK
      clear hK
      obtain ⟨rfl, hl47, hc48⟩ := (hC.ow (i := 0) rfl).sl_len
      refine lex.pure (v := .slice Acycles_1 cycles_1.length ccycles_1) (pu_move e1) ?_
      obtain ⟨y49, h50, hb⟩ := bd hb
      refine lex.cl (⟨_, _, op_call (vs := [.slice A42 y40.length c44, .slice Acycles_1 cycles_1.length ccycles_1]) Try.call43 rfl rfl rfl, ref01_Ints_ok n (hC.lentLt [.slice A42 y40.length c44]) ((hC.ow (i := 0) rfl).lend (vs := [.slice A42 y40.length c44]) (by simp)) ((hC.rd (i := 2) rfl).lent [.slice A42 y40.length c44]) h50⟩) ?_
      rintro _ w51 ⟨rfl, hK⟩
      replace hC := hC.mergeF hK rfl
      clear hK
      refine lex.nil ?_
      refine hK28 _ _ ?_
      refine Wc.fresh fun E52 hE => ?_
      have e1 : E52 1 = .slice Acycles_1 cycles_1.length ccycles_1 := (congrFun hE 1).trans e1
      have e4 : E52 4 = .slice none 0 0 := (congrFun hE 4).trans e4
      have e5 : E52 5 = .slice Al5_0 l5_0.length cl5_0 := (congrFun hE 5).trans e5
      have e6 : E52 6 = .slice (some ad31) y5.length c9 := (congrFun hE 6).trans e6
      have e7 : E52 7 = .int .i64 v7_0 := (congrFun hE 7).trans e7
      have e13 : E52 13 = .bool (decide (v7_0 < (y5.length : Int))) := (congrFun hE 13).trans rfl
      have e22 : E52 22 = .bool y49 := (congrFun hE 22).trans rfl
      clear hE
      refine Wc.cond (t := y49) (e22) (fun hq53 => ?_) (fun hq53 => ?_)
      · replace hb := (cT hq53).symm.trans hb
        refine Wc.region (by decide +kernel) ?_
        refine lex.pure (v := .slice Al5_0 l5_0.length cl5_0) (pu_move e5) ?_
        refine lex.pure (v := .slice (some ad31) y5.length c9) (pu_move e6) ?_
        refine lex.pure (v := .int .i64 v7_0) (pu_move e7) ?_
        obtain ⟨x54, h55, hb⟩ := bd hb
        obtain ⟨ad56, cs57, hA, hc58, hr59⟩ := hC.elo (i := 4) rfl (get_some h55).2
        obtain rfl := Option.some.inj hA
        refine lex.pure (v := .pointer (some (ad31.add (v7_0.toNat * 1)))) (pu_index (a := v7_0) Try.underlying23 Try.sizeOf28 rfl rfl (get_some h55).1) ?_
        have hR := hr59
        obtain ⟨A60, c61, rfl, hl62, hc63, _⟩ := hr59
        replace hC := hC.ro hR
        clear hR
        refine lex.val (v := .slice A60 x54.length c61) (ld_one Try.isAgg28 rfl (hc58 0 _ rfl)) ?_
        refine lex.op (hC.lit (s := (.sl (.int .i64))) (vs := [.slice A60 x54.length c61]) (xs := [x54]) Try.underlying23 Try.type28 rfl rfl (Nat.le_of_ble_eq_true rfl) rfl rfl (by simp [Value.cells, Sh.n]) rfl (show Elems _ _ (.sl (.int .i64)) ([.slice A60 x54.length c61] ++ ([])) ([x54] : List (List Int)) from Elems.cons (hC.rd (i := 0) rfl) (Elems.nil _ _ _))) ?_
        rintro _ w69 ⟨A65, c66, rfl, hl67, hc68, hC, hF, hN⟩
        clear hF hN
        obtain ⟨u71, h72, hb⟩ := bd hb
        refine lex.op (hC.app (i := 5) (s := (.sl (.int .i64))) (xs := l5_0) (ys := ([x54] : List (List Int))) (m := ((([x54] : List (List Int))).length)) rfl Try.underlying23 Try.underlying23 Try.type28 rfl rfl rfl (hC.srco (i := 0) rfl) rfl rfl (by have := lim_some h72; simp at this ⊢ <;> omega) (by decide)) ?_
        rintro _ w77 ⟨A73, c74, rfl, hl75, hc76, hC, hF, hN⟩
        clear hF hN
        refine lex.pure (v := .slice A73 ((l5_0 ++ ([x54] : List (List Int))).length) c74) (pu_assign rfl) ?_
        refine lex.nil ?_
        refine hK27 _ _ ?_
        refine Wc.region (by decide +kernel) ?_
        refine lex.pure (v := .int .i64 v7_0) (pu_move e7) ?_
        obtain ⟨z78, h79, hb⟩ := bd hb
        refine lex.pure (v := .int .i64 z78) (pu_addc (a := v7_0) (b := 1) rfl rfl h79) ?_
        refine lex.pure (v := .int .i64 z78) (pu_assign rfl) ?_
        refine lex.nil ?_
        obtain rfl := Option.some.inj hb
        exact hK19 m20' _ _ (Nat.lt_succ_self _) ⟨(l5_0 ++ ([x54] : List (List Int))), z78, A73, (l5_0 ++ ([x54] : List (List Int))).length, c74, e1, e4, rfl, e6, rfl, (chk_rng h79), hC.sel [4, 5, 6] (by decide), lN hl0⟩
      · replace hb := (cF hq53).symm.trans hb
        refine Wc.skip ?_
        refine hK27 _ _ ?_
        refine Wc.region (by decide +kernel) ?_
        refine lex.pure (v := .int .i64 v7_0) (pu_move e7) ?_
        obtain ⟨z80, h81, hb⟩ := bd hb
        refine lex.pure (v := .int .i64 z80) (pu_addc (a := v7_0) (b := 1) rfl rfl h81) ?_
        refine lex.pure (v := .int .i64 z80) (pu_assign rfl) ?_
        refine lex.nil ?_
        obtain rfl := Option.some.inj hb
        exact hK19 m20' _ _ (Nat.lt_succ_self _) ⟨l5_0, z80, Al5_0, l5_0.length, cl5_0, e1, e4, e5, e6, rfl, (chk_rng h81), hC.sel [2, 3, 4] (by decide), lN hl0⟩
    · replace hb := (cF hq26).symm.trans hb
      refine Wc.exit rfl ?_
      obtain rfl := Option.some.inj hb
      obtain rfl := (lX hl0).symm
      exact hK18 _ _ ⟨l5_0, v7_0, Al5_0, l5_0.length, cl5_0, e4, e5, hrv7_0, hC.sel [1] (by decide), hbK0⟩
  · clear hb hC hl0
    rintro E83 w82 ⟨l5_0, v7_0, Al5_0, ml5_0, cl5_0, e4, e5, hrv7_0, hC, hb⟩
    obtain ⟨rfl, hll5_0, hcl5_0⟩ := (hC.ow (i := 0) rfl).sl_len
    refine hK14 _ _ ?_
    refine Wc.seq fun K84 hK84 => ?_
    refine Wc.region (by decide +kernel) ?_
    refine lex.pure (v := .slice Al5_0 l5_0.length cl5_0) (pu_move e5) ?_
    refine lex.pure (v := .slice Al5_0 l5_0.length cl5_0) (pu_assign rfl) ?_
    refine lex.nil ?_
    refine hK84 _ _ ?_
    obtain rfl := Option.some.inj hb
    refine Wc.ret ?_
    refine hKR _ _ ?_
    refine ⟨_, res1 Try.results17 (show RV _ _ _ (.tmp _) (.slice Al5_0 l5_0.length cl5_0) from rfl), _, rfl, Al5_0, l5_0.length, cl5_0, rfl, hC.sel [0] (by decide)⟩

set_option maxRecDepth 100000 in
set_option maxHeartbeats 4000000 in
theorem law30_PermClass_ok (n : Nat) {w : World} {O0 : List Nat} (hO : ∀ k ∈ O0, k < w.heap.size) {nx_0 : Int} (hnx_0 : I64 nx_0) {Acycles_1 : Option Addr} {mcycles_1 ccycles_1 : Nat} {cycles_1 : List Int} (hcycles_1 : Rep O0 w (.sl (.int .i64)) [.slice Acycles_1 mcycles_1 ccycles_1] cycles_1) {r : Bool} (hb : F.law30_PermClass n nx_0 cycles_1 = some r) :
    Calls Try.prog 4 #[.int .i64 nx_0, .slice Acycles_1 mcycles_1 ccycles_1] w fun e w' => ∃ v, e = .returned v ∧ v = .bool r ∧ Cx (fun _ => False) O0 w w' [] := by
  unfold F.law30_PermClass at hb
  have hC := Cx.start hO
  replace hC := hC.arg rfl hcycles_1
  clear hO
  obtain ⟨rfl, hlcycles_1, hccycles_1⟩ := hcycles_1.sl_len
  refine calls_of_Wc Try.func4 rfl (by rw [Try.ntmps4]; exact Nat.le_of_ble_eq_true rfl) fun KR hKR => ?_
  refine Wc.seq fun K2 hK2 => ?_
  refine Wc.region (by decide +kernel) ?_
  refine lex.pure (v := .bool false) (pu_assign rfl) ?_
  refine lex.nil ?_
  refine hK2 _ _ ?_
  refine Wc.seqJ (fun E wv => E 0 = .int .i64 nx_0 ∧ E 1 = .slice Acycles_1 cycles_1.length ccycles_1 ∧ E 4 = .bool false ∧ Cx (fun _ => False) O0 w wv [.ro (.sl (.int .i64)) [.slice Acycles_1 cycles_1.length ccycles_1] cycles_1] ∧ F.law30_PermClass_j0 n nx_0 cycles_1 = some r) (fun K3 hK3 => ?_) ?_
  ·
    skip
    refine Wc.seq fun K4 hK4 => ?_
    refine Wc.region (by decide +kernel) ?_
    obtain ⟨y5, h6, hb⟩ := bd hb
    refine lex.cl (⟨_, _, op_call (vs := []) Try.call10 rfl rfl rfl, law30_awake_ok n hC.lt  h6⟩) ?_
    rintro _ w7 ⟨rfl, hK⟩
    replace hC := hC.merge hK
    clear hK
    refine lex.pure (v := .bool (!y5)) (pu_not (q := y5) rfl) ?_
    refine lex.pure (v := .bool (!y5)) (pu_move rfl) ?_
    rcases bS (!y5) with hq8 | hq8
    · replace hb := (cT hq8).symm.trans hb
      refine lex.gskip (want_f rfl rfl (show _ = Value.bool (!y5) from rfl) hq8) ?_
      refine lex.gskip (want_f rfl rfl (show _ = Value.bool (!y5) from rfl) hq8) ?_
      refine lex.gskip (want_f rfl rfl (show _ = Value.bool (!y5) from rfl) hq8) ?_
      refine lex.gskip (want_n rfl rfl rfl) ?_
      refine lex.gskip (want_n rfl rfl rfl) ?_
      refine lex.gskip (want_f rfl rfl (show _ = Value.bool (!y5) from rfl) hq8) ?_
      refine lex.pure (v := .bool true) (pu_pickT (q := (!y5)) rfl hq8 rfl) ?_
      refine lex.pure (v := .bool true) (pu_move rfl) ?_
      refine lex.gskip (want_f rfl rfl (show _ = Value.bool true from rfl) rfl) ?_
      refine lex.gskip (want_f rfl rfl (show _ = Value.bool true from rfl) rfl) ?_
      refine lex.gskip (want_f rfl rfl (show _ = Value.bool true from rfl) rfl) ?_
      refine lex.pure (v := .bool true) (pu_pickT (q := true) rfl rfl rfl) ?_
      refine lex.nil ?_
      refine hK4 _ _ ?_
      refine Wc.cond_true (rfl) ?_
      refine Wc.seq fun K9 hK9 => ?_
      refine Wc.region (by decide +kernel) ?_
      obtain ⟨y10, h11, hb⟩ := bd hb
      refine lex.cl (⟨_, _, op_call (vs := []) Try.call10 rfl rfl rfl, law30_awake_ok n hC.lt  h11⟩) ?_
      rintro _ w12 ⟨rfl, hK⟩
      replace hC := hC.merge hK
      clear hK
      refine lex.pure (v := .bool y10) (pu_assign rfl) ?_
      refine lex.nil ?_
      refine hK9 _ _ ?_
      obtain rfl := Option.some.inj hb
      refine Wc.ret ?_
      refine hKR _ _ ?_
      refine ⟨_, res1 Try.results4 (show RV _ _ _ (.tmp _) (.bool y10) from rfl), _, rfl, rfl, hC.sel [] (by decide)⟩
    · replace hb := (cF hq8).symm.trans hb
      refine lex.gpure (want_t rfl rfl (show _ = Value.bool (!y5) from rfl) hq8) (v := .int .i64 nx_0) (pu_move rfl) ?_
      refine lex.gpure (want_t rfl rfl (show _ = Value.bool (!y5) from rfl) hq8) (v := .bool (decide (6 < nx_0))) (pu_gtr (k := .i64) (a := nx_0) (b := 6) rfl rfl) ?_
      refine lex.gpure (want_t rfl rfl (show _ = Value.bool (!y5) from rfl) hq8) (v := .bool (decide (6 < nx_0))) (pu_move rfl) ?_
      rcases bS (decide (6 < nx_0)) with hq13 | hq13
      · replace hb := (cT hq13).symm.trans hb
        refine lex.gpure (want_t rfl rfl (show _ = Value.bool (decide (6 < nx_0)) from rfl) hq13) (v := .int .i64 nx_0) (pu_move rfl) ?_
        refine lex.gpure (want_t rfl rfl (show _ = Value.bool (decide (6 < nx_0)) from rfl) hq13) (v := .bool (decide (nx_0 ≤ 8))) (pu_leq (k := .i64) (a := nx_0) (b := 8) rfl rfl) ?_
        refine lex.gpure (want_t rfl rfl (show _ = Value.bool (!y5) from rfl) hq8) (v := .bool (decide (nx_0 ≤ 8))) (pu_pickT (q := (decide (6 < nx_0))) rfl hq13 rfl) ?_
        refine lex.pure (v := .bool (decide (nx_0 ≤ 8))) (pu_pickF (q := (!y5)) rfl hq8 rfl) ?_
        refine lex.pure (v := .bool (decide (nx_0 ≤ 8))) (pu_move rfl) ?_
        rcases bS (decide (nx_0 ≤ 8)) with hq14 | hq14
        · replace hb := (cT hq14).symm.trans hb
          refine lex.gskip (want_f rfl rfl (show _ = Value.bool (decide (nx_0 ≤ 8)) from rfl) hq14) ?_
          refine lex.gskip (want_f rfl rfl (show _ = Value.bool (decide (nx_0 ≤ 8)) from rfl) hq14) ?_
          refine lex.gskip (want_f rfl rfl (show _ = Value.bool (decide (nx_0 ≤ 8)) from rfl) hq14) ?_
          refine lex.pure (v := .bool true) (pu_pickT (q := (decide (nx_0 ≤ 8))) rfl hq14 rfl) ?_
          refine lex.nil ?_
          refine hK4 _ _ ?_
          refine Wc.fresh fun E15 hE => ?_
          have e0 : E15 0 = .int .i64 nx_0 := (congrFun hE 0).trans rfl
          have e1 : E15 1 = .slice Acycles_1 cycles_1.length ccycles_1 := (congrFun hE 1).trans rfl
          have e4 : E15 4 = .bool false := (congrFun hE 4).trans rfl
          have e21 : E15 21 = .bool true := (congrFun hE 21).trans rfl
          clear hE
          refine Wc.cond_true (e21) ?_
          refine Wc.seq fun K16 hK16 => ?_
          refine Wc.region (by decide +kernel) ?_
          obtain ⟨y17, h18, hb⟩ := bd hb
          refine lex.cl (⟨_, _, op_call (vs := []) Try.call10 rfl rfl rfl, law30_awake_ok n hC.lt  h18⟩) ?_
          rintro _ w19 ⟨rfl, hK⟩
          replace hC := hC.merge hK
          clear hK
          refine lex.pure (v := .bool y17) (pu_assign rfl) ?_
          refine lex.nil ?_
          refine hK16 _ _ ?_
          obtain rfl := Option.some.inj hb
          refine Wc.ret ?_
          refine hKR _ _ ?_
          refine ⟨_, res1 Try.results4 (show RV _ _ _ (.tmp _) (.bool y17) from rfl), _, rfl, rfl, hC.sel [] (by decide)⟩
        · replace hb := (cF hq14).symm.trans hb
          refine lex.gpure (want_t rfl rfl (show _ = Value.bool (decide (nx_0 ≤ 8)) from rfl) hq14) (v := .slice Acycles_1 cycles_1.length ccycles_1) (pu_move rfl) ?_
          refine lex.gpure (want_t rfl rfl (show _ = Value.bool (decide (nx_0 ≤ 8)) from rfl) hq14) (v := .int .i64 (cycles_1.length : Int)) (pu_len (A := Acycles_1) (n := cycles_1.length) (m := ccycles_1) Try.underlying28 rfl) ?_
          refine lex.gpure (want_t rfl rfl (show _ = Value.bool (decide (nx_0 ≤ 8)) from rfl) hq14) (v := .bool (decide (30 < (cycles_1.length : Int)))) (pu_gtr (k := .i64) (a := (cycles_1.length : Int)) (b := 30) rfl rfl) ?_
          refine lex.pure (v := .bool (decide (30 < (cycles_1.length : Int)))) (pu_pickF (q := (decide (nx_0 ≤ 8))) rfl hq14 rfl) ?_
          refine lex.nil ?_
          refine hK4 _ _ ?_
          refine Wc.fresh fun E20 hE => ?_
          have e0 : E20 0 = .int .i64 nx_0 := (congrFun hE 0).trans rfl
          have e1 : E20 1 = .slice Acycles_1 cycles_1.length ccycles_1 := (congrFun hE 1).trans rfl
          have e4 : E20 4 = .bool false := (congrFun hE 4).trans rfl
          have e21 : E20 21 = .bool (decide (30 < (cycles_1.length : Int))) := (congrFun hE 21).trans rfl
          clear hE
          refine Wc.cond (t := (decide (30 < (cycles_1.length : Int)))) (e21) (fun hq21 => ?_) (fun hq21 => ?_)
          · replace hb := (cT hq21).symm.trans hb
            refine Wc.seq fun K22 hK22 => ?_
            refine Wc.region (by decide +kernel) ?_
            obtain ⟨y23, h24, hb⟩ := bd hb
            refine lex.cl (⟨_, _, op_call (vs := []) Try.call10 rfl rfl rfl, law30_awake_ok n hC.lt  h24⟩) ?_
            rintro _ w25 ⟨rfl, hK⟩
            replace hC := hC.merge hK
            clear hK
            refine lex.pure (v := .bool y23) (pu_assign rfl) ?_
            refine lex.nil ?_
            refine hK22 _ _ ?_
            obtain rfl := Option.some.inj hb
            refine Wc.ret ?_
            refine hKR _ _ ?_
            refine ⟨_, res1 Try.results4 (show RV _ _ _ (.tmp _) (.bool y23) from rfl), _, rfl, rfl, hC.sel [] (by decide)⟩
          · replace hb := (cF hq21).symm.trans hb
            refine Wc.skip ?_
            exact hK3 _ _ ⟨e0, e1, e4, hC.sel [0] (by decide), hb⟩
      · replace hb := (cF hq13).symm.trans hb
        refine lex.gskip (want_f rfl rfl (show _ = Value.bool (decide (6 < nx_0)) from rfl) hq13) ?_
        refine lex.gskip (want_f rfl rfl (show _ = Value.bool (decide (6 < nx_0)) from rfl) hq13) ?_
        refine lex.gpure (want_t rfl rfl (show _ = Value.bool (!y5) from rfl) hq8) (v := .bool false) (pu_pickF (q := (decide (6 < nx_0))) rfl hq13 rfl) ?_
        refine lex.pure (v := .bool false) (pu_pickF (q := (!y5)) rfl hq8 rfl) ?_
        refine lex.pure (v := .bool false) (pu_move rfl) ?_
        refine lex.gpure (want_t rfl rfl (show _ = Value.bool false from rfl) rfl) (v := .slice Acycles_1 cycles_1.length ccycles_1) (pu_move rfl) ?_
        refine lex.gpure (want_t rfl rfl (show _ = Value.bool false from rfl) rfl) (v := .int .i64 (cycles_1.length : Int)) (pu_len (A := Acycles_1) (n := cycles_1.length) (m := ccycles_1) Try.underlying28 rfl) ?_
        refine lex.gpure (want_t rfl rfl (show _ = Value.bool false from rfl) rfl) (v := .bool (decide (30 < (cycles_1.length : Int)))) (pu_gtr (k := .i64) (a := (cycles_1.length : Int)) (b := 30) rfl rfl) ?_
        refine lex.pure (v := .bool (decide (30 < (cycles_1.length : Int)))) (pu_pickF (q := false) rfl rfl rfl) ?_
        refine lex.nil ?_
        refine hK4 _ _ ?_
        refine Wc.fresh fun E26 hE => ?_
        have e0 : E26 0 = .int .i64 nx_0 := (congrFun hE 0).trans rfl
        have e1 : E26 1 = .slice Acycles_1 cycles_1.length ccycles_1 := (congrFun hE 1).trans rfl
        have e4 : E26 4 = .bool false := (congrFun hE 4).trans rfl
        have e21 : E26 21 = .bool (decide (30 < (cycles_1.length : Int))) := (congrFun hE 21).trans rfl
        clear hE
        refine Wc.cond (t := (decide (30 < (cycles_1.length : Int)))) (e21) (fun hq27 => ?_) (fun hq27 => ?_)
        · replace hb := (cT hq27).symm.trans hb
          refine Wc.seq fun K28 hK28 => ?_
          refine Wc.region (by decide +kernel) ?_
          obtain ⟨y29, h30, hb⟩ := bd hb
          refine lex.cl (⟨_, _, op_call (vs := []) Try.call10 rfl rfl rfl, law30_awake_ok n hC.lt  h30⟩) ?_
          rintro _ w31 ⟨rfl, hK⟩
          replace hC := hC.merge hK
          clear hK
          refine lex.pure (v := .bool y29) (pu_assign rfl) ?_
          refine lex.nil ?_
          refine hK28 _ _ ?_
          obtain rfl := Option.some.inj hb
          refine Wc.ret ?_
          refine hKR _ _ ?_
          refine ⟨_, res1 Try.results4 (show RV _ _ _ (.tmp _) (.bool y29) from rfl), _, rfl, rfl, hC.sel [] (by decide)⟩
        · replace hb := (cF hq27).symm.trans hb
          refine Wc.skip ?_
          exact hK3 _ _ ⟨e0, e1, e4, hC.sel [0] (by decide), hb⟩
  · clear hb hC
    rintro E33 w32 ⟨e0, e1, e4, hC, hb⟩
    unfold F.law30_PermClass_j0 at hb
    refine Wc.seq fun K34 hK34 => ?_
    refine Wc.region (by decide +kernel) ?_
    refine lex.pure (v := .int .i64 nx_0) (pu_move e0) ?_
    refine lex.pure (v := .slice Acycles_1 cycles_1.length ccycles_1) (pu_move e1) ?_
    obtain ⟨y35, h36, hb⟩ := bd hb
    refine lex.cl (⟨_, _, op_call (vs := [.int .i64 nx_0, .slice Acycles_1 cycles_1.length ccycles_1]) Try.call14 rfl rfl rfl, perm_Class_ok n hC.lt hnx_0 (hC.rd (i := 0) rfl) h36⟩) ?_
    rintro _ w42 ⟨A37, m38, c39, rfl, hr41, hK⟩
    replace hC := hC.merge hK
    clear hK
    obtain ⟨rfl, hl43, hc44⟩ := (hC.ow (i := 0) rfl).sl_len
    refine lex.pure (v := .tuple #[.slice A37 y35.1.length c39, .int .i64 y35.2]) (pu_move rfl) ?_
    refine lex.pure (v := .slice A37 y35.1.length c39) (pu_extract rfl rfl) ?_
    refine lex.pure (v := .int .i64 y35.2) (pu_extract rfl rfl) ?_
    refine lex.pure (v := .slice A37 y35.1.length c39) (pu_assign rfl) ?_
    refine lex.pure (v := .int .i64 y35.2) (pu_assign rfl) ?_
    refine lex.nil ?_
    refine hK34 _ _ ?_
    refine Wc.seq fun K45 hK45 => ?_
    refine Wc.block ?_
    refine Wc.seqJ (fun E wv => ∃ (v29_1 : Bool), E 0 = .int .i64 nx_0 ∧ E 1 = .slice Acycles_1 cycles_1.length ccycles_1 ∧ E 4 = .bool false ∧ E 5 = .slice A37 y35.1.length c39 ∧ E 6 = .int .i64 y35.2 ∧ E 29 = .bool v29_1 ∧ Cx (fun _ => False) O0 w wv [.ro (.sl (.int .i64)) [.slice Acycles_1 cycles_1.length ccycles_1] cycles_1, .own 29 (.sl (.int .i64)) (.slice A37 y35.1.length c39) y35.1] ∧ F.law30_PermClass_j1 n nx_0 cycles_1 y35 v29_1 = some r) (fun K46 hK46 => ?_) ?_
    ·
      skip
      refine Wc.region (by decide +kernel) ?_
      refine lex.pure (v := .int .i64 nx_0) (pu_move e0) ?_
      refine lex.pure (v := .bool (decide (nx_0 < 1))) (pu_lss (k := .i64) (a := nx_0) (b := 1) rfl rfl) ?_
      refine lex.pure (v := .bool (decide (nx_0 < 1))) (pu_move rfl) ?_
      rcases bS (decide (nx_0 < 1)) with hq47 | hq47
      · replace hb := (cT hq47).symm.trans hb
        refine lex.gskip (want_f rfl rfl (show _ = Value.bool (decide (nx_0 < 1)) from rfl) hq47) ?_
        refine lex.gskip (want_f rfl rfl (show _ = Value.bool (decide (nx_0 < 1)) from rfl) hq47) ?_
        refine lex.pure (v := .bool true) (pu_pickT (q := (decide (nx_0 < 1))) rfl hq47 rfl) ?_
        refine lex.pure (v := .bool true) (pu_assign rfl) ?_
        refine lex.nil ?_
        exact hK46 _ _ ⟨true, e0, e1, e4, rfl, rfl, rfl, hC.sel [1, 0] (by decide), hb⟩
      · replace hb := (cF hq47).symm.trans hb
        refine lex.gpure (want_t rfl rfl (show _ = Value.bool (decide (nx_0 < 1)) from rfl) hq47) (v := .int .i64 nx_0) (pu_move e0) ?_
        refine lex.gpure (want_t rfl rfl (show _ = Value.bool (decide (nx_0 < 1)) from rfl) hq47) (v := .bool (decide (8 < nx_0))) (pu_gtr (k := .i64) (a := nx_0) (b := 8) rfl rfl) ?_
        refine lex.pure (v := .bool (decide (8 < nx_0))) (pu_pickF (q := (decide (nx_0 < 1))) rfl hq47 rfl) ?_
        refine lex.pure (v := .bool (decide (8 < nx_0))) (pu_assign rfl) ?_
        refine lex.nil ?_
        exact hK46 _ _ ⟨(decide (8 < nx_0)), e0, e1, e4, rfl, rfl, rfl, hC.sel [1, 0] (by decide), hb⟩
    · clear hb hC
      rintro E49 w48 ⟨v29_1, e0, e1, e4, e5, e6, e29, hC, hb⟩
      unfold F.law30_PermClass_j1 at hb
      refine Wc.cond (t := v29_1) (e29) (fun hq50 => ?_) (fun hq50 => ?_)
      · replace hb := (cT hq50).symm.trans hb
        refine Wc.seq fun K51 hK51 => ?_
        refine Wc.region (by decide +kernel) ?_
        refine lex.pure (v := .int .i64 y35.2) (pu_move e6) ?_
        refine lex.pure (v := .bool (decide (y35.2 = 2))) (pu_eql (k := .i64) (a := y35.2) (b := 2) rfl rfl) ?_
        refine lex.pure (v := .bool (decide (y35.2 = 2))) (pu_move rfl) ?_
        rcases bS (decide (y35.2 = 2)) with hq52 | hq52
        · replace hb := (cT hq52).symm.trans hb
          refine lex.gpure (want_t rfl rfl (show _ = Value.bool (decide (y35.2 = 2)) from rfl) hq52) (v := .slice A37 y35.1.length c39) (pu_move e5) ?_
          refine lex.gpure (want_t rfl rfl (show _ = Value.bool (decide (y35.2 = 2)) from rfl) hq52) (v := .int .i64 (y35.1.length : Int)) (pu_len (A := A37) (n := y35.1.length) (m := c39) Try.underlying32 rfl) ?_
          refine lex.gpure (want_t rfl rfl (show _ = Value.bool (decide (y35.2 = 2)) from rfl) hq52) (v := .bool (decide ((y35.1.length : Int) = 0))) (pu_eql (k := .i64) (a := (y35.1.length : Int)) (b := 0) rfl rfl) ?_
          refine lex.pure (v := .bool (decide ((y35.1.length : Int) = 0))) (pu_pickT (q := (decide (y35.2 = 2))) rfl hq52 rfl) ?_
          refine lex.pure (v := .bool (decide ((y35.1.length : Int) = 0))) (pu_assign rfl) ?_
          refine lex.nil ?_
          refine hK51 _ _ ?_
          obtain rfl := Option.some.inj hb
          refine Wc.ret ?_
          refine hKR _ _ ?_
          refine ⟨_, res1 Try.results4 (show RV _ _ _ (.tmp _) (.bool (decide ((y35.1.length : Int) = 0))) from rfl), _, rfl, rfl, hC.sel [] (by decide)⟩
        · replace hb := (cF hq52).symm.trans hb
          refine lex.gskip (want_f rfl rfl (show _ = Value.bool (decide (y35.2 = 2)) from rfl) hq52) ?_
          refine lex.gskip (want_f rfl rfl (show _ = Value.bool (decide (y35.2 = 2)) from rfl) hq52) ?_
          refine lex.gskip (want_f rfl rfl (show _ = Value.bool (decide (y35.2 = 2)) from rfl) hq52) ?_
          refine lex.pure (v := .bool false) (pu_pickF (q := (decide (y35.2 = 2))) rfl hq52 rfl) ?_
          refine lex.pure (v := .bool false) (pu_assign rfl) ?_
          refine lex.nil ?_
          refine hK51 _ _ ?_
          obtain rfl := Option.some.inj hb
          refine Wc.ret ?_
          refine hKR _ _ ?_
          refine ⟨_, res1 Try.results4 (show RV _ _ _ (.tmp _) (.bool false) from rfl), _, rfl, rfl, hC.sel [] (by decide)⟩
      · replace hb := (cF hq50).symm.trans hb
        refine Wc.seq fun K53 hK53 => ?_
        refine Wc.region (by decide +kernel) ?_
        refine lex.pure (v := .slice Acycles_1 cycles_1.length ccycles_1) (pu_move e1) ?_
        refine lex.pure (v := .int .i64 nx_0) (pu_move e0) ?_
        obtain ⟨y54, h55, hb⟩ := bd hb
        refine lex.cl (⟨_, _, op_call (vs := [.slice Acycles_1 cycles_1.length ccycles_1, .int .i64 nx_0]) Try.call15 rfl rfl rfl, ref30_Partition_ok n hC.lt (hC.rd (i := 0) rfl) hnx_0 h55⟩) ?_
        rintro _ w56 ⟨rfl, hK⟩
        replace hC := hC.merge hK
        clear hK
        refine lex.pure (v := .bool (!y54)) (pu_not (q := y54) rfl) ?_
        refine lex.pure (v := .bool (!y54)) (pu_assign rfl) ?_
        refine lex.nil ?_
        refine hK53 _ _ ?_
        refine Wc.cond (t := (!y54)) (rfl) (fun hq57 => ?_) (fun hq57 => ?_)
        · replace hb := (cT hq57).symm.trans hb
          refine Wc.seq fun K58 hK58 => ?_
          refine Wc.region (by decide +kernel) ?_
          refine lex.pure (v := .int .i64 y35.2) (pu_move e6) ?_
          refine lex.pure (v := .bool (decide (y35.2 = 1))) (pu_eql (k := .i64) (a := y35.2) (b := 1) rfl rfl) ?_
          refine lex.pure (v := .bool (decide (y35.2 = 1))) (pu_move rfl) ?_
          rcases bS (decide (y35.2 = 1)) with hq59 | hq59
          · replace hb := (cT hq59).symm.trans hb
            refine lex.gpure (want_t rfl rfl (show _ = Value.bool (decide (y35.2 = 1)) from rfl) hq59) (v := .slice A37 y35.1.length c39) (pu_move e5) ?_
            refine lex.gpure (want_t rfl rfl (show _ = Value.bool (decide (y35.2 = 1)) from rfl) hq59) (v := .int .i64 (y35.1.length : Int)) (pu_len (A := A37) (n := y35.1.length) (m := c39) Try.underlying32 rfl) ?_
            refine lex.gpure (want_t rfl rfl (show _ = Value.bool (decide (y35.2 = 1)) from rfl) hq59) (v := .bool (decide ((y35.1.length : Int) = 0))) (pu_eql (k := .i64) (a := (y35.1.length : Int)) (b := 0) rfl rfl) ?_
            refine lex.pure (v := .bool (decide ((y35.1.length : Int) = 0))) (pu_pickT (q := (decide (y35.2 = 1))) rfl hq59 rfl) ?_
            refine lex.pure (v := .bool (decide ((y35.1.length : Int) = 0))) (pu_assign rfl) ?_
            refine lex.nil ?_
            refine hK58 _ _ ?_
            obtain rfl := Option.some.inj hb
            refine Wc.ret ?_
            refine hKR _ _ ?_
            refine ⟨_, res1 Try.results4 (show RV _ _ _ (.tmp _) (.bool (decide ((y35.1.length : Int) = 0))) from rfl), _, rfl, rfl, hC.sel [] (by decide)⟩
          · replace hb := (cF hq59).symm.trans hb
            refine lex.gskip (want_f rfl rfl (show _ = Value.bool (decide (y35.2 = 1)) from rfl) hq59) ?_
            refine lex.gskip (want_f rfl rfl (show _ = Value.bool (decide (y35.2 = 1)) from rfl) hq59) ?_
            refine lex.gskip (want_f rfl rfl (show _ = Value.bool (decide (y35.2 = 1)) from rfl) hq59) ?_
            refine lex.pure (v := .bool false) (pu_pickF (q := (decide (y35.2 = 1))) rfl hq59 rfl) ?_
            refine lex.pure (v := .bool false) (pu_assign rfl) ?_
            refine lex.nil ?_
            refine hK58 _ _ ?_
            obtain rfl := Option.some.inj hb
            refine Wc.ret ?_
            refine hKR _ _ ?_
            refine ⟨_, res1 Try.results4 (show RV _ _ _ (.tmp _) (.bool false) from rfl), _, rfl, rfl, hC.sel [] (by decide)⟩
        · replace hb := (cF hq57).symm.trans hb
          refine Wc.skip ?_
          refine hK45 _ _ ?_
          refine Wc.seq fun K60 hK60 => ?_
          refine Wc.region (by decide +kernel) ?_
          refine lex.pure (v := .int .i64 y35.2) (pu_move e6) ?_
          refine lex.pure (v := .bool (decide (y35.2 = 0))) (pu_eql (k := .i64) (a := y35.2) (b := 0) rfl rfl) ?_
          refine lex.pure (v := .bool (decide (y35.2 = 0))) (pu_move rfl) ?_
          rcases bS (decide (y35.2 = 0)) with hq61 | hq61
          · replace hb := (cT hq61).symm.trans hb
            refine lex.gpure (want_t rfl rfl (show _ = Value.bool (decide (y35.2 = 0)) from rfl) hq61) (v := .slice A37 y35.1.length c39) (pu_move e5) ?_
            replace hC := hC.freeze (i := 1) rfl (hC.own_new (i := 1) rfl)
            obtain ⟨y62, h63, hb⟩ := bd hb
            refine lex.gcl (want_t rfl rfl (show _ = Value.bool (decide (y35.2 = 0)) from rfl) hq61) (⟨_, _, op_call (vs := [.slice A37 y35.1.length c39]) Try.call16 rfl rfl rfl, law30_plain_ok n hC.lt (hC.rd (i := 1) rfl) h63⟩) ?_
            rintro _ w68 ⟨A64, m65, c66, rfl, hK⟩
            replace hC := hC.merge hK
            clear hK
            obtain ⟨rfl, hl69, hc70⟩ := (hC.ow (i := 0) rfl).sl_len
            refine lex.gpure (want_t rfl rfl (show _ = Value.bool (decide (y35.2 = 0)) from rfl) hq61) (v := .int .i64 nx_0) (pu_move e0) ?_
            refine lex.gpure (want_t rfl rfl (show _ = Value.bool (decide (y35.2 = 0)) from rfl) hq61) (v := .slice Acycles_1 cycles_1.length ccycles_1) (pu_move e1) ?_
            obtain ⟨y71, h72, hb⟩ := bd hb
            refine lex.gcl (want_t rfl rfl (show _ = Value.bool (decide (y35.2 = 0)) from rfl) hq61) (⟨_, _, op_call (vs := [.int .i64 nx_0, .slice Acycles_1 cycles_1.length ccycles_1]) Try.call17 rfl rfl rfl, ref30_Class_ok n hC.lt hnx_0 (hC.rd (i := 1) rfl) h72⟩) ?_
            rintro _ w77 ⟨A73, m74, c75, rfl, hK⟩
            replace hC := hC.merge hK
            clear hK
            obtain ⟨rfl, hl78, hc79⟩ := (hC.ow (i := 0) rfl).sl_len
            obtain ⟨y80, h81, hb⟩ := bd hb
            refine lex.gcl (want_t rfl rfl (show _ = Value.bool (decide (y35.2 = 0)) from rfl) hq61) (⟨_, _, op_call (vs := [.slice A64 y62.length c66, .slice A73 y71.length c75]) Try.call13 rfl rfl rfl, ref01_Lists_ok n (hC.lentLt [.slice A64 y62.length c66, .slice A73 y71.length c75]) ((hC.ow (i := 1) rfl).lend (vs := [.slice A64 y62.length c66, .slice A73 y71.length c75]) (by simp)) ((hC.ow (i := 0) rfl).lend (vs := [.slice A64 y62.length c66, .slice A73 y71.length c75]) (by simp)) h81⟩) ?_
            rintro _ w82 ⟨rfl, hK⟩
            replace hC := hC.mergeF hK rfl
            clear hK
            refine lex.pure (v := .bool y80) (pu_pickT (q := (decide (y35.2 = 0))) rfl hq61 rfl) ?_
            refine lex.pure (v := .bool y80) (pu_assign rfl) ?_
            refine lex.nil ?_
            refine hK60 _ _ ?_
            obtain rfl := Option.some.inj hb
            refine Wc.ret ?_
            refine hKR _ _ ?_
            refine ⟨_, res1 Try.results4 (show RV _ _ _ (.tmp _) (.bool y80) from rfl), _, rfl, rfl, hC.sel [] (by decide)⟩
          · replace hb := (cF hq61).symm.trans hb
            refine lex.gskip (want_f rfl rfl (show _ = Value.bool (decide (y35.2 = 0)) from rfl) hq61) ?_
            refine lex.gskip (want_f rfl rfl (show _ = Value.bool (decide (y35.2 = 0)) from rfl) hq61) ?_
            refine lex.gskip (want_f rfl rfl (show _ = Value.bool (decide (y35.2 = 0)) from rfl) hq61) ?_
            refine lex.gskip (want_f rfl rfl (show _ = Value.bool (decide (y35.2 = 0)) from rfl) hq61) ?_
            refine lex.gskip (want_f rfl rfl (show _ = Value.bool (decide (y35.2 = 0)) from rfl) hq61) ?_
            refine lex.gskip (want_f rfl rfl (show _ = Value.bool (decide (y35.2 = 0)) from rfl) hq61) ?_
            refine lex.pure (v := .bool false) (pu_pickF (q := (decide (y35.2 = 0))) rfl hq61 rfl) ?_
            refine lex.pure (v := .bool false) (pu_assign rfl) ?_
            refine lex.nil ?_
            refine hK60 _ _ ?_
            obtain rfl := Option.some.inj hb
            refine Wc.ret ?_
            refine hKR _ _ ?_
            refine ⟨_, res1 Try.results4 (show RV _ _ _ (.tmp _) (.bool false) from rfl), _, rfl, rfl, hC.sel [] (by decide)⟩
end Go.Proofs.Ytmlkiafidahnbaa
