/- The walks: part 12. -/
import Derived.Test.YtlkmcbgkohpmiaaS
import Derived.Test.YtlkmcbgkohpmiaaG10
set_option linter.unusedVariables false
set_option linter.unusedSimpArgs false
namespace Go.Proofs.Ytlkmcbgkohpmiaa
open Ev
set_option maxRecDepth 100000 in
set_option maxHeartbeats 4000000 in
theorem law35_lists_ok (n : Nat) {w : World} {O0 : List Nat} (hO : ∀ k ∈ O0, k < w.heap.size) {Al_0 : Option Addr} {ml_0 cl_0 : Nat} {l_0 : List (List Int)} (hl_0 : Rep O0 w (.sl (.sl (.int .i64))) [.slice Al_0 ml_0 cl_0] l_0) {r : (List (List Int))} (hb : F.law35_lists n l_0 = some r) :
    Calls Try.prog 19 #[.slice Al_0 ml_0 cl_0] w fun e w' => ∃ v, e = .returned v ∧ ∃ (A0 : Option Addr) (m0 c0 : Nat), v = .slice A0 m0 c0 ∧ Cx (fun _ => False) O0 w w' [.own 22 (.sl (.int .i64)) (.slice A0 m0 c0) r] := by
  unfold F.law35_lists at hb
  have hC := Cx.start hO
  replace hC := hC.arg rfl hl_0
  clear hO
  obtain ⟨rfl, hll_0, hcl_0⟩ := hl_0.sl_len
  refine calls_of_Wc Try.func19 rfl (by rw [Try.ntmps19]; exact Nat.le_of_ble_eq_true rfl) fun KR hKR => ?_
  refine Wc.seq fun K2 hK2 => ?_
  refine Wc.region (by decide +kernel) ?_
  refine lex.pure (v := .slice none 0 0) (pu_assign rfl) ?_
  refine lex.nil ?_
  refine hK2 _ _ ?_
  refine Wc.seq fun K3 hK3 => ?_
  refine Wc.region (by decide +kernel) ?_
  refine lex.pure (v := .slice none 0 0) (pu_assign rfl) ?_
  refine lex.nil ?_
  refine hK3 _ _ ?_
  refine Wc.seq fun K4 hK4 => ?_
  refine Wc.seq fun K5 hK5 => ?_
  refine Wc.region (by decide +kernel) ?_
  refine lex.pure (v := .slice Al_0 l_0.length cl_0) (pu_move rfl) ?_
  refine lex.pure (v := .int .i64 (l_0.length : Int)) (pu_len (A := Al_0) (n := l_0.length) (m := cl_0) Try.underlying37 rfl) ?_
  refine lex.pure (v := .int .i64 0) (pu_move rfl) ?_
  refine lex.nil ?_
  refine hK5 _ _ ?_
  replace hC := hC.nil 22 (.sl (.int .i64))
  obtain ⟨o7, hl0, hb⟩ := bd hb
  refine Wc.cut (fun E wv => ∃ (l3_0 : List (List Int)) (v8_0 : Int) (Al3_0 : Option Addr) (ml3_0 cl3_0 : Nat), E 2 = .slice none 0 0 ∧ E 3 = .slice Al3_0 ml3_0 cl3_0 ∧ I64 v8_0 ∧ Cx (fun _ => False) O0 w wv [.own 22 (.sl (.int .i64)) (.slice Al3_0 ml3_0 cl3_0) l3_0] ∧ (some l3_0 : Option ((List (List Int)))) = some r) (fun K8 hK8 => ?_) ?_
  · refine Wc.block ?_
    refine Wc.loop (fun m E wv => ∃ (l3_0 : List (List Int)) (v8_0 : Int) (Al3_0 : Option Addr) (ml3_0 cl3_0 : Nat), E 2 = .slice none 0 0 ∧ E 3 = .slice Al3_0 ml3_0 cl3_0 ∧ E 6 = .slice Al_0 l_0.length cl_0 ∧ E 7 = .int .i64 (l_0.length : Int) ∧ E 8 = .int .i64 v8_0 ∧ I64 v8_0 ∧ Cx (fun _ => False) O0 w wv [.own 22 (.sl (.int .i64)) (.slice Al3_0 ml3_0 cl3_0) l3_0, .ro (.sl (.sl (.int .i64))) [.slice Al_0 l_0.length cl_0] l_0] ∧ loopN m (F.law35_lists_b0 n l_0) (l3_0, v8_0) = some o7) n ⟨([] : List (List Int)), 0, none, 0, 0, rfl, rfl, rfl, rfl, rfl, (show I64 0 from by unfold I64; omega), hC.sel [0, 1] (by decide), hl0⟩ ?_
    have hbK0 := hb
    clear hb hC hl0
    rintro m10 E12 w11 ⟨l3_0, v8_0, Al3_0, ml3_0, cl3_0, e2, e3, e6, e7, e8, hrv8_0, hC, hl0⟩ K9 hK9
    obtain ⟨m10', o13, rfl, hb, hl0⟩ := loopN_some hl0
    unfold F.law35_lists_b0 at hb
    obtain ⟨rfl, hll3_0, hcl3_0⟩ := (hC.ow (i := 0) rfl).sl_len
    refine Wc.seq fun K14 hK14 => ?_
    refine Wc.region (by decide +kernel) ?_
    refine lex.pure (v := .bool (decide (v8_0 < (l_0.length : Int)))) (pu_lss (k := .i64) (a := v8_0) (b := (l_0.length : Int)) e8 e7) ?_
    refine lex.nil ?_
    refine hK14 _ _ ?_
    refine Wc.seq fun K15 hK15 => ?_
    refine Wc.cond (t := (decide (v8_0 < (l_0.length : Int)))) (rfl) (fun hq16 => ?_) (fun hq16 => ?_)
    · replace hb := (cT hq16).symm.trans hb
      refine Wc.skip ?_
      refine hK15 _ _ ?_
      refine Wc.seq fun K17 hK17 => ?_
      refine Wc.block ?_
      refine Wc.seq fun K18 hK18 => ?_
      refine Wc.region (by decide +kernel) ?_
      obtain ⟨x19, h20, hb⟩ := bd hb
      obtain ⟨ad21, cs22, hA, hc23, hr24⟩ := hC.elr (i := 1) rfl (get_some h20).2
      subst hA
      refine lex.pure (v := .pointer (some (ad21.add (v8_0.toNat * 1)))) (pu_index (a := v8_0) Try.underlying37 Try.sizeOf27 e6 e8 (get_some h20).1) ?_
      have hR := hr24
      obtain ⟨A25, c26, rfl, hl27, hc28, _⟩ := hr24
      replace hC := hC.ro hR
      clear hR
      refine lex.val (v := .slice A25 x19.length c26) (ld_one Try.isAgg27 rfl (hc23 0 _ rfl)) ?_
      refine lex.pure (v := .slice A25 x19.length c26) (pu_assign rfl) ?_
      refine lex.nil ?_
      refine hK18 _ _ ?_
      refine Wc.region (by decide +kernel) ?_
      refine lex.pure (v := .slice Al3_0 l3_0.length cl3_0) (pu_move e3) ?_
      refine lex.pure (v := .slice A25 x19.length c26) (pu_move rfl) ?_
      refine lex.op (hC.lit (s := (.sl (.int .i64))) (vs := [.slice A25 x19.length c26]) (xs := [x19]) Try.underlying41 Try.type22 rfl rfl (Nat.le_of_ble_eq_true rfl) rfl rfl (by simp [Value.cells, Sh.n]) rfl (show Elems _ _ (.sl (.int .i64)) ([.slice A25 x19.length c26] ++ ([])) ([x19] : List (List Int)) from Elems.cons (hC.rd (i := 0) rfl) (Elems.nil _ _ _))) ?_
      rintro _ w34 ⟨A30, c31, rfl, hl32, hc33, hC, hF, hN⟩
      clear hF hN
      obtain ⟨u36, h37, hb⟩ := bd hb
      refine lex.op (hC.app (i := 2) (s := (.sl (.int .i64))) (xs := l3_0) (ys := ([x19] : List (List Int))) (m := ((([x19] : List (List Int))).length)) rfl Try.underlying41 Try.underlying41 Try.type22 rfl rfl rfl (hC.srco (i := 0) rfl) rfl rfl (by have := lim_some h37; simp at this ⊢ <;> omega) (by decide)) ?_
      rintro _ w42 ⟨A38, c39, rfl, hl40, hc41, hC, hF, hN⟩
      clear hF hN
      refine lex.pure (v := .slice A38 ((l3_0 ++ ([x19] : List (List Int))).length) c39) (pu_assign rfl) ?_
      refine lex.nil ?_
      refine hK17 _ _ ?_
      refine Wc.region (by decide +kernel) ?_
      obtain ⟨z43, h44, hb⟩ := bd hb
      refine lex.pure (v := .int .i64 z43) (pu_addc (a := v8_0) (b := 1) e8 rfl h44) ?_
      refine lex.pure (v := .int .i64 z43) (pu_move rfl) ?_
      refine lex.nil ?_
      obtain rfl := Option.some.inj hb
      exact hK9 m10' _ _ (Nat.lt_succ_self _) ⟨(l3_0 ++ ([x19] : List (List Int))), z43, A38, (l3_0 ++ ([x19] : List (List Int))).length, c39, e2, rfl, e6, e7, rfl, (chk_rng h44), hC.sel [2, 3] (by decide), lN hl0⟩
    · replace hb := (cF hq16).symm.trans hb
      refine Wc.exit rfl ?_
      obtain rfl := Option.some.inj hb
      obtain rfl := (lX hl0).symm
      exact hK8 _ _ ⟨l3_0, v8_0, Al3_0, l3_0.length, cl3_0, e2, e3, hrv8_0, hC.sel [0] (by decide), hbK0⟩
  · clear hb hC hl0
    rintro E46 w45 ⟨l3_0, v8_0, Al3_0, ml3_0, cl3_0, e2, e3, hrv8_0, hC, hb⟩
    obtain ⟨rfl, hll3_0, hcl3_0⟩ := (hC.ow (i := 0) rfl).sl_len
    refine hK4 _ _ ?_
    refine Wc.seq fun K47 hK47 => ?_
    refine Wc.region (by decide +kernel) ?_
    refine lex.pure (v := .slice Al3_0 l3_0.length cl3_0) (pu_move e3) ?_
    refine lex.pure (v := .slice Al3_0 l3_0.length cl3_0) (pu_assign rfl) ?_
    refine lex.nil ?_
    refine hK47 _ _ ?_
    obtain rfl := Option.some.inj hb
    refine Wc.ret ?_
    refine hKR _ _ ?_
    refine ⟨_, res1 Try.results19 (show RV _ _ _ (.tmp _) (.slice Al3_0 l3_0.length cl3_0) from rfl), _, rfl, Al3_0, l3_0.length, cl3_0, rfl, hC.sel [0] (by decide)⟩

set_option maxRecDepth 100000 in
set_option maxHeartbeats 4000000 in
theorem ref01_Lists_ok (n : Nat) {w : World} {O0 : List Nat} (hO : ∀ k ∈ O0, k < w.heap.size) {Aa_0 : Option Addr} {ma_0 ca_0 : Nat} {a_0 : List (List Int)} (ha_0 : Rep O0 w (.sl (.sl (.int .i64))) [.slice Aa_0 ma_0 ca_0] a_0) {Ab_1 : Option Addr} {mb_1 cb_1 : Nat} {b_1 : List (List Int)} (hb_1 : Rep O0 w (.sl (.sl (.int .i64))) [.slice Ab_1 mb_1 cb_1] b_1) {r : Bool} (hb : F.ref01_Lists n a_0 b_1 = some r) :
    Calls Try.prog 18 #[.slice Aa_0 ma_0 ca_0, .slice Ab_1 mb_1 cb_1] w fun e w' => ∃ v, e = .returned v ∧ v = .bool r ∧ Cx (fun _ => False) O0 w w' [] := by
  unfold F.ref01_Lists at hb
  have hC := Cx.start hO
  replace hC := hC.arg rfl ha_0
  replace hC := hC.arg rfl hb_1
  clear hO
  obtain ⟨rfl, hla_0, hca_0⟩ := ha_0.sl_len
  obtain ⟨rfl, hlb_1, hcb_1⟩ := hb_1.sl_len
  refine calls_of_Wc Try.func18 rfl (by rw [Try.ntmps18]; exact Nat.le_of_ble_eq_true rfl) fun KR hKR => ?_
  refine Wc.seq fun K3 hK3 => ?_
  refine Wc.region (by decide +kernel) ?_
  refine lex.pure (v := .bool false) (pu_assign rfl) ?_
  refine lex.nil ?_
  refine hK3 _ _ ?_
  refine Wc.seq fun K4 hK4 => ?_
  refine Wc.seq fun K5 hK5 => ?_
  refine Wc.region (by decide +kernel) ?_
  refine lex.pure (v := .slice Aa_0 a_0.length ca_0) (pu_move rfl) ?_
  refine lex.pure (v := .int .i64 (a_0.length : Int)) (pu_len (A := Aa_0) (n := a_0.length) (m := ca_0) Try.underlying41 rfl) ?_
  refine lex.pure (v := .slice Ab_1 b_1.length cb_1) (pu_move rfl) ?_
  refine lex.pure (v := .int .i64 (b_1.length : Int)) (pu_len (A := Ab_1) (n := b_1.length) (m := cb_1) Try.underlying41 rfl) ?_
  refine lex.pure (v := .bool (!(decide ((a_0.length : Int) = (b_1.length : Int))))) (pu_neq (k := .i64) (a := (a_0.length : Int)) (b := (b_1.length : Int)) rfl rfl) ?_
  refine lex.nil ?_
  refine hK5 _ _ ?_
  refine Wc.cond (t := (!(decide ((a_0.length : Int) = (b_1.length : Int))))) (rfl) (fun hq6 => ?_) (fun hq6 => ?_)
  · replace hb := (cT hq6).symm.trans hb
    refine Wc.seq fun K7 hK7 => ?_
    refine Wc.region (by decide +kernel) ?_
    refine lex.pure (v := .bool false) (pu_assign rfl) ?_
    refine lex.nil ?_
    refine hK7 _ _ ?_
    obtain rfl := Option.some.inj hb
    refine Wc.ret ?_
    refine hKR _ _ ?_
    refine ⟨_, res1 Try.results18 (show RV _ _ _ (.tmp _) (.bool false) from rfl), _, rfl, rfl, hC.sel [] (by decide)⟩
  · replace hb := (cF hq6).symm.trans hb
    refine Wc.skip ?_
    refine hK4 _ _ ?_
    refine Wc.seq fun K8 hK8 => ?_
    refine Wc.seq fun K9 hK9 => ?_
    refine Wc.region (by decide +kernel) ?_
    refine lex.pure (v := .int .i64 0) (pu_assign rfl) ?_
    refine lex.nil ?_
    refine hK9 _ _ ?_
    obtain ⟨o10, hl0, hb⟩ := bd hb
    refine Wc.cut (fun E wv => ∃ (v5_0 : Int), E 4 = .bool false ∧ I64 v5_0 ∧ Cx (fun _ => False) O0 w wv [] ∧ (some true : Option (Bool)) = some r) (fun K11 hK11 => ?_) ?_
    · refine Wc.block ?_
      refine Wc.loop (fun m E wv => ∃ (v5_0 : Int), E 0 = .slice Aa_0 a_0.length ca_0 ∧ E 1 = .slice Ab_1 b_1.length cb_1 ∧ E 4 = .bool false ∧ E 5 = .int .i64 v5_0 ∧ I64 v5_0 ∧ Cx (fun _ => False) O0 w wv [.ro (.sl (.sl (.int .i64))) [.slice Aa_0 a_0.length ca_0] a_0, .ro (.sl (.sl (.int .i64))) [.slice Ab_1 b_1.length cb_1] b_1] ∧ loopN m (F.ref01_Lists_b0 n a_0 b_1) v5_0 = some o10) n ⟨0, rfl, rfl, rfl, rfl, (show I64 0 from by unfold I64; omega), hC.sel [1, 0] (by decide), hl0⟩ ?_
      have hbK0 := hb
      clear hb hC hl0
      rintro m13 E15 w14 ⟨v5_0, e0, e1, e4, e5, hrv5_0, hC, hl0⟩ K12 hK12
      obtain ⟨m13', o16, rfl, hb, hl0⟩ := loopN_some hl0
      unfold F.ref01_Lists_b0 at hb
      refine Wc.seq fun K17 hK17 => ?_
      refine Wc.seq fun K18 hK18 => ?_
      refine Wc.region (by decide +kernel) ?_
      refine lex.pure (v := .int .i64 v5_0) (pu_move e5) ?_
      refine lex.pure (v := .slice Aa_0 a_0.length ca_0) (pu_move e0) ?_
      refine lex.pure (v := .int .i64 (a_0.length : Int)) (pu_len (A := Aa_0) (n := a_0.length) (m := ca_0) Try.underlying41 rfl) ?_
      refine lex.pure (v := .bool (decide (v5_0 < (a_0.length : Int)))) (pu_lss (k := .i64) (a := v5_0) (b := (a_0.length : Int)) rfl rfl) ?_
      refine lex.nil ?_
      refine hK18 _ _ ?_
      refine Wc.cond (t := (decide (v5_0 < (a_0.length : Int)))) (rfl) (fun hq19 => ?_) (fun hq19 => ?_)
      · replace hb := (cT hq19).symm.trans hb
        refine Wc.skip ?_
        refine hK17 _ _ ?_
        refine Wc.seq fun K20 hK20 => ?_
        refine Wc.block ?_
        refine Wc.seq fun K21 hK21 => ?_
        refine Wc.regionMix [] (frm [] ([] : List Fact) ([] : List Fact)) (fun _ => rfl) mixed (by decide +kernel) (by decide +kernel) fun w23 hw22 => ?_
        replace hC := hC.step (Fr.of_drew hw22)
        have hM := Fr.refl (fun k => k ∈ blocks ([] : List Fact)) w23
        clear hw22
        have hS := hC
        refine mixE.pure (v := .slice Aa_0 a_0.length ca_0) (pu_move e0) ?_
        refine mixE.pure (v := .int .i64 v5_0) (pu_move e5) ?_
        obtain ⟨x24, h25, hb⟩ := bd hb
        obtain ⟨ad26, cs27, hA, ho30, hc28, hr29⟩ := hS.elr2 (i := 0) rfl (get_some h25).2 []
        subst hA
        refine mixE.pure (v := .pointer (some (ad26.add (v5_0.toNat * 1)))) (pu_index (a := v5_0) Try.underlying41 Try.sizeOf22 rfl rfl (get_some h25).1) ?_
        have hR := hr29
        obtain ⟨A31, c32, rfl, hl33, hc34, _⟩ := hr29
        replace hS := hS.ro hR
        replace hC := hC.ro hR
        clear hR
        refine mixE.load hM (v := .slice A31 x24.length c32) (fun _ hF => ld_one Try.isAgg22 rfl (hF.cell (hc28 0 _ rfl) (off1 ho30))) ?_
        refine mixE.pure (v := .slice Ab_1 b_1.length cb_1) (pu_move e1) ?_
        refine mixE.pure (v := .int .i64 v5_0) (pu_move e5) ?_
        obtain ⟨x36, h37, hb⟩ := bd hb
        obtain ⟨ad38, cs39, hA, ho42, hc40, hr41⟩ := hS.elr2 (i := 2) rfl (get_some h37).2 []
        subst hA
        refine mixE.pure (v := .pointer (some (ad38.add (v5_0.toNat * 1)))) (pu_index (a := v5_0) Try.underlying41 Try.sizeOf22 rfl rfl (get_some h37).1) ?_
        have hR := hr41
        obtain ⟨A43, c44, rfl, hl45, hc46, _⟩ := hr41
        replace hS := hS.ro hR
        replace hC := hC.ro hR
        clear hR
        refine mixE.load hM (v := .slice A43 x36.length c44) (fun _ hF => ld_one Try.isAgg22 rfl (hF.cell (hc40 0 _ rfl) (off1 ho42))) ?_
        obtain ⟨y48, h49, hb⟩ := bd hb
        refine mixE.cl hM (⟨_, _, op_call (vs := [.slice A31 x24.length c32, .slice A43 x36.length c44]) Try.call15 rfl rfl rfl, ref01_Ints_ok n hC.lt (hC.rd (i := 1) rfl) (hC.rd (i := 0) rfl) h49⟩) ?_
        rintro _ w50 ⟨rfl, hK⟩
        replace hM := hM.none hK.fr
        refine ⟨hM, ?_⟩
        replace hC := hC.merge hK
        clear hK
        refine mixE.pure (v := .bool (!y48)) (pu_not (q := y48) rfl) ?_
        refine mixE.nil ?_
        clear hS hM
        refine hK21 _ _ ?_
        refine Wc.cond (t := (!y48)) (rfl) (fun hq51 => ?_) (fun hq51 => ?_)
        · replace hb := (cT hq51).symm.trans hb
          refine Wc.seq fun K52 hK52 => ?_
          refine Wc.region (by decide +kernel) ?_
          refine lex.pure (v := .bool false) (pu_assign rfl) ?_
          refine lex.nil ?_
          refine hK52 _ _ ?_
          obtain rfl := Option.some.inj hb
          obtain rfl := (lX hl0).symm
          replace hb := hbK0
          obtain rfl := Option.some.inj hb
          refine Wc.ret ?_
          refine hKR _ _ ?_
          refine ⟨_, res1 Try.results18 (show RV _ _ _ (.tmp _) (.bool false) from rfl), _, rfl, rfl, hC.sel [] (by decide)⟩
        · replace hb := (cF hq51).symm.trans hb
          refine Wc.skip ?_
          refine hK20 _ _ ?_
          refine Wc.region (by decide +kernel) ?_
          refine lex.pure (v := .int .i64 v5_0) (pu_move e5) ?_
          obtain ⟨z53, h54, hb⟩ := bd hb
          refine lex.pure (v := .int .i64 z53) (pu_addc (a := v5_0) (b := 1) rfl rfl h54) ?_
          refine lex.pure (v := .int .i64 z53) (pu_assign rfl) ?_
          refine lex.nil ?_
          obtain rfl := Option.some.inj hb
          exact hK12 m13' _ _ (Nat.lt_succ_self _) ⟨z53, e0, e1, e4, rfl, (chk_rng h54), hC.sel [2, 3] (by decide), lN hl0⟩
      · replace hb := (cF hq19).symm.trans hb
        refine Wc.exit rfl ?_
        obtain rfl := Option.some.inj hb
        obtain rfl := (lX hl0).symm
        exact hK11 _ _ ⟨v5_0, e4, hrv5_0, hC.sel [] (by decide), hbK0⟩
    · clear hb hC hl0
      rintro E56 w55 ⟨v5_0, e4, hrv5_0, hC, hb⟩
      refine hK8 _ _ ?_
      refine Wc.seq fun K57 hK57 => ?_
      refine Wc.region (by decide +kernel) ?_
      refine lex.pure (v := .bool true) (pu_assign rfl) ?_
      refine lex.nil ?_
      refine hK57 _ _ ?_
      obtain rfl := Option.some.inj hb
      refine Wc.ret ?_
      refine hKR _ _ ?_
      refine ⟨_, res1 Try.results18 (show RV _ _ _ (.tmp _) (.bool true) from rfl), _, rfl, rfl, hC.sel [] (by decide)⟩
end Go.Proofs.Ytlkmcbgkohpmiaa
