/- The walks: part 1. -/
import Derived.Test.YtkeaonceaaafcaaS
import Derived.Test.YtkeaonceaaafcaaG0
set_option linter.unusedVariables false
set_option linter.unusedSimpArgs false
namespace Go.Proofs.Ytkeaonceaaafcaa
open Ev
set_option maxRecDepth 100000 in
set_option maxHeartbeats 4000000 in
theorem perm_Inverse_ok (n : Nat) {w : World} {O0 : List Nat} (hO : ∀ k ∈ O0, k < w.heap.size) {Ap_0 : Option Addr} {mp_0 cp_0 : Nat} {p_0 : List Int} (hp_0 : Rep O0 w (.sl (.int .i64)) [.slice Ap_0 mp_0 cp_0] p_0) {r : (List Int)} (hb : F.perm_Inverse n p_0 = some r) :
    Calls Try.prog 57 #[.slice Ap_0 mp_0 cp_0] w fun e w' => ∃ v, e = .returned v ∧ ∃ (A0 : Option Addr) (m0 c0 : Nat), v = .slice A0 m0 c0 ∧ Cx (fun _ => False) O0 w w' [.own 3 (.int .i64) (.slice A0 m0 c0) r] := by
  unfold F.perm_Inverse at hb
  have hC := Cx.start hO
  replace hC := hC.arg rfl hp_0
  clear hO
  obtain ⟨rfl, hlp_0, hcp_0⟩ := hp_0.sl_len
  refine calls_of_Wc Try.func57 rfl (by rw [Try.ntmps57]; exact Nat.le_of_ble_eq_true rfl) fun KR hKR => ?_
  refine Wc.seq fun K2 hK2 => ?_
  refine Wc.region (by decide +kernel) ?_
  refine lex.pure (v := .slice none 0 0) (pu_assign rfl) ?_
  refine lex.nil ?_
  refine hK2 _ _ ?_
  refine Wc.seq fun K3 hK3 => ?_
  refine Wc.seq fun K4 hK4 => ?_
  refine Wc.region (by decide +kernel) ?_
  refine lex.pure (v := .slice Ap_0 p_0.length cp_0) (pu_move rfl) ?_
  obtain ⟨y5, h6, hb⟩ := bd hb
  refine lex.cl (⟨_, _, op_call (vs := [.slice Ap_0 p_0.length cp_0]) Try.call31 rfl rfl rfl, perm_Valid_ok n hC.lt (hC.rd (i := 0) rfl) h6⟩) ?_
  rintro _ w7 ⟨rfl, hK⟩
  replace hC := hC.merge hK
  clear hK
  refine lex.pure (v := .bool (!y5)) (pu_not (q := y5) rfl) ?_
  refine lex.nil ?_
  refine hK4 _ _ ?_
  refine Wc.cond (t := (!y5)) (rfl) (fun hq8 => ?_) (fun hq8 => ?_)
  · replace hb := (cT hq8).symm.trans hb
    refine Wc.seq fun K9 hK9 => ?_
    refine Wc.region (by decide +kernel) ?_
    refine lex.pure (v := .slice none 0 0) (pu_assign rfl) ?_
    refine lex.nil ?_
    refine hK9 _ _ ?_
    replace hC := hC.nil 3 (.int .i64)
    obtain rfl := Option.some.inj hb
    refine Wc.ret ?_
    refine hKR _ _ ?_
    refine ⟨_, res1 Try.results57 (show RV _ _ _ (.tmp _) (.slice none 0 0) from rfl), _, rfl, none, 0, 0, rfl, hC.sel [0] (by decide)⟩
  · replace hb := (cF hq8).symm.trans hb
    refine Wc.skip ?_
    refine hK3 _ _ ?_
    refine Wc.seq fun K11 hK11 => ?_
    refine Wc.region (by decide +kernel) ?_
    refine lex.pure (v := .slice Ap_0 p_0.length cp_0) (pu_move rfl) ?_
    refine lex.pure (v := .int .i64 (p_0.length : Int)) (pu_len (A := Ap_0) (n := p_0.length) (m := cp_0) Try.underlying43 rfl) ?_
    obtain ⟨u12, h13, hb⟩ := bd hb
    refine lex.op (hC.make (s := (.int .i64)) (n := (p_0.length : Int)) Try.underlying43 Try.type3 rfl rfl rfl rfl rfl (pos_some h13).1 (pos_some h13).2 (by decide)) ?_
    rintro _ w18 ⟨A14, c15, rfl, hl16, hc17, hC, hF, hN⟩
    clear hF hN
    refine lex.pure (v := .slice A14 (((List.replicate (p_0.length : Int).toNat (0 : Int))).length) c15) (pu_assign rfl) ?_
    refine lex.nil ?_
    refine hK11 _ _ ?_
    refine Wc.seq fun K20 hK20 => ?_
    refine Wc.seq fun K21 hK21 => ?_
    refine Wc.region (by decide +kernel) ?_
    refine lex.pure (v := .slice Ap_0 p_0.length cp_0) (pu_move rfl) ?_
    refine lex.pure (v := .int .i64 (p_0.length : Int)) (pu_len (A := Ap_0) (n := p_0.length) (m := cp_0) Try.underlying43 rfl) ?_
    refine lex.pure (v := .int .i64 0) (pu_move rfl) ?_
    refine lex.nil ?_
    refine hK21 _ _ ?_
    refine Wc.fresh fun E22 hE => ?_
    have e2 : E22 2 = .slice none 0 0 := (congrFun hE 2).trans rfl
    have e3 : E22 3 = .slice A14 (((List.replicate (p_0.length : Int).toNat (0 : Int))).length) c15 := (congrFun hE 3).trans rfl
    have e12 : E22 12 = .slice Ap_0 p_0.length cp_0 := (congrFun hE 12).trans rfl
    have e13 : E22 13 = .int .i64 (p_0.length : Int) := (congrFun hE 13).trans rfl
    have e14 : E22 14 = .int .i64 0 := (congrFun hE 14).trans rfl
    clear hE
    obtain ⟨o23, hl0, hb⟩ := bd hb
    refine Wc.cut (fun E wv => ∃ (v14_0 : Int) (qf19_0 : List Int), E 2 = .slice none 0 0 ∧ E 3 = .slice A14 (((List.replicate (p_0.length : Int).toNat (0 : Int))).length) c15 ∧ I64 v14_0 ∧ Cx (fun _ => False) O0 w wv [.own 3 (.int .i64) (.slice A14 (((List.replicate (p_0.length : Int).toNat (0 : Int))).length) c15) qf19_0] ∧ (some qf19_0 : Option ((List Int))) = some r) (fun K24 hK24 => ?_) ?_
    · refine Wc.block ?_
      refine Wc.loop (fun m E wv => ∃ (v14_0 : Int) (qf19_0 : List Int), E 2 = .slice none 0 0 ∧ E 3 = .slice A14 (((List.replicate (p_0.length : Int).toNat (0 : Int))).length) c15 ∧ E 12 = .slice Ap_0 p_0.length cp_0 ∧ E 13 = .int .i64 (p_0.length : Int) ∧ E 14 = .int .i64 v14_0 ∧ I64 v14_0 ∧ Cx (fun _ => False) O0 w wv [.own 3 (.int .i64) (.slice A14 (((List.replicate (p_0.length : Int).toNat (0 : Int))).length) c15) qf19_0, .ro (.sl (.int .i64)) [.slice Ap_0 p_0.length cp_0] p_0] ∧ loopN m (F.perm_Inverse_b0 n p_0) (v14_0, qf19_0) = some o23) n ⟨0, (List.replicate (p_0.length : Int).toNat (0 : Int)), e2, e3, e12, e13, e14, (show I64 0 from by unfold I64; omega), hC.sel [0, 1] (by decide), hl0⟩ ?_
      have hbK0 := hb
      clear hb hC hl0
      rintro m26 E28 w27 ⟨v14_0, qf19_0, e2, e3, e12, e13, e14, hrv14_0, hC, hl0⟩ K25 hK25
      obtain ⟨m26', o29, rfl, hb, hl0⟩ := loopN_some hl0
      unfold F.perm_Inverse_b0 at hb
      refine Wc.seq fun K30 hK30 => ?_
      refine Wc.region (by decide +kernel) ?_
      refine lex.pure (v := .bool (decide (v14_0 < (p_0.length : Int)))) (pu_lss (k := .i64) (a := v14_0) (b := (p_0.length : Int)) e14 e13) ?_
      refine lex.nil ?_
      refine hK30 _ _ ?_
      refine Wc.seq fun K31 hK31 => ?_
      refine Wc.cond (t := (decide (v14_0 < (p_0.length : Int)))) (rfl) (fun hq32 => ?_) (fun hq32 => ?_)
      · replace hb := (cT hq32).symm.trans hb
        refine Wc.skip ?_
        refine hK31 _ _ ?_
        refine Wc.seq fun K33 hK33 => ?_
        refine Wc.block ?_
        refine Wc.seq fun K34 hK34 => ?_
        refine Wc.region (by decide +kernel) ?_
        refine lex.pure (v := .int .i64 v14_0) (pu_move e14) ?_
        obtain ⟨x35, h36, hb⟩ := bd hb
        obtain ⟨ad37, cs38, hA, hc39, hr40⟩ := hC.elr (i := 1) rfl (get_some h36).2
        subst hA
        refine lex.pure (v := .pointer (some (ad37.add (v14_0.toNat * 1)))) (pu_index (a := v14_0) Try.underlying43 Try.sizeOf3 e12 e14 (get_some h36).1) ?_
        obtain ⟨rfl, hr40'⟩ := hr40
        refine lex.val (v := .int .i64 x35) (ld_one Try.isAgg3 rfl (hc39 0 _ rfl)) ?_
        refine lex.pure (v := .int .i64 v14_0) (pu_assign rfl) ?_
        refine lex.pure (v := .int .i64 x35) (pu_assign rfl) ?_
        refine lex.nil ?_
        refine hK34 _ _ ?_
        refine Wc.region (by decide +kernel) ?_
        refine lex.pure (v := .slice A14 (((List.replicate (p_0.length : Int).toNat (0 : Int))).length) c15) (pu_move e3) ?_
        refine lex.pure (v := .int .i64 x35) (pu_move rfl) ?_
        refine lex.pure (v := .int .i64 v14_0) (pu_move rfl) ?_
        obtain ⟨x41, h42, hb⟩ := bd hb
        obtain ⟨ad43, cs44, hA, hc45, hr46⟩ := hC.elo (i := 0) rfl (get_some h42).2
        subst hA
        refine lex.pure (v := .pointer (some (ad43.add (x35.toNat * 1)))) (pu_index (a := x35) Try.underlying43 Try.sizeOf3 rfl rfl (by rw [(hC.ow (i := 0) rfl).sl_len.1]; exact (get_some h42).1)) ?_
        refine lex.sk (hC.put (i := 0) rfl rfl Try.sizeOf3 (k := x35.toNat) (a := v14_0) (by have := (get_some h42).1; simp at this ⊢; omega) (⟨rfl, I64.wr hrv14_0⟩) rfl rfl rfl) ?_
        rintro w47 ⟨hC, hF⟩
        refine lex.nil ?_
        refine hK33 _ _ ?_
        refine Wc.region (by decide +kernel) ?_
        obtain ⟨z48, h49, hb⟩ := bd hb
        refine lex.pure (v := .int .i64 z48) (pu_addc (a := v14_0) (b := 1) e14 rfl h49) ?_
        refine lex.pure (v := .int .i64 z48) (pu_move rfl) ?_
        refine lex.nil ?_
        obtain rfl := Option.some.inj hb
        exact hK25 m26' _ _ (Nat.lt_succ_self _) ⟨z48, (qf19_0.set x35.toNat v14_0), e2, e3, e12, e13, rfl, (chk_rng h49), hC.sel [0, 1] (by decide), lN hl0⟩
      · replace hb := (cF hq32).symm.trans hb
        refine Wc.exit rfl ?_
        obtain rfl := Option.some.inj hb
        obtain rfl := (lX hl0).symm
        exact hK24 _ _ ⟨v14_0, qf19_0, e2, e3, hrv14_0, hC.sel [0] (by decide), hbK0⟩
    · clear hb hC hl0
      rintro E51 w50 ⟨v14_0, qf19_0, e2, e3, hrv14_0, hC, hb⟩
      refine hK20 _ _ ?_
      refine Wc.seq fun K52 hK52 => ?_
      refine Wc.region (by decide +kernel) ?_
      refine lex.pure (v := .slice A14 (((List.replicate (p_0.length : Int).toNat (0 : Int))).length) c15) (pu_move e3) ?_
      refine lex.pure (v := .slice A14 (((List.replicate (p_0.length : Int).toNat (0 : Int))).length) c15) (pu_assign rfl) ?_
      refine lex.nil ?_
      refine hK52 _ _ ?_
      obtain rfl := Option.some.inj hb
      refine Wc.ret ?_
      refine hKR _ _ ?_
      refine ⟨_, res1 Try.results57 (show RV _ _ _ (.tmp _) (.slice A14 (((List.replicate (p_0.length : Int).toNat (0 : Int))).length) c15) from rfl), _, rfl, A14, ((List.replicate (p_0.length : Int).toNat (0 : Int))).length, c15, rfl, hC.sel [0] (by decide)⟩

set_option maxRecDepth 100000 in
set_option maxHeartbeats 4000000 in
theorem garside_moveLetters_ok (n : Nat) {w : World} {O0 : List Nat} (hO : ∀ k ∈ O0, k < w.heap.size) {Abefore_0 : Option Addr} {mbefore_0 cbefore_0 : Nat} {before_0 : List Int} {Aafter_1 : Option Addr} {mafter_1 cafter_1 : Nat} {after_1 : List Int} (hio : Tk O0 w [.own 3 (.int .i64) (.slice Abefore_0 mbefore_0 cbefore_0) before_0, .own 3 (.int .i64) (.slice Aafter_1 mafter_1 cafter_1) after_1]) {r : Bool × (List Int) × (List Int)} (hb : F.garside_moveLetters n before_0 after_1 = some r) :
    Calls Try.prog 60 #[.slice Abefore_0 mbefore_0 cbefore_0, .slice Aafter_1 mafter_1 cafter_1] w fun e w' => ∃ v, e = .returned v ∧ v = .bool r.1 ∧ Cx (fun k => k ∈ blocks [.own 3 (.int .i64) (.slice Abefore_0 mbefore_0 cbefore_0) before_0, .own 3 (.int .i64) (.slice Aafter_1 mafter_1 cafter_1) after_1]) O0 w w' [.own 3 (.int .i64) (.slice Abefore_0 mbefore_0 cbefore_0) r.2.1, .own 3 (.int .i64) (.slice Aafter_1 mafter_1 cafter_1) r.2.2] := by
  unfold F.garside_moveLetters at hb
  have hC := Cx.startTk hO hio
  have hsub := hio.2.2
  clear hO
  obtain ⟨rfl, hlbefore_0, hcbefore_0⟩ := (hC.ow (i := 0) rfl).sl_len
  obtain ⟨rfl, hlafter_1, hcafter_1⟩ := (hC.ow (i := 1) rfl).sl_len
  clear hio hsub
  obtain ⟨I, hI, hC⟩ : ∃ I : Nat → Prop, I = (fun k => k ∈ blocks [.own 3 (.int .i64) (.slice Abefore_0 before_0.length cbefore_0) before_0, .own 3 (.int .i64) (.slice Aafter_1 after_1.length cafter_1) after_1]) ∧ Cx I O0 w w ([.own 3 (.int .i64) (.slice Abefore_0 before_0.length cbefore_0) before_0, .own 3 (.int .i64) (.slice Aafter_1 after_1.length cafter_1) after_1]) := ⟨_, rfl, hC⟩
  refine calls_of_Wc Try.func60 rfl (by rw [Try.ntmps60]; exact Nat.le_of_ble_eq_true rfl) fun KR hKR => ?_
  refine Wc.seq fun K3 hK3 => ?_
  refine Wc.region (by decide +kernel) ?_
  refine lex.pure (v := .bool false) (pu_assign rfl) ?_
  refine lex.nil ?_
  refine hK3 _ _ ?_
  refine Wc.seq fun K4 hK4 => ?_
  refine Wc.region (by decide +kernel) ?_
  refine lex.pure (v := .bool false) (pu_assign rfl) ?_
  refine lex.nil ?_
  refine hK4 _ _ ?_
  refine Wc.seq fun K5 hK5 => ?_
  refine Wc.region (by decide +kernel) ?_
  refine lex.pure (v := .slice Abefore_0 before_0.length cbefore_0) (pu_move rfl) ?_
  obtain ⟨y6, h7, hb⟩ := bd hb
  refine lex.cl (⟨_, _, op_call (vs := [.slice Abefore_0 before_0.length cbefore_0]) Try.call57 rfl rfl rfl, perm_Inverse_ok n (hC.lentLt [.slice Abefore_0 before_0.length cbefore_0]) ((hC.ow (i := 0) rfl).lend (vs := [.slice Abefore_0 before_0.length cbefore_0]) (by simp)) h7⟩) ?_
  rintro _ w12 ⟨A8, m9, c10, rfl, hK⟩
  replace hC := hC.mergeF hK rfl
  clear hK
  obtain ⟨rfl, hl13, hc14⟩ := (hC.ow (i := 0) rfl).sl_len
  refine lex.pure (v := .slice A8 y6.length c10) (pu_assign rfl) ?_
  refine lex.nil ?_
  refine hK5 _ _ ?_
  refine Wc.seq fun K15 hK15 => ?_
  refine Wc.seq fun K16 hK16 => ?_
  refine Wc.region (by decide +kernel) ?_
  refine lex.pure (v := .int .i64 1) (pu_assign rfl) ?_
  refine lex.nil ?_
  refine hK16 _ _ ?_
  obtain ⟨o17, hl0, hb⟩ := bd hb
  refine Wc.cut (fun E wv => ∃ (v5_0 : Bool) (v7_0 : Int) (qf2_0 : List Int) (qf11_0 : List Int), E 0 = .slice Abefore_0 before_0.length cbefore_0 ∧ E 4 = .bool false ∧ E 5 = .bool v5_0 ∧ E 6 = .slice A8 y6.length c10 ∧ I64 v7_0 ∧ Cx I O0 w wv [.own 3 (.int .i64) (.slice Abefore_0 before_0.length cbefore_0) before_0, .own 3 (.int .i64) (.slice A8 y6.length c10) qf11_0, .own 3 (.int .i64) (.slice Aafter_1 after_1.length cafter_1) qf2_0] ∧ ((F.perm_Inverse n qf11_0).bind fun y153 => some (v5_0, (y153.take (min y153.length before_0.length) ++ before_0.drop (min y153.length before_0.length)), qf2_0) : Option (Bool × (List Int) × (List Int))) = some r) (fun K18 hK18 => ?_) ?_
  · refine Wc.block ?_
    refine Wc.loop (fun m E wv => ∃ (v5_0 : Bool) (v7_0 : Int) (qf2_0 : List Int) (qf11_0 : List Int), E 0 = .slice Abefore_0 before_0.length cbefore_0 ∧ E 1 = .slice Aafter_1 after_1.length cafter_1 ∧ E 4 = .bool false ∧ E 5 = .bool v5_0 ∧ E 6 = .slice A8 y6.length c10 ∧ E 7 = .int .i64 v7_0 ∧ I64 v7_0 ∧ Cx I O0 w wv [.own 3 (.int .i64) (.slice Abefore_0 before_0.length cbefore_0) before_0, .own 3 (.int .i64) (.slice Aafter_1 after_1.length cafter_1) qf2_0, .own 3 (.int .i64) (.slice A8 y6.length c10) qf11_0] ∧ loopN m (F.garside_moveLetters_b0 n after_1) (v5_0, v7_0, qf2_0, qf11_0) = some o17) n ⟨false, 1, after_1, y6, rfl, rfl, rfl, rfl, rfl, rfl, (show I64 1 from by unfold I64; omega), hC.sel [1, 2, 0] (by decide), hl0⟩ ?_
    have hbK0 := hb
    clear hb hC hl0
    rintro m20 E22 w21 ⟨v5_0, v7_0, qf2_0, qf11_0, e0, e1, e4, e5, e6, e7, hrv7_0, hC, hl0⟩ K19 hK19
    obtain ⟨m20', o23, rfl, hb, hl0⟩ := loopN_some hl0
    unfold F.garside_moveLetters_b0 at hb
    refine Wc.seq fun K24 hK24 => ?_
    refine Wc.seq fun K25 hK25 => ?_
    refine Wc.region (by decide +kernel) ?_
    refine lex.pure (v := .int .i64 v7_0) (pu_move e7) ?_
    refine lex.pure (v := .slice Aafter_1 after_1.length cafter_1) (pu_move e1) ?_
    refine lex.pure (v := .int .i64 (after_1.length : Int)) (pu_len (A := Aafter_1) (n := after_1.length) (m := cafter_1) Try.underlying43 rfl) ?_
    refine lex.pure (v := .bool (decide (v7_0 < (after_1.length : Int)))) (pu_lss (k := .i64) (a := v7_0) (b := (after_1.length : Int)) rfl rfl) ?_
    refine lex.nil ?_
    refine hK25 _ _ ?_
    refine Wc.cond (t := (decide (v7_0 < (after_1.length : Int)))) (rfl) (fun hq26 => ?_) (fun hq26 => ?_)
    · replace hb := (cT hq26).symm.trans hb
      refine Wc.skip ?_
      refine hK24 _ _ ?_
      refine Wc.block ?_
      refine Wc.seq fun K27 hK27 => ?_
      refine Wc.seq fun K28 hK28 => ?_
      refine Wc.regionMix [] (frm [] ([] : List Fact) ([] : List Fact)) (fun _ => rfl) mixed (by decide +kernel) (by decide +kernel) fun w30 hw29 => ?_
      replace hC := hC.step (Fr.of_drew hw29)
      have hM := Fr.refl (fun k => k ∈ blocks ([] : List Fact)) w30
      clear hw29
      have hS := hC
      refine mixE.pure (v := .slice Aafter_1 after_1.length cafter_1) (pu_move e1) ?_
      refine mixE.pure (v := .int .i64 v7_0) (pu_move e7) ?_
      obtain ⟨z31, h32, hb⟩ := bd hb
      refine mixE.pure (v := .int .i64 z31) (pu_subc (a := v7_0) (b := 1) rfl rfl h32) ?_
      obtain ⟨x33, h34, hb⟩ := bd hb
      obtain ⟨ad35, cs36, hA, ho39, hc37, hr38⟩ := hS.elo2 (i := 1) rfl (get_some h34).2 [] (by decide)
      subst hA
      refine mixE.pure (v := .pointer (some (ad35.add (z31.toNat * 1)))) (pu_index (a := z31) Try.underlying43 Try.sizeOf3 rfl rfl (by rw [(hC.ow (i := 1) rfl).sl_len.1]; exact (get_some h34).1)) ?_
      obtain ⟨rfl, hr38'⟩ := hr38
      refine mixE.load hM (v := .int .i64 x33) (fun _ hF => ld_one Try.isAgg3 rfl (hF.cell (hc37 0 _ rfl) (off1 ho39))) ?_
      refine mixE.pure (v := .slice (some ad35) after_1.length cafter_1) (pu_move e1) ?_
      refine mixE.pure (v := .int .i64 v7_0) (pu_move e7) ?_
      obtain ⟨x40, h41, hb⟩ := bd hb
      obtain ⟨ad42, cs43, hA, ho46, hc44, hr45⟩ := hS.elo2 (i := 1) rfl (get_some h41).2 [] (by decide)
      obtain rfl := Option.some.inj hA
      refine mixE.pure (v := .pointer (some (ad35.add (v7_0.toNat * 1)))) (pu_index (a := v7_0) Try.underlying43 Try.sizeOf3 rfl rfl (by rw [(hC.ow (i := 1) rfl).sl_len.1]; exact (get_some h41).1)) ?_
      obtain ⟨rfl, hr45'⟩ := hr45
      refine mixE.load hM (v := .int .i64 x40) (fun _ hF => ld_one Try.isAgg3 rfl (hF.cell (hc44 0 _ rfl) (off1 ho46))) ?_
      refine mixE.pure (v := .bool (decide (x33 < x40))) (pu_lss (k := .i64) (a := x33) (b := x40) rfl rfl) ?_
      refine mixE.pure (v := .bool (decide (x33 < x40))) (pu_move rfl) ?_
      rcases bS (decide (x33 < x40)) with hq47 | hq47
      · replace hb := (cT hq47).symm.trans hb
        refine mixE.gskip (want_f rfl rfl (show _ = Value.bool (decide (x33 < x40)) from rfl) hq47) ?_
        refine mixE.gskip (want_f rfl rfl (show _ = Value.bool (decide (x33 < x40)) from rfl) hq47) ?_
        refine mixE.gskip (want_f rfl rfl (show _ = Value.bool (decide (x33 < x40)) from rfl) hq47) ?_
        refine mixE.gskip (want_f rfl rfl (show _ = Value.bool (decide (x33 < x40)) from rfl) hq47) ?_
        refine mixE.gskip (want_f rfl rfl (show _ = Value.bool (decide (x33 < x40)) from rfl) hq47) ?_
        refine mixE.gskip (want_f rfl rfl (show _ = Value.bool (decide (x33 < x40)) from rfl) hq47) ?_
        refine mixE.gskip (want_f rfl rfl (show _ = Value.bool (decide (x33 < x40)) from rfl) hq47) ?_
        refine mixE.gskip (want_f rfl rfl (show _ = Value.bool (decide (x33 < x40)) from rfl) hq47) ?_
        refine mixE.gskip (want_f rfl rfl (show _ = Value.bool (decide (x33 < x40)) from rfl) hq47) ?_
        refine mixE.gskip (want_f rfl rfl (show _ = Value.bool (decide (x33 < x40)) from rfl) hq47) ?_
        refine mixE.pure (v := .bool true) (pu_pickT (q := (decide (x33 < x40))) rfl hq47 rfl) ?_
        refine mixE.nil ?_
        clear hS hM
        refine hK28 _ _ ?_
        refine Wc.fresh fun E48 hE => ?_
        have e0 : E48 0 = .slice Abefore_0 before_0.length cbefore_0 := (congrFun hE 0).trans e0
        have e1 : E48 1 = .slice (some ad35) after_1.length cafter_1 := (congrFun hE 1).trans e1
        have e4 : E48 4 = .bool false := (congrFun hE 4).trans e4
        have e5 : E48 5 = .bool v5_0 := (congrFun hE 5).trans e5
        have e6 : E48 6 = .slice A8 y6.length c10 := (congrFun hE 6).trans e6
        have e7 : E48 7 = .int .i64 v7_0 := (congrFun hE 7).trans e7
        have e13 : E48 13 = .bool (decide (v7_0 < (after_1.length : Int))) := (congrFun hE 13).trans rfl
        have e35 : E48 35 = .bool true := (congrFun hE 35).trans rfl
        clear hE
        refine Wc.cond_true (e35) ?_
        refine Wc.seq fun K49 hK49 => ?_
        refine Wc.region (by decide +kernel) ?_
        refine lex.pure (v := .int .i64 v7_0) (pu_move e7) ?_
        obtain ⟨z50, h51, hb⟩ := bd hb
        refine lex.pure (v := .int .i64 z50) (pu_addc (a := v7_0) (b := 1) rfl rfl h51) ?_
        refine lex.pure (v := .int .i64 z50) (pu_assign rfl) ?_
        refine lex.nil ?_
        refine hK49 _ _ ?_
        refine Wc.exit rfl ?_
        obtain rfl := Option.some.inj hb
        exact hK19 m20' _ _ (Nat.lt_succ_self _) ⟨v5_0, z50, qf2_0, qf11_0, e0, e1, e4, e5, e6, rfl, (chk_rng h51), hC.sel [0, 1, 2] (by decide), lN hl0⟩
      · replace hb := (cF hq47).symm.trans hb
        refine mixE.gpure rfl (want_t rfl rfl (show _ = Value.bool (decide (x33 < x40)) from rfl) hq47) (v := .slice A8 y6.length c10) (pu_move e6) ?_
        refine mixE.gpure rfl (want_t rfl rfl (show _ = Value.bool (decide (x33 < x40)) from rfl) hq47) (v := .int .i64 v7_0) (pu_move e7) ?_
        obtain ⟨z52, h53, hb⟩ := bd hb
        refine mixE.gpure rfl (want_t rfl rfl (show _ = Value.bool (decide (x33 < x40)) from rfl) hq47) (v := .int .i64 z52) (pu_subc (a := v7_0) (b := 1) rfl rfl h53) ?_
        obtain ⟨x54, h55, hb⟩ := bd hb
        obtain ⟨ad56, cs57, hA, ho60, hc58, hr59⟩ := hS.elo2 (i := 2) rfl (get_some h55).2 [] (by decide)
        subst hA
        refine mixE.gpure rfl (want_t rfl rfl (show _ = Value.bool (decide (x33 < x40)) from rfl) hq47) (v := .pointer (some (ad56.add (z52.toNat * 1)))) (pu_index (a := z52) Try.underlying43 Try.sizeOf3 rfl rfl (by rw [(hC.ow (i := 2) rfl).sl_len.1]; exact (get_some h55).1)) ?_
        obtain ⟨rfl, hr59'⟩ := hr59
        refine mixE.gload rfl (want_t rfl rfl (show _ = Value.bool (decide (x33 < x40)) from rfl) hq47) hM (v := .int .i64 x54) (fun _ hF => ld_one Try.isAgg3 rfl (hF.cell (hc58 0 _ rfl) (off1 ho60))) ?_
        refine mixE.gpure rfl (want_t rfl rfl (show _ = Value.bool (decide (x33 < x40)) from rfl) hq47) (v := .slice (some ad56) y6.length c10) (pu_move e6) ?_
        refine mixE.gpure rfl (want_t rfl rfl (show _ = Value.bool (decide (x33 < x40)) from rfl) hq47) (v := .int .i64 v7_0) (pu_move e7) ?_
        obtain ⟨x61, h62, hb⟩ := bd hb
        obtain ⟨ad63, cs64, hA, ho67, hc65, hr66⟩ := hS.elo2 (i := 2) rfl (get_some h62).2 [] (by decide)
        obtain rfl := Option.some.inj hA
        refine mixE.gpure rfl (want_t rfl rfl (show _ = Value.bool (decide (x33 < x40)) from rfl) hq47) (v := .pointer (some (ad56.add (v7_0.toNat * 1)))) (pu_index (a := v7_0) Try.underlying43 Try.sizeOf3 rfl rfl (by rw [(hC.ow (i := 2) rfl).sl_len.1]; exact (get_some h62).1)) ?_
        obtain ⟨rfl, hr66'⟩ := hr66
        refine mixE.gload rfl (want_t rfl rfl (show _ = Value.bool (decide (x33 < x40)) from rfl) hq47) hM (v := .int .i64 x61) (fun _ hF => ld_one Try.isAgg3 rfl (hF.cell (hc65 0 _ rfl) (off1 ho67))) ?_
        refine mixE.gpure rfl (want_t rfl rfl (show _ = Value.bool (decide (x33 < x40)) from rfl) hq47) (v := .bool (decide (x61 < x54))) (pu_gtr (k := .i64) (a := x54) (b := x61) rfl rfl) ?_
        refine mixE.pure (v := .bool (decide (x61 < x54))) (pu_pickF (q := (decide (x33 < x40))) rfl hq47 rfl) ?_
        refine mixE.nil ?_
        clear hS hM
        refine hK28 _ _ ?_
        refine Wc.fresh fun E68 hE => ?_
        have e0 : E68 0 = .slice Abefore_0 before_0.length cbefore_0 := (congrFun hE 0).trans e0
        have e1 : E68 1 = .slice (some ad35) after_1.length cafter_1 := (congrFun hE 1).trans e1
        have e4 : E68 4 = .bool false := (congrFun hE 4).trans e4
        have e5 : E68 5 = .bool v5_0 := (congrFun hE 5).trans e5
        have e6 : E68 6 = .slice (some ad56) y6.length c10 := (congrFun hE 6).trans e6
        have e7 : E68 7 = .int .i64 v7_0 := (congrFun hE 7).trans e7
        have e13 : E68 13 = .bool (decide (v7_0 < (after_1.length : Int))) := (congrFun hE 13).trans rfl
        have e35 : E68 35 = .bool (decide (x61 < x54)) := (congrFun hE 35).trans rfl
        clear hE
        refine Wc.cond (t := (decide (x61 < x54))) (e35) (fun hq69 => ?_) (fun hq69 => ?_)
        · replace hb := (cT hq69).symm.trans hb
          refine Wc.seq fun K70 hK70 => ?_
          refine Wc.region (by decide +kernel) ?_
          refine lex.pure (v := .int .i64 v7_0) (pu_move e7) ?_
          obtain ⟨z71, h72, hb⟩ := bd hb
          refine lex.pure (v := .int .i64 z71) (pu_addc (a := v7_0) (b := 1) rfl rfl h72) ?_
          refine lex.pure (v := .int .i64 z71) (pu_assign rfl) ?_
          refine lex.nil ?_
          refine hK70 _ _ ?_
          refine Wc.exit rfl ?_
          obtain rfl := Option.some.inj hb
          exact hK19 m20' _ _ (Nat.lt_succ_self _) ⟨v5_0, z71, qf2_0, qf11_0, e0, e1, e4, e5, e6, rfl, (chk_rng h72), hC.sel [0, 1, 2] (by decide), lN hl0⟩
        · replace hb := (cF hq69).symm.trans hb
          refine Wc.skip ?_
          refine hK27 _ _ ?_
          refine Wc.seq fun K73 hK73 => ?_
          refine Wc.regionMix [] (frm [] ([] : List Fact) [.own 3 (.int .i64) (.slice (some ad35) after_1.length cafter_1) qf2_0]) (fun _ => rfl) mixed (by decide +kernel) (by decide +kernel) fun w75 hw74 => ?_
          replace hC := hC.step (Fr.of_drew hw74)
          have hM := Fr.refl (fun k => k ∈ blocks ([] : List Fact)) w75
          clear hw74
          have hS := hC
          have hD : Fr (fun k => k ∈ blocks (([] : List Fact) ++ [.own 3 (.int .i64) (.slice (some ad35) after_1.length cafter_1) qf2_0])) w75 w75 := hM.wide
          have hUf2 : Beside (([] : List Fact) ++ [.own 3 (.int .i64) (.slice (some ad35) after_1.length cafter_1) qf2_0]) w75 (.slice (some ad35) after_1.length cafter_1) := Beside.of (i := 0) rfl
          refine mixE.pure (v := .slice (some ad35) after_1.length cafter_1) (pu_move e1) ?_
          refine mixE.pure (v := .int .i64 v7_0) (pu_move e7) ?_
          obtain ⟨z76, h77, hb⟩ := bd hb
          refine mixE.pure (v := .int .i64 z76) (pu_subc (a := v7_0) (b := 1) rfl rfl h77) ?_
          refine mixE.pure (v := .slice (some ad35) after_1.length cafter_1) (pu_move e1) ?_
          refine mixE.pure (v := .int .i64 v7_0) (pu_move e7) ?_
          refine mixE.pure (v := .slice (some ad35) after_1.length cafter_1) (pu_move e1) ?_
          refine mixE.pure (v := .int .i64 v7_0) (pu_move e7) ?_
          obtain ⟨x78, h79, hb⟩ := bd hb
          obtain ⟨ad80, cs81, hA, ho84, hc82, hr83⟩ := hS.elo2 (i := 1) rfl (get_some h79).2 [] (by decide)
          obtain rfl := Option.some.inj hA
          refine mixE.pure (v := .pointer (some (ad35.add (v7_0.toNat * 1)))) (pu_index (a := v7_0) Try.underlying43 Try.sizeOf3 rfl rfl (by rw [(hC.ow (i := 1) rfl).sl_len.1]; exact (get_some h79).1)) ?_
          obtain ⟨rfl, hr83'⟩ := hr83
          refine mixE.load hM (v := .int .i64 x78) (fun _ hF => ld_one Try.isAgg3 rfl (hF.cell (hc82 0 _ rfl) (off1 ho84))) ?_
          refine mixE.pure (v := .slice (some ad35) after_1.length cafter_1) (pu_move e1) ?_
          refine mixE.pure (v := .int .i64 v7_0) (pu_move e7) ?_
          obtain ⟨z85, h86, hb⟩ := bd hb
          refine mixE.pure (v := .int .i64 z85) (pu_subc (a := v7_0) (b := 1) rfl rfl h86) ?_
          obtain ⟨x87, h88, hb⟩ := bd hb
          obtain ⟨ad89, cs90, hA, ho93, hc91, hr92⟩ := hS.elo2 (i := 1) rfl (get_some h88).2 [] (by decide)
          obtain rfl := Option.some.inj hA
          refine mixE.pure (v := .pointer (some (ad35.add (z85.toNat * 1)))) (pu_index (a := z85) Try.underlying43 Try.sizeOf3 rfl rfl (by rw [(hC.ow (i := 1) rfl).sl_len.1]; exact (get_some h88).1)) ?_
          obtain ⟨rfl, hr92'⟩ := hr92
          refine mixE.load hM (v := .int .i64 x87) (fun _ hF => ld_one Try.isAgg3 rfl (hF.cell (hc91 0 _ rfl) (off1 ho93))) ?_
          obtain ⟨x94, h95, hb⟩ := bd hb
          obtain ⟨ad96, cs97, hA, ho100, hc98, hr99⟩ := hS.elo2 (i := 1) rfl (get_some h95).2 [] (by decide)
          obtain rfl := Option.some.inj hA
          refine mixE.pure (v := .pointer (some (ad35.add (z76.toNat * 1)))) (pu_index (a := z76) Try.underlying43 Try.sizeOf3 rfl rfl (by rw [(hC.ow (i := 1) rfl).sl_len.1]; exact (get_some h95).1)) ?_
          refine mixE.sk hD (hC.put (i := 1) rfl rfl Try.sizeOf3 (k := z76.toNat) (a := x78) (by have := (get_some h95).1; simp at this ⊢; omega) (⟨rfl, I64.wr (wrap_I64 hr83')⟩) rfl rfl rfl) ?_
          rintro w101 ⟨hC, hF⟩
          replace hD := hD.beside hUf2 hF
          clear hF
          refine ⟨hD, ?_⟩
          obtain ⟨x102, h103, hb⟩ := bd hb
          obtain ⟨ad104, cs105, hA, hc106, hr107⟩ := hC.elo (i := 1) rfl (get_some h103).2
          obtain rfl := Option.some.inj hA
          refine mixE.pure (v := .pointer (some (ad35.add (v7_0.toNat * 1)))) (pu_index (a := v7_0) Try.underlying43 Try.sizeOf3 rfl rfl (by rw [(hC.ow (i := 1) rfl).sl_len.1]; exact (get_some h103).1)) ?_
          refine mixE.sk hD (hC.put (i := 1) rfl rfl Try.sizeOf3 (k := v7_0.toNat) (a := x87) (by have := (get_some h103).1; simp at this ⊢; omega) (⟨rfl, I64.wr (wrap_I64 hr92')⟩) rfl rfl rfl) ?_
          rintro w108 ⟨hC, hF⟩
          replace hD := hD.beside hUf2 hF
          clear hF
          refine ⟨hD, ?_⟩
          refine mixE.nil ?_
          clear hS hM
          clear hD
          refine hK73 _ _ ?_
          refine Wc.fresh fun E109 hE => ?_
          have e0 : E109 0 = .slice Abefore_0 before_0.length cbefore_0 := (congrFun hE 0).trans e0
          have e1 : E109 1 = .slice (some ad35) after_1.length cafter_1 := (congrFun hE 1).trans e1
          have e4 : E109 4 = .bool false := (congrFun hE 4).trans e4
          have e5 : E109 5 = .bool v5_0 := (congrFun hE 5).trans e5
          have e6 : E109 6 = .slice (some ad56) y6.length c10 := (congrFun hE 6).trans e6
          have e7 : E109 7 = .int .i64 v7_0 := (congrFun hE 7).trans e7
          have e13 : E109 13 = .bool (decide (v7_0 < (after_1.length : Int))) := (congrFun hE 13).trans e13
          have e35 : E109 35 = .bool (decide (x61 < x54)) := (congrFun hE 35).trans e35
          clear hE
          refine Wc.seq fun K110 hK110 => ?_
          refine Wc.regionMix [] (frm [] ([] : List Fact) [.own 3 (.int .i64) (.slice (some ad56) y6.length c10) qf11_0]) (fun _ => rfl) mixed (by decide +kernel) (by decide +kernel) fun w112 hw111 => ?_
          replace hC := hC.step (Fr.of_drew hw111)
          have hM := Fr.refl (fun k => k ∈ blocks ([] : List Fact)) w112
          clear hw111
          have hS := hC
          have hD : Fr (fun k => k ∈ blocks (([] : List Fact) ++ [.own 3 (.int .i64) (.slice (some ad56) y6.length c10) qf11_0])) w112 w112 := hM.wide
          have hUf11 : Beside (([] : List Fact) ++ [.own 3 (.int .i64) (.slice (some ad56) y6.length c10) qf11_0]) w112 (.slice (some ad56) y6.length c10) := Beside.of (i := 0) rfl
          refine mixE.pure (v := .slice (some ad56) y6.length c10) (pu_move e6) ?_
          refine mixE.pure (v := .int .i64 v7_0) (pu_move e7) ?_
          obtain ⟨z113, h114, hb⟩ := bd hb
          refine mixE.pure (v := .int .i64 z113) (pu_subc (a := v7_0) (b := 1) rfl rfl h114) ?_
          refine mixE.pure (v := .slice (some ad56) y6.length c10) (pu_move e6) ?_
          refine mixE.pure (v := .int .i64 v7_0) (pu_move e7) ?_
          refine mixE.pure (v := .slice (some ad56) y6.length c10) (pu_move e6) ?_
          refine mixE.pure (v := .int .i64 v7_0) (pu_move e7) ?_
          obtain ⟨x115, h116, hb⟩ := bd hb
          obtain ⟨ad117, cs118, hA, ho121, hc119, hr120⟩ := hS.elo2 (i := 2) rfl (get_some h116).2 [] (by decide)
          obtain rfl := Option.some.inj hA
          refine mixE.pure (v := .pointer (some (ad56.add (v7_0.toNat * 1)))) (pu_index (a := v7_0) Try.underlying43 Try.sizeOf3 rfl rfl (by rw [(hC.ow (i := 2) rfl).sl_len.1]; exact (get_some h116).1)) ?_
          obtain ⟨rfl, hr120'⟩ := hr120
          refine mixE.load hM (v := .int .i64 x115) (fun _ hF => ld_one Try.isAgg3 rfl (hF.cell (hc119 0 _ rfl) (off1 ho121))) ?_
          refine mixE.pure (v := .slice (some ad56) y6.length c10) (pu_move e6) ?_
          refine mixE.pure (v := .int .i64 v7_0) (pu_move e7) ?_
          obtain ⟨z122, h123, hb⟩ := bd hb
          refine mixE.pure (v := .int .i64 z122) (pu_subc (a := v7_0) (b := 1) rfl rfl h123) ?_
          obtain ⟨x124, h125, hb⟩ := bd hb
          obtain ⟨ad126, cs127, hA, ho130, hc128, hr129⟩ := hS.elo2 (i := 2) rfl (get_some h125).2 [] (by decide)
          obtain rfl := Option.some.inj hA
          refine mixE.pure (v := .pointer (some (ad56.add (z122.toNat * 1)))) (pu_index (a := z122) Try.underlying43 Try.sizeOf3 rfl rfl (by rw [(hC.ow (i := 2) rfl).sl_len.1]; exact (get_some h125).1)) ?_
          obtain ⟨rfl, hr129'⟩ := hr129
          refine mixE.load hM (v := .int .i64 x124) (fun _ hF => ld_one Try.isAgg3 rfl (hF.cell (hc128 0 _ rfl) (off1 ho130))) ?_
          obtain ⟨x131, h132, hb⟩ := bd hb
          obtain ⟨ad133, cs134, hA, ho137, hc135, hr136⟩ := hS.elo2 (i := 2) rfl (get_some h132).2 [] (by decide)
          obtain rfl := Option.some.inj hA
          refine mixE.pure (v := .pointer (some (ad56.add (z113.toNat * 1)))) (pu_index (a := z113) Try.underlying43 Try.sizeOf3 rfl rfl (by rw [(hC.ow (i := 2) rfl).sl_len.1]; exact (get_some h132).1)) ?_
          refine mixE.sk hD (hC.put (i := 2) rfl rfl Try.sizeOf3 (k := z113.toNat) (a := x115) (by have := (get_some h132).1; simp at this ⊢; omega) (⟨rfl, I64.wr (wrap_I64 hr120')⟩) rfl rfl rfl) ?_
          rintro w138 ⟨hC, hF⟩
          replace hD := hD.beside hUf11 hF
          clear hF
          refine ⟨hD, ?_⟩
          obtain ⟨x139, h140, hb⟩ := bd hb
          obtain ⟨ad141, cs142, hA, hc143, hr144⟩ := hC.elo (i := 2) rfl (get_some h140).2
          obtain rfl := Option.some.inj hA
          refine mixE.pure (v := .pointer (some (ad56.add (v7_0.toNat * 1)))) (pu_index (a := v7_0) Try.underlying43 Try.sizeOf3 rfl rfl (by rw [(hC.ow (i := 2) rfl).sl_len.1]; exact (get_some h140).1)) ?_
          refine mixE.sk hD (hC.put (i := 2) rfl rfl Try.sizeOf3 (k := v7_0.toNat) (a := x124) (by have := (get_some h140).1; simp at this ⊢; omega) (⟨rfl, I64.wr (wrap_I64 hr129')⟩) rfl rfl rfl) ?_
          rintro w145 ⟨hC, hF⟩
          replace hD := hD.beside hUf11 hF
          clear hF
          refine ⟨hD, ?_⟩
          refine mixE.nil ?_
          clear hS hM
          clear hD
          refine hK110 _ _ ?_
          refine Wc.fresh fun E146 hE => ?_
          have e0 : E146 0 = .slice Abefore_0 before_0.length cbefore_0 := (congrFun hE 0).trans e0
          have e1 : E146 1 = .slice (some ad35) after_1.length cafter_1 := (congrFun hE 1).trans e1
          have e4 : E146 4 = .bool false := (congrFun hE 4).trans e4
          have e5 : E146 5 = .bool v5_0 := (congrFun hE 5).trans e5
          have e6 : E146 6 = .slice (some ad56) y6.length c10 := (congrFun hE 6).trans e6
          have e7 : E146 7 = .int .i64 v7_0 := (congrFun hE 7).trans e7
          have e13 : E146 13 = .bool (decide (v7_0 < (after_1.length : Int))) := (congrFun hE 13).trans e13
          have e35 : E146 35 = .bool (decide (x61 < x54)) := (congrFun hE 35).trans e35
          clear hE
          refine Wc.seq fun K147 hK147 => ?_
          refine Wc.region (by decide +kernel) ?_
          refine lex.pure (v := .bool true) (pu_assign rfl) ?_
          refine lex.nil ?_
          refine hK147 _ _ ?_
          refine Wc.region (by decide +kernel) ?_
          refine lex.pure (v := .int .i64 v7_0) (pu_move e7) ?_
          obtain ⟨z148, h149, hb⟩ := bd hb
          refine lex.pure (v := .int .i64 z148) (pu_subc (a := v7_0) (b := 1) rfl rfl h149) ?_
          refine lex.pure (v := .int .i64 (max 1 z148)) (pu_max (a := 1) (b := z148) rfl rfl) ?_
          refine lex.pure (v := .int .i64 (max 1 z148)) (pu_assign rfl) ?_
          refine lex.nil ?_
          obtain rfl := Option.some.inj hb
          exact hK19 m20' _ _ (Nat.lt_succ_self _) ⟨true, (max 1 z148), ((qf2_0.set z76.toNat x78).set v7_0.toNat x87), ((qf11_0.set z113.toNat x115).set v7_0.toNat x124), e0, e1, e4, rfl, e6, rfl, (I64.max (show I64 1 from by unfold I64; omega) (chk_rng h149)), hC.sel [0, 1, 2] (by decide), lN hl0⟩
    · replace hb := (cF hq26).symm.trans hb
      refine Wc.exit rfl ?_
      obtain rfl := Option.some.inj hb
      obtain rfl := (lX hl0).symm
      exact hK18 _ _ ⟨v5_0, v7_0, qf2_0, qf11_0, e0, e4, e5, e6, hrv7_0, hC.sel [0, 2, 1] (by decide), hbK0⟩
  · clear hb hC hl0
    rintro E151 w150 ⟨v5_0, v7_0, qf2_0, qf11_0, e0, e4, e5, e6, hrv7_0, hC, hb⟩
    refine hK15 _ _ ?_
    refine Wc.seq fun K152 hK152 => ?_
    refine Wc.region (by decide +kernel) ?_
    refine lex.pure (v := .slice Abefore_0 before_0.length cbefore_0) (pu_move e0) ?_
    refine lex.pure (v := .slice A8 y6.length c10) (pu_move e6) ?_
    obtain ⟨y153, h154, hb⟩ := bd hb
    refine lex.cl (⟨_, _, op_call (vs := [.slice A8 y6.length c10]) Try.call57 rfl rfl rfl, perm_Inverse_ok n (hC.lentLt [.slice A8 y6.length c10]) ((hC.ow (i := 1) rfl).lend (vs := [.slice A8 y6.length c10]) (by simp)) h154⟩) ?_
    rintro _ w159 ⟨A155, m156, c157, rfl, hK⟩
    replace hC := hC.mergeF hK rfl
    clear hK
    obtain ⟨rfl, hl160, hc161⟩ := (hC.ow (i := 0) rfl).sl_len
    refine lex.op (hC.copy (i := 1) (s := (.int .i64)) (xs := before_0) (ys := y153) (m := y153.length) rfl rfl Try.underlying43 (congrArg (Option.map (·.size)) Try.type3) (hC.srco (i := 0) rfl) rfl rfl) ?_
    rintro _ w162 ⟨rfl, hC, hF⟩
    clear hF
    refine lex.nil ?_
    refine hK152 _ _ ?_
    refine Wc.seq fun K163 hK163 => ?_
    refine Wc.region (by decide +kernel) ?_
    refine lex.pure (v := .bool v5_0) (pu_move e5) ?_
    refine lex.pure (v := .bool v5_0) (pu_assign rfl) ?_
    refine lex.nil ?_
    refine hK163 _ _ ?_
    obtain rfl := Option.some.inj hb
    subst hI
    refine Wc.ret ?_
    refine hKR _ _ ?_
    refine ⟨_, res1 Try.results60 (show RV _ _ _ (.tmp _) (.bool v5_0) from rfl), _, rfl, rfl, hC.sel [1, 3] (by decide)⟩

set_option maxRecDepth 100000 in
set_option maxHeartbeats 4000000 in
theorem cmp_isNaN_int_ok (n : Nat) {w : World} {O0 : List Nat} (hO : ∀ k ∈ O0, k < w.heap.size) {x_0 : Int} (hx_0 : I64 x_0) {r : Bool} (hb : F.cmp_isNaN_int n x_0 = some r) :
    Calls Try.prog 68 #[.int .i64 x_0] w fun e w' => ∃ v, e = .returned v ∧ v = .bool r ∧ Cx (fun _ => False) O0 w w' [] := by
  unfold F.cmp_isNaN_int at hb
  have hC := Cx.start hO
  clear hO
  refine calls_of_Wc Try.func68 rfl (by rw [Try.ntmps68]; exact Nat.le_of_ble_eq_true rfl) fun KR hKR => ?_
  refine Wc.seq fun K1 hK1 => ?_
  refine Wc.region (by decide +kernel) ?_
  refine lex.pure (v := .bool false) (pu_assign rfl) ?_
  refine lex.nil ?_
  refine hK1 _ _ ?_
  refine Wc.seq fun K2 hK2 => ?_
  refine Wc.region (by decide +kernel) ?_
  refine lex.pure (v := .int .i64 x_0) (pu_move rfl) ?_
  refine lex.pure (v := .int .i64 x_0) (pu_move rfl) ?_
  refine lex.pure (v := .bool (!(decide (x_0 = x_0)))) (pu_neq (k := .i64) (a := x_0) (b := x_0) rfl rfl) ?_
  refine lex.pure (v := .bool (!(decide (x_0 = x_0)))) (pu_assign rfl) ?_
  refine lex.nil ?_
  refine hK2 _ _ ?_
  obtain rfl := Option.some.inj hb
  refine Wc.ret ?_
  refine hKR _ _ ?_
  refine ⟨_, res1 Try.results68 (show RV _ _ _ (.tmp _) (.bool (!(decide (x_0 = x_0)))) from rfl), _, rfl, rfl, hC.sel [] (by decide)⟩

set_option maxRecDepth 100000 in
set_option maxHeartbeats 4000000 in
theorem cmp_Less_int_ok (n : Nat) {w : World} {O0 : List Nat} (hO : ∀ k ∈ O0, k < w.heap.size) {x_0 : Int} (hx_0 : I64 x_0) {y_1 : Int} (hy_1 : I64 y_1) {r : Bool} (hb : F.cmp_Less_int n x_0 y_1 = some r) :
    Calls Try.prog 65 #[.int .i64 x_0, .int .i64 y_1] w fun e w' => ∃ v, e = .returned v ∧ v = .bool r ∧ Cx (fun _ => False) O0 w w' [] := by
  unfold F.cmp_Less_int at hb
  have hC := Cx.start hO
  clear hO
  refine calls_of_Wc Try.func65 rfl (by rw [Try.ntmps65]; exact Nat.le_of_ble_eq_true rfl) fun KR hKR => ?_
  refine Wc.seq fun K1 hK1 => ?_
  refine Wc.region (by decide +kernel) ?_
  refine lex.pure (v := .bool false) (pu_assign rfl) ?_
  refine lex.nil ?_
  refine hK1 _ _ ?_
  refine Wc.seq fun K2 hK2 => ?_
  refine Wc.region (by decide +kernel) ?_
  refine lex.pure (v := .int .i64 x_0) (pu_move rfl) ?_
  obtain ⟨y3, h4, hb⟩ := bd hb
  refine lex.cl (⟨_, _, op_call (vs := [.int .i64 x_0]) Try.call68 rfl rfl rfl, cmp_isNaN_int_ok n hC.lt hx_0 h4⟩) ?_
  rintro _ w5 ⟨rfl, hK⟩
  replace hC := hC.merge hK
  clear hK
  refine lex.pure (v := .bool y3) (pu_move rfl) ?_
  rcases bS y3 with hq6 | hq6
  · replace hb := (cT hq6).symm.trans hb
    refine lex.gpure (want_t rfl rfl (show _ = Value.bool y3 from rfl) hq6) (v := .int .i64 y_1) (pu_move rfl) ?_
    obtain ⟨y7, h8, hb⟩ := bd hb
    refine lex.gcl (want_t rfl rfl (show _ = Value.bool y3 from rfl) hq6) (⟨_, _, op_call (vs := [.int .i64 y_1]) Try.call68 rfl rfl rfl, cmp_isNaN_int_ok n hC.lt hy_1 h8⟩) ?_
    rintro _ w9 ⟨rfl, hK⟩
    replace hC := hC.merge hK
    clear hK
    refine lex.gpure (want_t rfl rfl (show _ = Value.bool y3 from rfl) hq6) (v := .bool (!y7)) (pu_not (q := y7) rfl) ?_
    refine lex.pure (v := .bool (!y7)) (pu_pickT (q := y3) rfl hq6 rfl) ?_
    refine lex.pure (v := .bool (!y7)) (pu_move rfl) ?_
    rcases bS (!y7) with hq10 | hq10
    · replace hb := (cT hq10).symm.trans hb
      refine lex.gskip (want_f rfl rfl (show _ = Value.bool (!y7) from rfl) hq10) ?_
      refine lex.gskip (want_f rfl rfl (show _ = Value.bool (!y7) from rfl) hq10) ?_
      refine lex.gskip (want_f rfl rfl (show _ = Value.bool (!y7) from rfl) hq10) ?_
      refine lex.pure (v := .bool true) (pu_pickT (q := (!y7)) rfl hq10 rfl) ?_
      refine lex.pure (v := .bool true) (pu_assign rfl) ?_
      refine lex.nil ?_
      refine hK2 _ _ ?_
      obtain rfl := Option.some.inj hb
      refine Wc.ret ?_
      refine hKR _ _ ?_
      refine ⟨_, res1 Try.results65 (show RV _ _ _ (.tmp _) (.bool true) from rfl), _, rfl, rfl, hC.sel [] (by decide)⟩
    · replace hb := (cF hq10).symm.trans hb
      refine lex.gpure (want_t rfl rfl (show _ = Value.bool (!y7) from rfl) hq10) (v := .int .i64 x_0) (pu_move rfl) ?_
      refine lex.gpure (want_t rfl rfl (show _ = Value.bool (!y7) from rfl) hq10) (v := .int .i64 y_1) (pu_move rfl) ?_
      refine lex.gpure (want_t rfl rfl (show _ = Value.bool (!y7) from rfl) hq10) (v := .bool (decide (x_0 < y_1))) (pu_lss (k := .i64) (a := x_0) (b := y_1) rfl rfl) ?_
      refine lex.pure (v := .bool (decide (x_0 < y_1))) (pu_pickF (q := (!y7)) rfl hq10 rfl) ?_
      refine lex.pure (v := .bool (decide (x_0 < y_1))) (pu_assign rfl) ?_
      refine lex.nil ?_
      refine hK2 _ _ ?_
      obtain rfl := Option.some.inj hb
      refine Wc.ret ?_
      refine hKR _ _ ?_
      refine ⟨_, res1 Try.results65 (show RV _ _ _ (.tmp _) (.bool (decide (x_0 < y_1))) from rfl), _, rfl, rfl, hC.sel [] (by decide)⟩
  · replace hb := (cF hq6).symm.trans hb
    refine lex.gskip (want_f rfl rfl (show _ = Value.bool y3 from rfl) hq6) ?_
    refine lex.gskip (want_f rfl rfl (show _ = Value.bool y3 from rfl) hq6) ?_
    refine lex.gskip (want_f rfl rfl (show _ = Value.bool y3 from rfl) hq6) ?_
    refine lex.pure (v := .bool false) (pu_pickF (q := y3) rfl hq6 rfl) ?_
    refine lex.pure (v := .bool false) (pu_move rfl) ?_
    refine lex.gpure (want_t rfl rfl (show _ = Value.bool false from rfl) rfl) (v := .int .i64 x_0) (pu_move rfl) ?_
    refine lex.gpure (want_t rfl rfl (show _ = Value.bool false from rfl) rfl) (v := .int .i64 y_1) (pu_move rfl) ?_
    refine lex.gpure (want_t rfl rfl (show _ = Value.bool false from rfl) rfl) (v := .bool (decide (x_0 < y_1))) (pu_lss (k := .i64) (a := x_0) (b := y_1) rfl rfl) ?_
    refine lex.pure (v := .bool (decide (x_0 < y_1))) (pu_pickF (q := false) rfl rfl rfl) ?_
    refine lex.pure (v := .bool (decide (x_0 < y_1))) (pu_assign rfl) ?_
    refine lex.nil ?_
    refine hK2 _ _ ?_
    obtain rfl := Option.some.inj hb
    refine Wc.ret ?_
    refine hKR _ _ ?_
    refine ⟨_, res1 Try.results65 (show RV _ _ _ (.tmp _) (.bool (decide (x_0 < y_1))) from rfl), _, rfl, rfl, hC.sel [] (by decide)⟩

set_option maxRecDepth 100000 in
set_option maxHeartbeats 4000000 in
theorem slices_IsSorted_Perm_int_ok (n : Nat) {w : World} {O0 : List Nat} (hO : ∀ k ∈ O0, k < w.heap.size) {Ax_0 : Option Addr} {mx_0 cx_0 : Nat} {x_0 : List Int} (hx_0 : Rep O0 w (.sl (.int .i64)) [.slice Ax_0 mx_0 cx_0] x_0) {r : Bool} (hb : F.slices_IsSorted_Perm_int n x_0 = some r) :
    Calls Try.prog 56 #[.slice Ax_0 mx_0 cx_0] w fun e w' => ∃ v, e = .returned v ∧ v = .bool r ∧ Cx (fun _ => False) O0 w w' [] := by
  unfold F.slices_IsSorted_Perm_int at hb
  have hC := Cx.start hO
  replace hC := hC.arg rfl hx_0
  clear hO
  obtain ⟨rfl, hlx_0, hcx_0⟩ := hx_0.sl_len
  refine calls_of_Wc Try.func56 rfl (by rw [Try.ntmps56]; exact Nat.le_of_ble_eq_true rfl) fun KR hKR => ?_
  refine Wc.seq fun K2 hK2 => ?_
  refine Wc.region (by decide +kernel) ?_
  refine lex.pure (v := .bool false) (pu_assign rfl) ?_
  refine lex.nil ?_
  refine hK2 _ _ ?_
  refine Wc.seq fun K3 hK3 => ?_
  refine Wc.seq fun K4 hK4 => ?_
  refine Wc.region (by decide +kernel) ?_
  refine lex.pure (v := .slice Ax_0 x_0.length cx_0) (pu_move rfl) ?_
  refine lex.pure (v := .int .i64 (x_0.length : Int)) (pu_len (A := Ax_0) (n := x_0.length) (m := cx_0) Try.underlying43 rfl) ?_
  obtain ⟨z5, h6, hb⟩ := bd hb
  refine lex.pure (v := .int .i64 z5) (pu_subc (a := (x_0.length : Int)) (b := 1) rfl rfl h6) ?_
  refine lex.pure (v := .int .i64 z5) (pu_assign rfl) ?_
  refine lex.nil ?_
  refine hK4 _ _ ?_
  obtain ⟨o7, hl0, hb⟩ := bd hb
  refine Wc.cut (fun E wv => ∃ (v3_0 : Int), E 2 = .bool false ∧ I64 v3_0 ∧ Cx (fun _ => False) O0 w wv [] ∧ (some true : Option (Bool)) = some r) (fun K8 hK8 => ?_) ?_
  · refine Wc.block ?_
    refine Wc.loop (fun m E wv => ∃ (v3_0 : Int), E 0 = .slice Ax_0 x_0.length cx_0 ∧ E 2 = .bool false ∧ E 3 = .int .i64 v3_0 ∧ I64 v3_0 ∧ Cx (fun _ => False) O0 w wv [.ro (.sl (.int .i64)) [.slice Ax_0 x_0.length cx_0] x_0] ∧ loopN m (F.slices_IsSorted_Perm_int_b0 n x_0) v3_0 = some o7) n ⟨z5, rfl, rfl, rfl, (chk_rng h6), hC.sel [0] (by decide), hl0⟩ ?_
    have hbK0 := hb
    clear hb hC hl0
    rintro m10 E12 w11 ⟨v3_0, e0, e2, e3, hrv3_0, hC, hl0⟩ K9 hK9
    obtain ⟨m10', o13, rfl, hb, hl0⟩ := loopN_some hl0
    unfold F.slices_IsSorted_Perm_int_b0 at hb
    refine Wc.seq fun K14 hK14 => ?_
    refine Wc.seq fun K15 hK15 => ?_
    refine Wc.region (by decide +kernel) ?_
    refine lex.pure (v := .int .i64 v3_0) (pu_move e3) ?_
    refine lex.pure (v := .bool (decide (0 < v3_0))) (pu_gtr (k := .i64) (a := v3_0) (b := 0) rfl rfl) ?_
    refine lex.nil ?_
    refine hK15 _ _ ?_
    refine Wc.cond (t := (decide (0 < v3_0))) (rfl) (fun hq16 => ?_) (fun hq16 => ?_)
    · replace hb := (cT hq16).symm.trans hb
      refine Wc.skip ?_
      refine hK14 _ _ ?_
      refine Wc.seq fun K17 hK17 => ?_
      refine Wc.block ?_
      refine Wc.seq fun K18 hK18 => ?_
      refine Wc.regionMix [] (frm [] ([] : List Fact) ([] : List Fact)) (fun _ => rfl) mixed (by decide +kernel) (by decide +kernel) fun w20 hw19 => ?_
      replace hC := hC.step (Fr.of_drew hw19)
      have hM := Fr.refl (fun k => k ∈ blocks ([] : List Fact)) w20
      clear hw19
      have hS := hC
      refine mixE.pure (v := .slice Ax_0 x_0.length cx_0) (pu_move e0) ?_
      refine mixE.pure (v := .int .i64 v3_0) (pu_move e3) ?_
      obtain ⟨x21, h22, hb⟩ := bd hb
      obtain ⟨ad23, cs24, hA, ho27, hc25, hr26⟩ := hS.elr2 (i := 0) rfl (get_some h22).2 []
      subst hA
      refine mixE.pure (v := .pointer (some (ad23.add (v3_0.toNat * 1)))) (pu_index (a := v3_0) Try.underlying43 Try.sizeOf3 rfl rfl (get_some h22).1) ?_
      obtain ⟨rfl, hr26'⟩ := hr26
      refine mixE.load hM (v := .int .i64 x21) (fun _ hF => ld_one Try.isAgg3 rfl (hF.cell (hc25 0 _ rfl) (off1 ho27))) ?_
      refine mixE.pure (v := .slice (some ad23) x_0.length cx_0) (pu_move e0) ?_
      refine mixE.pure (v := .int .i64 v3_0) (pu_move e3) ?_
      obtain ⟨z28, h29, hb⟩ := bd hb
      refine mixE.pure (v := .int .i64 z28) (pu_subc (a := v3_0) (b := 1) rfl rfl h29) ?_
      obtain ⟨x30, h31, hb⟩ := bd hb
      obtain ⟨ad32, cs33, hA, ho36, hc34, hr35⟩ := hS.elr2 (i := 0) rfl (get_some h31).2 []
      obtain rfl := Option.some.inj hA
      refine mixE.pure (v := .pointer (some (ad23.add (z28.toNat * 1)))) (pu_index (a := z28) Try.underlying43 Try.sizeOf3 rfl rfl (get_some h31).1) ?_
      obtain ⟨rfl, hr35'⟩ := hr35
      refine mixE.load hM (v := .int .i64 x30) (fun _ hF => ld_one Try.isAgg3 rfl (hF.cell (hc34 0 _ rfl) (off1 ho36))) ?_
      obtain ⟨y37, h38, hb⟩ := bd hb
      refine mixE.cl hM (⟨_, _, op_call (vs := [.int .i64 x21, .int .i64 x30]) Try.call65 rfl rfl rfl, cmp_Less_int_ok n hC.lt (wrap_I64 hr26') (wrap_I64 hr35') h38⟩) ?_
      rintro _ w39 ⟨rfl, hK⟩
      replace hM := hM.none hK.fr
      refine ⟨hM, ?_⟩
      replace hC := hC.merge hK
      clear hK
      refine mixE.nil ?_
      clear hS hM
      refine hK18 _ _ ?_
      refine Wc.cond (t := y37) (rfl) (fun hq40 => ?_) (fun hq40 => ?_)
      · replace hb := (cT hq40).symm.trans hb
        refine Wc.seq fun K41 hK41 => ?_
        refine Wc.region (by decide +kernel) ?_
        refine lex.pure (v := .bool false) (pu_assign rfl) ?_
        refine lex.nil ?_
        refine hK41 _ _ ?_
        obtain rfl := Option.some.inj hb
        obtain rfl := (lX hl0).symm
        replace hb := hbK0
        obtain rfl := Option.some.inj hb
        refine Wc.ret ?_
        refine hKR _ _ ?_
        refine ⟨_, res1 Try.results56 (show RV _ _ _ (.tmp _) (.bool false) from rfl), _, rfl, rfl, hC.sel [] (by decide)⟩
      · replace hb := (cF hq40).symm.trans hb
        refine Wc.skip ?_
        refine hK17 _ _ ?_
        refine Wc.region (by decide +kernel) ?_
        refine lex.pure (v := .int .i64 v3_0) (pu_move e3) ?_
        obtain ⟨z42, h43, hb⟩ := bd hb
        refine lex.pure (v := .int .i64 z42) (pu_subc (a := v3_0) (b := 1) rfl rfl h43) ?_
        refine lex.pure (v := .int .i64 z42) (pu_assign rfl) ?_
        refine lex.nil ?_
        obtain rfl := Option.some.inj hb
        exact hK9 m10' _ _ (Nat.lt_succ_self _) ⟨z42, e0, e2, rfl, (chk_rng h43), hC.sel [0] (by decide), lN hl0⟩
    · replace hb := (cF hq16).symm.trans hb
      refine Wc.exit rfl ?_
      obtain rfl := Option.some.inj hb
      obtain rfl := (lX hl0).symm
      exact hK8 _ _ ⟨v3_0, e2, hrv3_0, hC.sel [] (by decide), hbK0⟩
  · clear hb hC hl0
    rintro E45 w44 ⟨v3_0, e2, hrv3_0, hC, hb⟩
    refine hK3 _ _ ?_
    refine Wc.seq fun K46 hK46 => ?_
    refine Wc.region (by decide +kernel) ?_
    refine lex.pure (v := .bool true) (pu_assign rfl) ?_
    refine lex.nil ?_
    refine hK46 _ _ ?_
    obtain rfl := Option.some.inj hb
    refine Wc.ret ?_
    refine hKR _ _ ?_
    refine ⟨_, res1 Try.results56 (show RV _ _ _ (.tmp _) (.bool true) from rfl), _, rfl, rfl, hC.sel [] (by decide)⟩

set_option maxRecDepth 100000 in
set_option maxHeartbeats 4000000 in
theorem garside_settle_ok (n : Nat) {w : World} {O0 : List Nat} (hO : ∀ k ∈ O0, k < w.heap.size) {Afactors_0 : Option Addr} {mfactors_0 cfactors_0 : Nat} {hsfactors_0 : List Value} {factors_0 : List (List Int)} (hNfactors_0 : hsfactors_0.length = factors_0.length) (hio : Tk O0 w ([.own 43 .raw (.slice Afactors_0 mfactors_0 cfactors_0) hsfactors_0] ++ rowsF 3 (.int .i64) hsfactors_0 factors_0)) {r : (List (List Int))} (hb : F.garside_settle n factors_0 = some r) :
    Calls Try.prog 43 #[.slice Afactors_0 mfactors_0 cfactors_0] w fun e w' => ∃ v, e = .returned v ∧ ∃ (A0 : Option Addr) (m0 c0 : Nat) (hs0 : List Value), v = .slice A0 m0 c0 ∧ hs0.length = r.length ∧ Cx (fun k => k ∈ blocks ([.own 43 .raw (.slice Afactors_0 mfactors_0 cfactors_0) hsfactors_0] ++ rowsF 3 (.int .i64) hsfactors_0 factors_0)) O0 w w' ([.own 43 .raw (.slice A0 m0 c0) hs0] ++ rowsF 3 (.int .i64) hs0 r) := by
  unfold F.garside_settle at hb
  have hC := Cx.startTk hO hio
  have hsub := hio.2.2
  clear hO
  obtain ⟨hm, hlfactors_0, hcfactors_0⟩ := (hC.ow (i := 0) rfl).sl_len
  rw [hNfactors_0] at hm hlfactors_0
  subst hm
  clear hio hsub
  obtain ⟨I, hI, hC⟩ : ∃ I : Nat → Prop, I = (fun k => k ∈ blocks ([.own 43 .raw (.slice Afactors_0 factors_0.length cfactors_0) hsfactors_0] ++ rowsF 3 (.int .i64) hsfactors_0 factors_0)) ∧ Cx I O0 w w ([.own 43 .raw (.slice Afactors_0 factors_0.length cfactors_0) hsfactors_0] ++ rowsF 3 (.int .i64) hsfactors_0 factors_0) := ⟨_, rfl, hC⟩
  refine calls_of_Wc Try.func43 rfl (by rw [Try.ntmps43]; exact Nat.le_of_ble_eq_true rfl) fun KR hKR => ?_
  refine Wc.seq fun K2 hK2 => ?_
  refine Wc.region (by decide +kernel) ?_
  replace hC : Cx I O0 w w ([.own 43 .raw (.slice Afactors_0 factors_0.length cfactors_0) hsfactors_0] ++ rowsF 3 (.int .i64) hsfactors_0 factors_0) := hC
  refine lex.pure (v := .slice none 0 0) (pu_assign rfl) ?_
  refine lex.nil ?_
  refine hK2 _ _ ?_
  refine Wc.scope ?_
  refine Wc.seq fun K3 hK3 => ?_
  refine Wc.label ?_
  refine hK3 _ _ ?_
  refine Wc.seq fun K4 hK4 => ?_
  obtain ⟨o5, hl0, hb⟩ := bd hb
  refine Wc.cut (fun E wv => ∃ (qf1_0 : List (List Int)), E 0 = .slice Afactors_0 factors_0.length cfactors_0 ∧ E 2 = .slice none 0 0 ∧ hsfactors_0.length = qf1_0.length ∧ Cx I O0 w wv ([.own 43 .raw (.slice Afactors_0 factors_0.length cfactors_0) hsfactors_0] ++ rowsF 3 (.int .i64) hsfactors_0 qf1_0) ∧ (((loopN n (F.garside_settle_b2 n) qf1_0).bind fun o81 => match o81 with     | l0_2 => some l0_2) : Option ((List (List Int)))) = some r) (fun K6 hK6 => ?_) ?_
  · refine Wc.block ?_
    refine Wc.loop (fun m E wv => ∃ (qf1_0 : List (List Int)), E 0 = .slice Afactors_0 factors_0.length cfactors_0 ∧ E 2 = .slice none 0 0 ∧ hsfactors_0.length = qf1_0.length ∧ Cx I O0 w wv ([.own 43 .raw (.slice Afactors_0 factors_0.length cfactors_0) hsfactors_0] ++ rowsF 3 (.int .i64) hsfactors_0 qf1_0) ∧ loopN m (F.garside_settle_b0 n factors_0) qf1_0 = some o5) n ⟨factors_0, rfl, rfl, hNfactors_0, hC.selT [0] (by decide), hl0⟩ ?_
    have hbK0 := hb
    clear hb hC hl0
    rintro m8 E10 w9 ⟨qf1_0, e0, e2, hNqf1_0, hC, hl0⟩ K7 hK7
    obtain ⟨m8', o11, rfl, hb, hl0⟩ := loopN_some hl0
    unfold F.garside_settle_b0 at hb
    refine Wc.block ?_
    refine Wc.seq fun K12 hK12 => ?_
    refine Wc.region (by decide +kernel) ?_
    replace hC : Cx I O0 w w9 ([.own 43 .raw (.slice Afactors_0 factors_0.length cfactors_0) hsfactors_0] ++ rowsF 3 (.int .i64) hsfactors_0 qf1_0) := hC
    refine lex.pure (v := .bool false) (pu_assign rfl) ?_
    refine lex.nil ?_
    refine hK12 _ _ ?_
    refine Wc.seq fun K13 hK13 => ?_
    refine Wc.seq fun K14 hK14 => ?_
    refine Wc.region (by decide +kernel) ?_
    refine lex.pure (v := .slice Afactors_0 factors_0.length cfactors_0) (pu_move e0) ?_
    refine lex.pure (v := .int .i64 (factors_0.length : Int)) (pu_len (A := Afactors_0) (n := factors_0.length) (m := cfactors_0) Try.underlying26 rfl) ?_
    obtain ⟨z15, h16, hb⟩ := bd hb
    have ez15 := (chk_some h16).1
    refine lex.pure (v := .int .i64 z15) (pu_subc (a := (factors_0.length : Int)) (b := 1) rfl rfl h16) ?_
    refine lex.pure (v := .int .i64 z15) (pu_assign rfl) ?_
    refine lex.nil ?_
    refine hK14 _ _ ?_
    obtain ⟨o17, hl1, hb⟩ := bd hb
    refine Wc.cut (fun E wv => ∃ (v3_1 : Bool) (v4_1 : Int) (qf1_1 : List (List Int)), E 0 = .slice Afactors_0 factors_0.length cfactors_0 ∧ E 2 = .slice none 0 0 ∧ E 3 = .bool v3_1 ∧ E 4 = .int .i64 v4_1 ∧ I64 v4_1 ∧ hsfactors_0.length = qf1_1.length ∧ Cx I O0 w wv ([.own 43 .raw (.slice Afactors_0 factors_0.length cfactors_0) hsfactors_0] ++ rowsF 3 (.int .i64) hsfactors_0 qf1_1) ∧ (cond v3_1 (some (.inl qf1_1)) (some (.inr qf1_1)) : Option (((List (List Int))) ⊕ (((List (List Int)))))) = some o11) (fun K18 hK18 => ?_) ?_
    · refine Wc.block ?_
      refine Wc.loop (fun m E wv => ∃ (v3_1 : Bool) (v4_1 : Int) (qf1_1 : List (List Int)), E 0 = .slice Afactors_0 factors_0.length cfactors_0 ∧ E 2 = .slice none 0 0 ∧ E 3 = .bool v3_1 ∧ E 4 = .int .i64 v4_1 ∧ I64 v4_1 ∧ hsfactors_0.length = qf1_1.length ∧ Cx I O0 w wv ([.own 43 .raw (.slice Afactors_0 factors_0.length cfactors_0) hsfactors_0] ++ rowsF 3 (.int .i64) hsfactors_0 qf1_1) ∧ loopN m (F.garside_settle_b1 n) (v3_1, v4_1, qf1_1) = some o17) n ⟨false, z15, qf1_0, e0, e2, rfl, rfl, (chk_rng h16), hNqf1_0, hC.selT [0] (by decide), hl1⟩ ?_
      have hbK1 := hb
      clear hb hC hl1
      rintro m20 E22 w21 ⟨v3_1, v4_1, qf1_1, e0, e2, e3, e4, hrv4_1, hNqf1_1, hC, hl1⟩ K19 hK19
      obtain ⟨m20', o23, rfl, hb, hl1⟩ := loopN_some hl1
      unfold F.garside_settle_b1 at hb
      refine Wc.seq fun K24 hK24 => ?_
      refine Wc.seq fun K25 hK25 => ?_
      refine Wc.region (by decide +kernel) ?_
      replace hC : Cx I O0 w w21 ([.own 43 .raw (.slice Afactors_0 factors_0.length cfactors_0) hsfactors_0] ++ rowsF 3 (.int .i64) hsfactors_0 qf1_1) := hC
      refine lex.pure (v := .int .i64 v4_1) (pu_move e4) ?_
      refine lex.pure (v := .bool (decide (0 < v4_1))) (pu_gtr (k := .i64) (a := v4_1) (b := 0) rfl rfl) ?_
      refine lex.nil ?_
      refine hK25 _ _ ?_
      refine Wc.cond (t := (decide (0 < v4_1))) (rfl) (fun hq26 => ?_) (fun hq26 => ?_)
      · replace hb := (cT hq26).symm.trans hb
        refine Wc.skip ?_
        refine hK24 _ _ ?_
        refine Wc.seq fun K27 hK27 => ?_
        refine Wc.block ?_
        refine Wc.seq fun K28 hK28 => ?_
        refine Wc.regionMix [] (frm [] (rowsF 3 (.int .i64) hsfactors_0 qf1_1) ([] : List Fact)) (fun _ => rfl) mixed (by decide +kernel) (by decide +kernel) fun w30 hw29 => ?_
        replace hC := hC.step (Fr.of_drew hw29)
        have hM := Fr.refl (fun k => k ∈ blocks (rowsF 3 (.int .i64) hsfactors_0 qf1_1)) w30
        clear hw29
        have hS := hC
        replace hC : Cx I O0 w w30 ([.own 43 .raw (.slice Afactors_0 factors_0.length cfactors_0) hsfactors_0] ++ rowsF 3 (.int .i64) hsfactors_0 qf1_1) := hC
        refine mixE.pure (v := .slice Afactors_0 factors_0.length cfactors_0) (pu_move e0) ?_
        refine mixE.pure (v := .int .i64 v4_1) (pu_move e4) ?_
        obtain ⟨z31, h32, hb⟩ := bd hb
        have ez31 := (chk_some h32).1
        refine mixE.pure (v := .int .i64 z31) (pu_subc (a := v4_1) (b := 1) rfl rfl h32) ?_
        obtain ⟨x33, h34, hb⟩ := bd hb
        obtain ⟨v39, hv40, -⟩ := rowsF_get (e := 3) (s := (.int .i64)) hNqf1_1 (get_some h34).2
        obtain ⟨ad35, cs36, hA, ho41, hc37, hr38⟩ := hS.eloT (i := 0) rfl hv40
        subst hA
        refine mixE.pure (v := .pointer (some (ad35.add (z31.toNat * 1)))) (pu_index (a := z31) Try.underlying26 Try.sizeOf43 rfl rfl (by rw [(hC.ow (i := 0) rfl).sl_len.1, hNqf1_1]; exact (get_some h34).1)) ?_
        replace hC : Cx I O0 w w30 ([.own 43 .raw (.slice (some ad35) factors_0.length cfactors_0) hsfactors_0] ++ rowsF 3 (.int .i64) hsfactors_0 qf1_1) := hC
        obtain ⟨A42, c43, hvf46, hl44, hc45⟩ := (hC.rowOw hv40 (get_some h34).2).form
        subst hvf46
        obtain ⟨rfl, -⟩ := hr38
        refine mixE.load hM (v := .slice A42 x33.length c43) (fun _ hF => ld_one Try.isAgg43 rfl (hF.cell (hc37 0 _ rfl) (off1 ho41))) ?_
        refine mixE.pure (v := .slice (some ad35) factors_0.length cfactors_0) (pu_move e0) ?_
        refine mixE.pure (v := .int .i64 v4_1) (pu_move e4) ?_
        obtain ⟨x48, h49, hb⟩ := bd hb
        obtain ⟨v54, hv55, -⟩ := rowsF_get (e := 3) (s := (.int .i64)) hNqf1_1 (get_some h49).2
        obtain ⟨ad50, cs51, hA, ho56, hc52, hr53⟩ := hS.eloT (i := 0) rfl hv55
        obtain rfl := Option.some.inj hA
        refine mixE.pure (v := .pointer (some (ad35.add (v4_1.toNat * 1)))) (pu_index (a := v4_1) Try.underlying26 Try.sizeOf43 rfl rfl (by rw [(hC.ow (i := 0) rfl).sl_len.1, hNqf1_1]; exact (get_some h49).1)) ?_
        obtain ⟨A57, c58, hvf61, hl59, hc60⟩ := (hC.rowOw hv55 (get_some h49).2).form
        subst hvf61
        obtain ⟨rfl, -⟩ := hr53
        refine mixE.load hM (v := .slice A57 x48.length c58) (fun _ hF => ld_one Try.isAgg43 rfl (hF.cell (hc52 0 _ rfl) (off1 ho56))) ?_
        have hne63 : z31.toNat ≠ v4_1.toNat := by have h1 := (get_some h34).1; have h2 := (get_some h49).1; omega
        obtain ⟨y64, h65, hb⟩ := bd hb
        refine mixE.cl hM (⟨_, _, op_call (vs := [.slice A42 x33.length c43, .slice A57 x48.length c58]) Try.call60 rfl rfl rfl, garside_moveLetters_ok n hC.lt (hC.rowIO2 hne63 hv40 (get_some h34).2 hv55 (get_some h49).2) h65⟩) ?_
        rintro _ w66 ⟨rfl, hK⟩
        replace hM := hM.row2 hv40 (get_some h34).2 hv55 (get_some h49).2 hK.fr
        refine ⟨hM, ?_⟩
        replace hC := hC.row2 hne63 hv40 (get_some h34).2 hv55 (get_some h49).2 hK rfl
        clear hK
        have hN67 : hsfactors_0.length = ((qf1_1.set z31.toNat y64.2.1).set v4_1.toNat y64.2.2).length := by simp only [List.length_set]; exact hNqf1_1
        replace hC : Cx I O0 w w66 ([.own 43 .raw (.slice (some ad35) factors_0.length cfactors_0) hsfactors_0] ++ rowsF 3 (.int .i64) hsfactors_0 ((qf1_1.set z31.toNat y64.2.1).set v4_1.toNat y64.2.2)) := hC
        refine mixE.nil ?_
        clear hS hM
        refine hK28 _ _ ?_
        refine Wc.cond (t := y64.1) (rfl) (fun hq68 => ?_) (fun hq68 => ?_)
        · replace hb := (cT hq68).symm.trans hb
          refine Wc.region (by decide +kernel) ?_
          refine lex.pure (v := .bool true) (pu_assign rfl) ?_
          refine lex.nil ?_
          refine hK27 _ _ ?_
          refine Wc.region (by decide +kernel) ?_
          refine lex.pure (v := .int .i64 v4_1) (pu_move e4) ?_
          obtain ⟨z69, h70, hb⟩ := bd hb
          have ez69 := (chk_some h70).1
          refine lex.pure (v := .int .i64 z69) (pu_subc (a := v4_1) (b := 1) rfl rfl h70) ?_
          refine lex.pure (v := .int .i64 z69) (pu_assign rfl) ?_
          refine lex.nil ?_
          obtain rfl := Option.some.inj hb
          exact hK19 m20' _ _ (Nat.lt_succ_self _) ⟨true, z69, ((qf1_1.set z31.toNat y64.2.1).set v4_1.toNat y64.2.2), e0, e2, rfl, rfl, (chk_rng h70), hN67, hC.selT [0] (by decide), lN hl1⟩
        · replace hb := (cF hq68).symm.trans hb
          refine Wc.skip ?_
          refine hK27 _ _ ?_
          refine Wc.region (by decide +kernel) ?_
          refine lex.pure (v := .int .i64 v4_1) (pu_move e4) ?_
          obtain ⟨z71, h72, hb⟩ := bd hb
          have ez71 := (chk_some h72).1
          refine lex.pure (v := .int .i64 z71) (pu_subc (a := v4_1) (b := 1) rfl rfl h72) ?_
          refine lex.pure (v := .int .i64 z71) (pu_assign rfl) ?_
          refine lex.nil ?_
          obtain rfl := Option.some.inj hb
          exact hK19 m20' _ _ (Nat.lt_succ_self _) ⟨v3_1, z71, ((qf1_1.set z31.toNat y64.2.1).set v4_1.toNat y64.2.2), e0, e2, e3, rfl, (chk_rng h72), hN67, hC.selT [0] (by decide), lN hl1⟩
      · replace hb := (cF hq26).symm.trans hb
        refine Wc.exit rfl ?_
        obtain rfl := Option.some.inj hb
        obtain rfl := (lX hl1).symm
        exact hK18 _ _ ⟨v3_1, v4_1, qf1_1, e0, e2, e3, e4, hrv4_1, hNqf1_1, hC.selT [0] (by decide), hbK1⟩
    · clear hb hC hl1
      rintro E74 w73 ⟨v3_1, v4_1, qf1_1, e0, e2, e3, e4, hrv4_1, hNqf1_1, hC, hb⟩
      refine hK13 _ _ ?_
      refine Wc.seq fun K75 hK75 => ?_
      refine Wc.seq fun K76 hK76 => ?_
      refine Wc.region (by decide +kernel) ?_
      replace hC : Cx I O0 w w73 ([.own 43 .raw (.slice Afactors_0 factors_0.length cfactors_0) hsfactors_0] ++ rowsF 3 (.int .i64) hsfactors_0 qf1_1) := hC
      refine lex.pure (v := .bool v3_1) (pu_move e3) ?_
      refine lex.nil ?_
      refine hK76 _ _ ?_
      refine Wc.cond (t := v3_1) (rfl) (fun hq77 => ?_) (fun hq77 => ?_)
      · replace hb := (cT hq77).symm.trans hb
        refine Wc.exit rfl ?_
        obtain rfl := Option.some.inj hb
        exact hK7 m8' _ _ (Nat.lt_succ_self _) ⟨qf1_1, e0, e2, hNqf1_1, hC.selT [0] (by decide), lN hl0⟩
      · replace hb := (cF hq77).symm.trans hb
        refine Wc.skip ?_
        refine hK75 _ _ ?_
        refine Wc.exit rfl ?_
        obtain rfl := Option.some.inj hb
        obtain rfl := (lX hl0).symm
        exact hK6 _ _ ⟨qf1_1, e0, e2, hNqf1_1, hC.selT [0] (by decide), hbK0⟩
  · clear hb hC hl0
    rintro E79 w78 ⟨qf1_0, e0, e2, hNqf1_0, hC, hb⟩
    refine hK4 _ _ ?_
    refine Wc.seq fun K80 hK80 => ?_
    obtain ⟨o81, hl2, hb⟩ := bd hb
    refine Wc.cut (fun E wv => ∃ (l0_2 : List (List Int)) (Al0_2 : Option Addr) (ml0_2 cl0_2 : Nat) (hsl0_2 : List Value), E 0 = .slice Al0_2 ml0_2 cl0_2 ∧ E 2 = .slice none 0 0 ∧ hsl0_2.length = l0_2.length ∧ Cx I O0 w wv ([.own 43 .raw (.slice Al0_2 ml0_2 cl0_2) hsl0_2] ++ rowsF 3 (.int .i64) hsl0_2 l0_2) ∧ (some l0_2 : Option ((List (List Int)))) = some r) (fun K82 hK82 => ?_) ?_
    · refine Wc.block ?_
      replace hC : Cx I O0 w w78 ([.own 43 .raw (.slice Afactors_0 factors_0.length cfactors_0) hsfactors_0] ++ rowsF 3 (.int .i64) hsfactors_0 qf1_0) := hC
      refine Wc.loop (fun m E wv => ∃ (l0_2 : List (List Int)) (Al0_2 : Option Addr) (ml0_2 cl0_2 : Nat) (hsl0_2 : List Value), E 0 = .slice Al0_2 ml0_2 cl0_2 ∧ E 2 = .slice none 0 0 ∧ hsl0_2.length = l0_2.length ∧ Cx I O0 w wv ([.own 43 .raw (.slice Al0_2 ml0_2 cl0_2) hsl0_2] ++ rowsF 3 (.int .i64) hsl0_2 l0_2) ∧ loopN m (F.garside_settle_b2 n) l0_2 = some o81) n ⟨qf1_0, Afactors_0, factors_0.length, cfactors_0, hsfactors_0, e0, e2, hNqf1_0, hC.selT [0] (by decide), hl2⟩ ?_
      have hbK2 := hb
      clear hb hC hl2
      rintro m84 E86 w85 ⟨l0_2, Al0_2, ml0_2, cl0_2, hsl0_2, e0, e2, hNl0_2, hC, hl2⟩ K83 hK83
      obtain ⟨m84', o87, rfl, hb, hl2⟩ := loopN_some hl2
      unfold F.garside_settle_b2 at hb
      obtain ⟨hm, hll0_2, hcl0_2⟩ := (hC.ow (i := 0) rfl).sl_len
      rw [hNl0_2] at hm hll0_2
      subst hm
      refine Wc.seq fun K88 hK88 => ?_
      refine Wc.seq fun K89 hK89 => ?_
      refine Wc.region (by decide +kernel) ?_
      replace hC : Cx I O0 w w85 ([.own 43 .raw (.slice Al0_2 l0_2.length cl0_2) hsl0_2] ++ rowsF 3 (.int .i64) hsl0_2 l0_2) := hC
      refine lex.pure (v := .slice Al0_2 l0_2.length cl0_2) (pu_move e0) ?_
      refine lex.pure (v := .int .i64 (l0_2.length : Int)) (pu_len (A := Al0_2) (n := l0_2.length) (m := cl0_2) Try.underlying26 rfl) ?_
      refine lex.pure (v := .bool (decide (0 < (l0_2.length : Int)))) (pu_gtr (k := .i64) (a := (l0_2.length : Int)) (b := 0) rfl rfl) ?_
      refine lex.pure (v := .bool (decide (0 < (l0_2.length : Int)))) (pu_move rfl) ?_
      rcases bS (decide (0 < (l0_2.length : Int))) with hq90 | hq90
      · replace hb := (cT hq90).symm.trans hb
        refine lex.gpure (want_t rfl rfl (show _ = Value.bool (decide (0 < (l0_2.length : Int))) from rfl) hq90) (v := .slice Al0_2 l0_2.length cl0_2) (pu_move e0) ?_
        refine lex.gpure (want_t rfl rfl (show _ = Value.bool (decide (0 < (l0_2.length : Int))) from rfl) hq90) (v := .slice Al0_2 l0_2.length cl0_2) (pu_move e0) ?_
        refine lex.gpure (want_t rfl rfl (show _ = Value.bool (decide (0 < (l0_2.length : Int))) from rfl) hq90) (v := .int .i64 (l0_2.length : Int)) (pu_len (A := Al0_2) (n := l0_2.length) (m := cl0_2) Try.underlying26 rfl) ?_
        obtain ⟨z91, h92, hb⟩ := bd hb
        have ez91 := (chk_some h92).1
        refine lex.gpure (want_t rfl rfl (show _ = Value.bool (decide (0 < (l0_2.length : Int))) from rfl) hq90) (v := .int .i64 z91) (pu_subc (a := (l0_2.length : Int)) (b := 1) rfl rfl h92) ?_
        obtain ⟨x93, h94, hb⟩ := bd hb
        obtain ⟨v99, hv100, -⟩ := rowsF_get (e := 3) (s := (.int .i64)) hNl0_2 (get_some h94).2
        obtain ⟨ad95, cs96, hA, hc97, hr98⟩ := hC.elo (i := 0) rfl hv100
        subst hA
        refine lex.gpure (want_t rfl rfl (show _ = Value.bool (decide (0 < (l0_2.length : Int))) from rfl) hq90) (v := .pointer (some (ad95.add (z91.toNat * 1)))) (pu_index (a := z91) Try.underlying26 Try.sizeOf43 rfl rfl (get_some h94).1) ?_
        replace hC : Cx I O0 w w85 ([.own 43 .raw (.slice (some ad95) l0_2.length cl0_2) hsl0_2] ++ rowsF 3 (.int .i64) hsl0_2 l0_2) := hC
        obtain ⟨A101, c102, hvf105, hl103, hc104⟩ := (hC.rowOw hv100 (get_some h94).2).form
        subst hvf105
        obtain ⟨rfl, -⟩ := hr98
        refine lex.gval (want_t rfl rfl (show _ = Value.bool (decide (0 < (l0_2.length : Int))) from rfl) hq90) (v := .slice A101 x93.length c102) (ld_one Try.isAgg43 rfl (hc97 0 _ rfl)) ?_
        obtain ⟨y107, h108, hb⟩ := bd hb
        refine lex.gcl (want_t rfl rfl (show _ = Value.bool (decide (0 < (l0_2.length : Int))) from rfl) hq90) (⟨_, _, op_call (vs := [.slice A101 x93.length c102]) Try.call56 rfl rfl rfl, slices_IsSorted_Perm_int_ok n (hC.lentLt [.slice A101 x93.length c102]) ((hC.rowOw hv100 (get_some h94).2).lend (vs := [.slice A101 x93.length c102]) (by simp)) h108⟩) ?_
        rintro _ w109 ⟨rfl, hK⟩
        replace hC := hC.mergeF hK rfl
        clear hK
        replace hC : Cx I O0 w w109 ([.own 43 .raw (.slice (some ad95) l0_2.length cl0_2) hsl0_2] ++ rowsF 3 (.int .i64) hsl0_2 l0_2) := hC
        refine lex.pure (v := .bool y107) (pu_pickT (q := (decide (0 < (l0_2.length : Int)))) rfl hq90 rfl) ?_
        refine lex.nil ?_
        refine hK89 _ _ ?_
        refine Wc.cond (t := y107) (rfl) (fun hq110 => ?_) (fun hq110 => ?_)
        · replace hb := (cT hq110).symm.trans hb
          refine Wc.skip ?_
          refine hK88 _ _ ?_
          refine Wc.fresh fun E111 hE => ?_
          have e0 : E111 0 = .slice (some ad95) l0_2.length cl0_2 := (congrFun hE 0).trans e0
          have e2 : E111 2 = .slice none 0 0 := (congrFun hE 2).trans e2
          have e34 : E111 34 = .bool y107 := (congrFun hE 34).trans rfl
          clear hE
          refine Wc.block ?_
          refine Wc.region (by decide +kernel) ?_
          refine lex.pure (v := .slice (some ad95) l0_2.length cl0_2) (pu_move e0) ?_
          refine lex.pure (v := .slice (some ad95) l0_2.length cl0_2) (pu_move e0) ?_
          refine lex.pure (v := .int .i64 (l0_2.length : Int)) (pu_len (A := (some ad95)) (n := l0_2.length) (m := cl0_2) Try.underlying26 rfl) ?_
          obtain ⟨z112, h113, hb⟩ := bd hb
          have ez112 := (chk_some h113).1
          refine lex.pure (v := .int .i64 z112) (pu_subc (a := (l0_2.length : Int)) (b := 1) rfl rfl h113) ?_
          obtain ⟨u114, h115, hb⟩ := bd hb
          have hnl : l0_2.length = l0_2.length ∧ l0_2.length ≤ cl0_2 ∧ cl0_2 ≤ 9223372036854775807 := by have hnl := (hC.ow (i := 0) rfl).sl_len; rwa [hNl0_2] at hnl
          refine lex.pure (v := .slice (some ad95) ((l0_2.take z112.toNat).length) cl0_2) (pu_cuth (b := z112) (xs := l0_2) Try.underlying26 Try.sizeOf43 rfl rfl hnl (cut_some h115)) ?_
          replace hC := hC.nestTake (i := 0) rfl hNl0_2 (k := z112.toNat) (by have := cut_some h115; omega)
          have hN118 : (hsl0_2.take z112.toNat).length = (l0_2.take z112.toNat).length := by rw [List.length_take, List.length_take, hNl0_2]
          replace hC : Cx I O0 w w109 ([.own 43 .raw (.slice (some ad95) ((l0_2.take z112.toNat).length) cl0_2) (hsl0_2.take z112.toNat)] ++ rowsF 3 (.int .i64) (hsl0_2.take z112.toNat) (l0_2.take z112.toNat)) := hC
          have hl116 := (hC.ow (i := 0) rfl).sl_len.2.1
          rw [hN118] at hl116
          have hc117 := (hC.ow (i := 0) rfl).sl_len.2.2
          refine lex.pure (v := .slice (some ad95) ((l0_2.take z112.toNat).length) cl0_2) (pu_assign rfl) ?_
          refine lex.nil ?_
          obtain rfl := Option.some.inj hb
          exact hK83 m84' _ _ (Nat.lt_succ_self _) ⟨(l0_2.take z112.toNat), (some ad95), (l0_2.take z112.toNat).length, cl0_2, (hsl0_2.take z112.toNat), rfl, e2, hN118, hC.selT [0] (by decide), lN hl2⟩
        · replace hb := (cF hq110).symm.trans hb
          refine Wc.exit rfl ?_
          obtain rfl := Option.some.inj hb
          obtain rfl := (lX hl2).symm
          exact hK82 _ _ ⟨l0_2, (some ad95), l0_2.length, cl0_2, hsl0_2, e0, e2, hNl0_2, hC.selT [0] (by decide), hbK2⟩
      · replace hb := (cF hq90).symm.trans hb
        refine lex.gskip (want_f rfl rfl (show _ = Value.bool (decide (0 < (l0_2.length : Int))) from rfl) hq90) ?_
        refine lex.gskip (want_f rfl rfl (show _ = Value.bool (decide (0 < (l0_2.length : Int))) from rfl) hq90) ?_
        refine lex.gskip (want_f rfl rfl (show _ = Value.bool (decide (0 < (l0_2.length : Int))) from rfl) hq90) ?_
        refine lex.gskip (want_f rfl rfl (show _ = Value.bool (decide (0 < (l0_2.length : Int))) from rfl) hq90) ?_
        refine lex.gskip (want_f rfl rfl (show _ = Value.bool (decide (0 < (l0_2.length : Int))) from rfl) hq90) ?_
        refine lex.gskip (want_f rfl rfl (show _ = Value.bool (decide (0 < (l0_2.length : Int))) from rfl) hq90) ?_
        refine lex.gskip (want_f rfl rfl (show _ = Value.bool (decide (0 < (l0_2.length : Int))) from rfl) hq90) ?_
        refine lex.pure (v := .bool false) (pu_pickF (q := (decide (0 < (l0_2.length : Int)))) rfl hq90 rfl) ?_
        refine lex.nil ?_
        refine hK89 _ _ ?_
        refine Wc.cond_false (rfl) ?_
        refine Wc.exit rfl ?_
        obtain rfl := Option.some.inj hb
        obtain rfl := (lX hl2).symm
        exact hK82 _ _ ⟨l0_2, Al0_2, l0_2.length, cl0_2, hsl0_2, e0, e2, hNl0_2, hC.selT [0] (by decide), hbK2⟩
    · clear hb hC hl2
      rintro E120 w119 ⟨l0_2, Al0_2, ml0_2, cl0_2, hsl0_2, e0, e2, hNl0_2, hC, hb⟩
      obtain ⟨hm, hll0_2, hcl0_2⟩ := (hC.ow (i := 0) rfl).sl_len
      rw [hNl0_2] at hm hll0_2
      subst hm
      refine hK80 _ _ ?_
      refine Wc.seq fun K121 hK121 => ?_
      refine Wc.region (by decide +kernel) ?_
      replace hC : Cx I O0 w w119 ([.own 43 .raw (.slice Al0_2 l0_2.length cl0_2) hsl0_2] ++ rowsF 3 (.int .i64) hsl0_2 l0_2) := hC
      refine lex.pure (v := .slice Al0_2 l0_2.length cl0_2) (pu_move e0) ?_
      refine lex.pure (v := .slice Al0_2 l0_2.length cl0_2) (pu_assign rfl) ?_
      refine lex.nil ?_
      refine hK121 _ _ ?_
      obtain rfl := Option.some.inj hb
      subst hI
      refine Wc.ret ?_
      refine hKR _ _ ?_
      refine ⟨_, res1 Try.results43 (show RV _ _ _ (.tmp _) (.slice Al0_2 l0_2.length cl0_2) from rfl), _, rfl, Al0_2, l0_2.length, cl0_2, hsl0_2, rfl, hNl0_2, hC.selT [0] (by decide)⟩
end Go.Proofs.Ytkeaonceaaafcaa
