/- The walks: part 7. -/
import Derived.Test.YtkeaonceaaafcaaS
set_option linter.unusedVariables false
set_option linter.unusedSimpArgs false
namespace Go.Proofs.Ytkeaonceaaafcaa
open Ev
set_option maxRecDepth 100000 in
set_option maxHeartbeats 4000000 in
theorem ref34_Letters_ok (n : Nat) {w : World} {O0 : List Nat} (hO : ∀ k ∈ O0, k < w.heap.size) {Ap_0 : Option Addr} {mp_0 cp_0 : Nat} {p_0 : List Int} (hp_0 : Rep O0 w (.sl (.int .i64)) [.slice Ap_0 mp_0 cp_0] p_0) {r : (List Int)} (hb : F.ref34_Letters n p_0 = some r) :
    Calls Try.prog 45 #[.slice Ap_0 mp_0 cp_0] w fun e w' => ∃ v, e = .returned v ∧ ∃ (A0 : Option Addr) (m0 c0 : Nat), v = .slice A0 m0 c0 ∧ Cx (fun _ => False) O0 w w' [.own 3 (.int .i64) (.slice A0 m0 c0) r] := by
  unfold F.ref34_Letters at hb
  have hC := Cx.start hO
  replace hC := hC.arg rfl hp_0
  clear hO
  obtain ⟨rfl, hlp_0, hcp_0⟩ := hp_0.sl_len
  refine calls_of_Wc Try.func45 rfl (by rw [Try.ntmps45]; exact Nat.le_of_ble_eq_true rfl) fun KR hKR => ?_
  refine Wc.seq fun K2 hK2 => ?_
  refine Wc.region (by decide +kernel) ?_
  refine lex.pure (v := .slice none 0 0) (pu_assign rfl) ?_
  refine lex.nil ?_
  refine hK2 _ _ ?_
  refine Wc.seq fun K3 hK3 => ?_
  refine Wc.region (by decide +kernel) ?_
  refine lex.pure (v := .slice none 0 0) (pu_assign rfl) ?_
  refine lex.nil ?_
  refine hK3 _ _ ?_
  refine Wc.seq fun K4 hK4 => ?_
  refine Wc.seq fun K5 hK5 => ?_
  refine Wc.region (by decide +kernel) ?_
  refine lex.pure (v := .int .i64 1) (pu_assign rfl) ?_
  refine lex.nil ?_
  refine hK5 _ _ ?_
  replace hC := hC.nil 3 (.int .i64)
  obtain ⟨o7, hl0, hb⟩ := bd hb
  refine Wc.cut (fun E wv => ∃ (l3_0 : List Int) (v4_0 : Int) (Al3_0 : Option Addr) (ml3_0 cl3_0 : Nat), E 2 = .slice none 0 0 ∧ E 3 = .slice Al3_0 ml3_0 cl3_0 ∧ I64 v4_0 ∧ Cx (fun _ => False) O0 w wv [.own 3 (.int .i64) (.slice Al3_0 ml3_0 cl3_0) l3_0] ∧ (some l3_0 : Option ((List Int))) = some r) (fun K8 hK8 => ?_) ?_
  · refine Wc.block ?_
    refine Wc.loop (fun m E wv => ∃ (l3_0 : List Int) (v4_0 : Int) (Al3_0 : Option Addr) (ml3_0 cl3_0 : Nat), E 0 = .slice Ap_0 p_0.length cp_0 ∧ E 2 = .slice none 0 0 ∧ E 3 = .slice Al3_0 ml3_0 cl3_0 ∧ E 4 = .int .i64 v4_0 ∧ I64 v4_0 ∧ Cx (fun _ => False) O0 w wv [.ro (.sl (.int .i64)) [.slice Ap_0 p_0.length cp_0] p_0, .own 3 (.int .i64) (.slice Al3_0 ml3_0 cl3_0) l3_0] ∧ loopN m (F.ref34_Letters_b0 n p_0) (l3_0, v4_0) = some o7) n ⟨([] : List Int), 1, none, 0, 0, rfl, rfl, rfl, rfl, (show I64 1 from by unfold I64; omega), hC.sel [1, 0] (by decide), hl0⟩ ?_
    have hbK0 := hb
    clear hb hC hl0
    rintro m10 E12 w11 ⟨l3_0, v4_0, Al3_0, ml3_0, cl3_0, e0, e2, e3, e4, hrv4_0, hC, hl0⟩ K9 hK9
    obtain ⟨m10', o13, rfl, hb, hl0⟩ := loopN_some hl0
    unfold F.ref34_Letters_b0 at hb
    obtain ⟨rfl, hll3_0, hcl3_0⟩ := (hC.ow (i := 1) rfl).sl_len
    refine Wc.seq fun K14 hK14 => ?_
    refine Wc.seq fun K15 hK15 => ?_
    refine Wc.region (by decide +kernel) ?_
    refine lex.pure (v := .int .i64 v4_0) (pu_move e4) ?_
    refine lex.pure (v := .slice Ap_0 p_0.length cp_0) (pu_move e0) ?_
    refine lex.pure (v := .int .i64 (p_0.length : Int)) (pu_len (A := Ap_0) (n := p_0.length) (m := cp_0) Try.underlying22 rfl) ?_
    refine lex.pure (v := .bool (decide (v4_0 < (p_0.length : Int)))) (pu_lss (k := .i64) (a := v4_0) (b := (p_0.length : Int)) rfl rfl) ?_
    refine lex.nil ?_
    refine hK15 _ _ ?_
    refine Wc.cond (t := (decide (v4_0 < (p_0.length : Int)))) (rfl) (fun hq16 => ?_) (fun hq16 => ?_)
    · replace hb := (cT hq16).symm.trans hb
      refine Wc.skip ?_
      refine hK14 _ _ ?_
      refine Wc.seq fun K17 hK17 => ?_
      refine Wc.block ?_
      refine Wc.seq fun K18 hK18 => ?_
      refine Wc.regionMix [] (frm [] ([] : List Fact) ([] : List Fact)) (fun _ => rfl) mixed (by decide +kernel) (by decide +kernel) fun w20 hw19 => ?_
      replace hC := hC.step (Fr.of_drew hw19)
      have hM := Fr.refl (fun k => k ∈ blocks ([] : List Fact)) w20
      clear hw19
      have hS := hC
      refine mixE.pure (v := .slice Ap_0 p_0.length cp_0) (pu_move e0) ?_
      refine mixE.pure (v := .int .i64 v4_0) (pu_move e4) ?_
      obtain ⟨z21, h22, hb⟩ := bd hb
      refine mixE.pure (v := .int .i64 z21) (pu_subc (a := v4_0) (b := 1) rfl rfl h22) ?_
      obtain ⟨x23, h24, hb⟩ := bd hb
      obtain ⟨ad25, cs26, hA, ho29, hc27, hr28⟩ := hS.elr2 (i := 0) rfl (get_some h24).2 []
      subst hA
      refine mixE.pure (v := .pointer (some (ad25.add (z21.toNat * 1)))) (pu_index (a := z21) Try.underlying22 Try.sizeOf3 rfl rfl (get_some h24).1) ?_
      obtain ⟨rfl, hr28'⟩ := hr28
      refine mixE.load hM (v := .int .i64 x23) (fun _ hF => ld_one Try.isAgg3 rfl (hF.cell (hc27 0 _ rfl) (off1 ho29))) ?_
      refine mixE.pure (v := .slice (some ad25) p_0.length cp_0) (pu_move e0) ?_
      refine mixE.pure (v := .int .i64 v4_0) (pu_move e4) ?_
      obtain ⟨x30, h31, hb⟩ := bd hb
      obtain ⟨ad32, cs33, hA, ho36, hc34, hr35⟩ := hS.elr2 (i := 0) rfl (get_some h31).2 []
      obtain rfl := Option.some.inj hA
      refine mixE.pure (v := .pointer (some (ad25.add (v4_0.toNat * 1)))) (pu_index (a := v4_0) Try.underlying22 Try.sizeOf3 rfl rfl (get_some h31).1) ?_
      obtain ⟨rfl, hr35'⟩ := hr35
      refine mixE.load hM (v := .int .i64 x30) (fun _ hF => ld_one Try.isAgg3 rfl (hF.cell (hc34 0 _ rfl) (off1 ho36))) ?_
      refine mixE.pure (v := .bool (decide (x30 < x23))) (pu_gtr (k := .i64) (a := x23) (b := x30) rfl rfl) ?_
      refine mixE.nil ?_
      clear hS hM
      refine hK18 _ _ ?_
      refine Wc.fresh fun E37 hE => ?_
      have e0 : E37 0 = .slice (some ad25) p_0.length cp_0 := (congrFun hE 0).trans e0
      have e2 : E37 2 = .slice none 0 0 := (congrFun hE 2).trans e2
      have e3 : E37 3 = .slice Al3_0 l3_0.length cl3_0 := (congrFun hE 3).trans e3
      have e4 : E37 4 = .int .i64 v4_0 := (congrFun hE 4).trans e4
      have e8 : E37 8 = .bool (decide (v4_0 < (p_0.length : Int))) := (congrFun hE 8).trans rfl
      have e20 : E37 20 = .bool (decide (x30 < x23)) := (congrFun hE 20).trans rfl
      clear hE
      refine Wc.cond (t := (decide (x30 < x23))) (e20) (fun hq38 => ?_) (fun hq38 => ?_)
      · replace hb := (cT hq38).symm.trans hb
        refine Wc.region (by decide +kernel) ?_
        refine lex.pure (v := .slice Al3_0 l3_0.length cl3_0) (pu_move e3) ?_
        refine lex.pure (v := .int .i64 v4_0) (pu_move e4) ?_
        refine lex.op (hC.lit (s := (.int .i64)) (vs := [.int .i64 v4_0]) (xs := [v4_0]) Try.underlying22 Try.type3 rfl rfl (Nat.le_of_ble_eq_true rfl) rfl rfl (by simp [Value.cells, Sh.n]) rfl (show Elems _ _ (.int .i64) ([.int .i64 v4_0] ++ ([])) ([v4_0] : List Int) from Elems.cons (⟨rfl, I64.wr hrv4_0⟩) (Elems.nil _ _ _))) ?_
        rintro _ w43 ⟨A39, c40, rfl, hl41, hc42, hC, hF, hN⟩
        clear hF hN
        obtain ⟨u45, h46, hb⟩ := bd hb
        refine lex.op (hC.app (i := 2) (s := (.int .i64)) (xs := l3_0) (ys := ([v4_0] : List Int)) (m := ((([v4_0] : List Int)).length)) rfl Try.underlying22 Try.underlying22 Try.type3 rfl rfl rfl (hC.srco (i := 0) rfl) rfl rfl (by have := lim_some h46; simp at this ⊢ <;> omega) (by decide)) ?_
        rintro _ w51 ⟨A47, c48, rfl, hl49, hc50, hC, hF, hN⟩
        clear hF hN
        refine lex.pure (v := .slice A47 ((l3_0 ++ ([v4_0] : List Int)).length) c48) (pu_assign rfl) ?_
        refine lex.nil ?_
        refine hK17 _ _ ?_
        refine Wc.region (by decide +kernel) ?_
        refine lex.pure (v := .int .i64 v4_0) (pu_move e4) ?_
        obtain ⟨z52, h53, hb⟩ := bd hb
        refine lex.pure (v := .int .i64 z52) (pu_addc (a := v4_0) (b := 1) rfl rfl h53) ?_
        refine lex.pure (v := .int .i64 z52) (pu_assign rfl) ?_
        refine lex.nil ?_
        obtain rfl := Option.some.inj hb
        exact hK9 m10' _ _ (Nat.lt_succ_self _) ⟨(l3_0 ++ ([v4_0] : List Int)), z52, A47, (l3_0 ++ ([v4_0] : List Int)).length, c48, e0, e2, rfl, rfl, (chk_rng h53), hC.sel [1, 2] (by decide), lN hl0⟩
      · replace hb := (cF hq38).symm.trans hb
        refine Wc.skip ?_
        refine hK17 _ _ ?_
        refine Wc.region (by decide +kernel) ?_
        refine lex.pure (v := .int .i64 v4_0) (pu_move e4) ?_
        obtain ⟨z54, h55, hb⟩ := bd hb
        refine lex.pure (v := .int .i64 z54) (pu_addc (a := v4_0) (b := 1) rfl rfl h55) ?_
        refine lex.pure (v := .int .i64 z54) (pu_assign rfl) ?_
        refine lex.nil ?_
        obtain rfl := Option.some.inj hb
        exact hK9 m10' _ _ (Nat.lt_succ_self _) ⟨l3_0, z54, Al3_0, l3_0.length, cl3_0, e0, e2, e3, rfl, (chk_rng h55), hC.sel [0, 1] (by decide), lN hl0⟩
    · replace hb := (cF hq16).symm.trans hb
      refine Wc.exit rfl ?_
      obtain rfl := Option.some.inj hb
      obtain rfl := (lX hl0).symm
      exact hK8 _ _ ⟨l3_0, v4_0, Al3_0, l3_0.length, cl3_0, e2, e3, hrv4_0, hC.sel [1] (by decide), hbK0⟩
  · clear hb hC hl0
    rintro E57 w56 ⟨l3_0, v4_0, Al3_0, ml3_0, cl3_0, e2, e3, hrv4_0, hC, hb⟩
    obtain ⟨rfl, hll3_0, hcl3_0⟩ := (hC.ow (i := 0) rfl).sl_len
    refine hK4 _ _ ?_
    refine Wc.seq fun K58 hK58 => ?_
    refine Wc.region (by decide +kernel) ?_
    refine lex.pure (v := .slice Al3_0 l3_0.length cl3_0) (pu_move e3) ?_
    refine lex.pure (v := .slice Al3_0 l3_0.length cl3_0) (pu_assign rfl) ?_
    refine lex.nil ?_
    refine hK58 _ _ ?_
    obtain rfl := Option.some.inj hb
    refine Wc.ret ?_
    refine hKR _ _ ?_
    refine ⟨_, res1 Try.results45 (show RV _ _ _ (.tmp _) (.slice Al3_0 l3_0.length cl3_0) from rfl), _, rfl, Al3_0, l3_0.length, cl3_0, rfl, hC.sel [0] (by decide)⟩

set_option maxRecDepth 100000 in
set_option maxHeartbeats 4000000 in
theorem ref34_Word_ok (n : Nat) {w : World} {O0 : List Nat} (hO : ∀ k ∈ O0, k < w.heap.size) {Ap_0 : Option Addr} {mp_0 cp_0 : Nat} {p_0 : List Int} (hp_0 : Rep O0 w (.sl (.int .i64)) [.slice Ap_0 mp_0 cp_0] p_0) {r : (List Int)} (hb : F.ref34_Word n p_0 = some r) :
    Calls Try.prog 33 #[.slice Ap_0 mp_0 cp_0] w fun e w' => ∃ v, e = .returned v ∧ ∃ (A0 : Option Addr) (m0 c0 : Nat), v = .slice A0 m0 c0 ∧ Cx (fun _ => False) O0 w w' [.own 3 (.int .i64) (.slice A0 m0 c0) r] := by
  unfold F.ref34_Word at hb
  have hC := Cx.start hO
  replace hC := hC.arg rfl hp_0
  clear hO
  obtain ⟨rfl, hlp_0, hcp_0⟩ := hp_0.sl_len
  refine calls_of_Wc Try.func33 rfl (by rw [Try.ntmps33]; exact Nat.le_of_ble_eq_true rfl) fun KR hKR => ?_
  refine Wc.seq fun K2 hK2 => ?_
  refine Wc.region (by decide +kernel) ?_
  refine lex.pure (v := .slice none 0 0) (pu_assign rfl) ?_
  refine lex.nil ?_
  refine hK2 _ _ ?_
  refine Wc.seq fun K3 hK3 => ?_
  refine Wc.region (by decide +kernel) ?_
  refine lex.pure (v := .slice none 0 0) (pu_assign rfl) ?_
  refine lex.nil ?_
  refine hK3 _ _ ?_
  refine Wc.seq fun K4 hK4 => ?_
  refine Wc.region (by decide +kernel) ?_
  refine lex.op (hC.lit (s := (.int .i64)) (vs := []) (xs := []) Try.underlying22 Try.type3 rfl rfl (Nat.le_of_ble_eq_true rfl) rfl rfl (by simp [Value.cells, Sh.n]) rfl (show Elems _ _ (.int .i64) ([]) ([] : List Int) from Elems.nil _ _ _)) ?_
  rintro _ w9 ⟨A5, c6, rfl, hl7, hc8, hC, hF, hN⟩
  clear hF hN
  refine lex.pure (v := .slice Ap_0 p_0.length cp_0) (pu_move rfl) ?_
  obtain ⟨u11, h12, hb⟩ := bd hb
  refine lex.op (hC.app (i := 0) (s := (.int .i64)) (xs := ([] : List Int)) (ys := p_0) (m := p_0.length) rfl Try.underlying22 Try.underlying22 Try.type3 rfl rfl rfl (hC.srcr (i := 1) rfl) rfl rfl (by have := lim_some h12; simp at this ⊢ <;> omega) (by decide)) ?_
  rintro _ w17 ⟨A13, c14, rfl, hl15, hc16, hC, hF, hN⟩
  clear hF hN
  refine lex.pure (v := .slice A13 ((([] : List Int) ++ p_0).length) c14) (pu_assign rfl) ?_
  refine lex.nil ?_
  refine hK4 _ _ ?_
  refine Wc.seq fun K18 hK18 => ?_
  replace hC := hC.nil 3 (.int .i64)
  obtain ⟨o20, hl0, hb⟩ := bd hb
  refine Wc.cut (fun E wv => ∃ (l3_0 : List Int) (qf10_0 : List Int) (Al3_0 : Option Addr) (ml3_0 cl3_0 : Nat), E 2 = .slice none 0 0 ∧ E 3 = .slice Al3_0 ml3_0 cl3_0 ∧ Cx (fun _ => False) O0 w wv [.own 3 (.int .i64) (.slice Al3_0 ml3_0 cl3_0) l3_0] ∧ (some l3_0 : Option ((List Int))) = some r) (fun K21 hK21 => ?_) ?_
  · refine Wc.block ?_
    refine Wc.loop (fun m E wv => ∃ (l3_0 : List Int) (qf10_0 : List Int) (Al3_0 : Option Addr) (ml3_0 cl3_0 : Nat), E 0 = .slice A13 ((([] : List Int) ++ p_0).length) c14 ∧ E 2 = .slice none 0 0 ∧ E 3 = .slice Al3_0 ml3_0 cl3_0 ∧ Cx (fun _ => False) O0 w wv [.own 3 (.int .i64) (.slice A13 ((([] : List Int) ++ p_0).length) c14) qf10_0, .own 3 (.int .i64) (.slice Al3_0 ml3_0 cl3_0) l3_0] ∧ loopN m (F.ref34_Word_b0 n) (l3_0, qf10_0) = some o20) n ⟨([] : List Int), (([] : List Int) ++ p_0), none, 0, 0, rfl, rfl, rfl, hC.sel [1, 0] (by decide), hl0⟩ ?_
    have hbK0 := hb
    clear hb hC hl0
    rintro m23 E25 w24 ⟨l3_0, qf10_0, Al3_0, ml3_0, cl3_0, e0, e2, e3, hC, hl0⟩ K22 hK22
    obtain ⟨m23', o26, rfl, hb, hl0⟩ := loopN_some hl0
    unfold F.ref34_Word_b0 at hb
    obtain ⟨rfl, hll3_0, hcl3_0⟩ := (hC.ow (i := 1) rfl).sl_len
    refine Wc.seq fun K27 hK27 => ?_
    refine Wc.seq fun K28 hK28 => ?_
    refine Wc.region (by decide +kernel) ?_
    refine lex.pure (v := .slice A13 ((([] : List Int) ++ p_0).length) c14) (pu_move e0) ?_
    obtain ⟨y29, h30, hb⟩ := bd hb
    refine lex.cl (⟨_, _, op_call (vs := [.slice A13 ((([] : List Int) ++ p_0).length) c14]) Try.call45 rfl rfl rfl, ref34_Letters_ok n (hC.lentLt [.slice A13 ((([] : List Int) ++ p_0).length) c14]) ((hC.ow (i := 0) rfl).lend (vs := [.slice A13 ((([] : List Int) ++ p_0).length) c14]) (by simp)) h30⟩) ?_
    rintro _ w35 ⟨A31, m32, c33, rfl, hK⟩
    replace hC := hC.mergeF hK rfl
    clear hK
    obtain ⟨rfl, hl36, hc37⟩ := (hC.ow (i := 0) rfl).sl_len
    refine lex.pure (v := .int .i64 (y29.length : Int)) (pu_len (A := A31) (n := y29.length) (m := c33) Try.underlying22 rfl) ?_
    refine lex.pure (v := .bool (decide (0 < (y29.length : Int)))) (pu_gtr (k := .i64) (a := (y29.length : Int)) (b := 0) rfl rfl) ?_
    refine lex.nil ?_
    refine hK28 _ _ ?_
    refine Wc.cond (t := (decide (0 < (y29.length : Int)))) (rfl) (fun hq38 => ?_) (fun hq38 => ?_)
    · replace hb := (cT hq38).symm.trans hb
      refine Wc.skip ?_
      refine hK27 _ _ ?_
      refine Wc.block ?_
      refine Wc.seq fun K39 hK39 => ?_
      refine Wc.region (by decide +kernel) ?_
      refine lex.pure (v := .slice A13 ((([] : List Int) ++ p_0).length) c14) (pu_move e0) ?_
      obtain ⟨y40, h41, hb⟩ := bd hb
      refine lex.cl (⟨_, _, op_call (vs := [.slice A13 ((([] : List Int) ++ p_0).length) c14]) Try.call45 rfl rfl rfl, ref34_Letters_ok n (hC.lentLt [.slice A13 ((([] : List Int) ++ p_0).length) c14]) ((hC.ow (i := 1) rfl).lend (vs := [.slice A13 ((([] : List Int) ++ p_0).length) c14]) (by simp)) h41⟩) ?_
      rintro _ w46 ⟨A42, m43, c44, rfl, hK⟩
      replace hC := hC.mergeF hK rfl
      clear hK
      obtain ⟨rfl, hl47, hc48⟩ := (hC.ow (i := 0) rfl).sl_len
      obtain ⟨x49, h50, hb⟩ := bd hb
      obtain ⟨ad51, cs52, hA, hc53, hr54⟩ := hC.elo (i := 0) rfl (get_some h50).2
      subst hA
      refine lex.pure (v := .pointer (some (ad51.add ((0 : Int).toNat * 1)))) (pu_index (a := 0) Try.underlying22 Try.sizeOf3 rfl rfl (get_some h50).1) ?_
      obtain ⟨rfl, hr54'⟩ := hr54
      refine lex.val (v := .int .i64 x49) (ld_one Try.isAgg3 rfl (hc53 0 _ rfl)) ?_
      refine lex.pure (v := .int .i64 x49) (pu_assign rfl) ?_
      refine lex.nil ?_
      refine hK39 _ _ ?_
      refine Wc.seq fun K55 hK55 => ?_
      refine Wc.region (by decide +kernel) ?_
      refine lex.pure (v := .slice Al3_0 l3_0.length cl3_0) (pu_move e3) ?_
      refine lex.pure (v := .int .i64 x49) (pu_move rfl) ?_
      refine lex.op (hC.lit (s := (.int .i64)) (vs := [.int .i64 x49]) (xs := [x49]) Try.underlying22 Try.type3 rfl rfl (Nat.le_of_ble_eq_true rfl) rfl rfl (by simp [Value.cells, Sh.n]) rfl (show Elems _ _ (.int .i64) ([.int .i64 x49] ++ ([])) ([x49] : List Int) from Elems.cons (⟨rfl, I64.wr (wrap_I64 hr54')⟩) (Elems.nil _ _ _))) ?_
      rintro _ w60 ⟨A56, c57, rfl, hl58, hc59, hC, hF, hN⟩
      clear hF hN
      obtain ⟨u62, h63, hb⟩ := bd hb
      refine lex.op (hC.app (i := 4) (s := (.int .i64)) (xs := l3_0) (ys := ([x49] : List Int)) (m := ((([x49] : List Int)).length)) rfl Try.underlying22 Try.underlying22 Try.type3 rfl rfl rfl (hC.srco (i := 0) rfl) rfl rfl (by have := lim_some h63; simp at this ⊢ <;> omega) (by decide)) ?_
      rintro _ w68 ⟨A64, c65, rfl, hl66, hc67, hC, hF, hN⟩
      clear hF hN
      refine lex.pure (v := .slice A64 ((l3_0 ++ ([x49] : List Int)).length) c65) (pu_assign rfl) ?_
      refine lex.nil ?_
      refine hK55 _ _ ?_
      refine Wc.fresh fun E69 hE => ?_
      have e0 : E69 0 = .slice A13 ((([] : List Int) ++ p_0).length) c14 := (congrFun hE 0).trans e0
      have e2 : E69 2 = .slice none 0 0 := (congrFun hE 2).trans e2
      have e3 : E69 3 = .slice A64 ((l3_0 ++ ([x49] : List Int)).length) c65 := (congrFun hE 3).trans rfl
      have e4 : E69 4 = .int .i64 x49 := (congrFun hE 4).trans rfl
      have e11 : E69 11 = .bool (decide (0 < (y29.length : Int))) := (congrFun hE 11).trans rfl
      clear hE
      refine Wc.regionMix [] (frm [] ([] : List Fact) [.own 3 (.int .i64) (.slice A13 ((([] : List Int) ++ p_0).length) c14) qf10_0]) (fun _ => rfl) mixed (by decide +kernel) (by decide +kernel) fun w71 hw70 => ?_
      replace hC := hC.step (Fr.of_drew hw70)
      have hM := Fr.refl (fun k => k ∈ blocks ([] : List Fact)) w71
      clear hw70
      have hS := hC
      have hD : Fr (fun k => k ∈ blocks (([] : List Fact) ++ [.own 3 (.int .i64) (.slice A13 ((([] : List Int) ++ p_0).length) c14) qf10_0])) w71 w71 := hM.wide
      have hUf10 : Beside (([] : List Fact) ++ [.own 3 (.int .i64) (.slice A13 ((([] : List Int) ++ p_0).length) c14) qf10_0]) w71 (.slice A13 ((([] : List Int) ++ p_0).length) c14) := Beside.of (i := 0) rfl
      refine mixE.pure (v := .slice A13 ((([] : List Int) ++ p_0).length) c14) (pu_move e0) ?_
      refine mixE.pure (v := .int .i64 x49) (pu_move e4) ?_
      obtain ⟨z72, h73, hb⟩ := bd hb
      refine mixE.pure (v := .int .i64 z72) (pu_subc (a := x49) (b := 1) rfl rfl h73) ?_
      refine mixE.pure (v := .slice A13 ((([] : List Int) ++ p_0).length) c14) (pu_move e0) ?_
      refine mixE.pure (v := .int .i64 x49) (pu_move e4) ?_
      refine mixE.pure (v := .slice A13 ((([] : List Int) ++ p_0).length) c14) (pu_move e0) ?_
      refine mixE.pure (v := .int .i64 x49) (pu_move e4) ?_
      obtain ⟨x74, h75, hb⟩ := bd hb
      obtain ⟨ad76, cs77, hA, ho80, hc78, hr79⟩ := hS.elo2 (i := 3) rfl (get_some h75).2 [] (by decide)
      subst hA
      refine mixE.pure (v := .pointer (some (ad76.add (x49.toNat * 1)))) (pu_index (a := x49) Try.underlying22 Try.sizeOf3 rfl rfl (by rw [(hC.ow (i := 3) rfl).sl_len.1]; exact (get_some h75).1)) ?_
      obtain ⟨rfl, hr79'⟩ := hr79
      refine mixE.load hM (v := .int .i64 x74) (fun _ hF => ld_one Try.isAgg3 rfl (hF.cell (hc78 0 _ rfl) (off1 ho80))) ?_
      refine mixE.pure (v := .slice (some ad76) ((([] : List Int) ++ p_0).length) c14) (pu_move e0) ?_
      refine mixE.pure (v := .int .i64 x49) (pu_move e4) ?_
      obtain ⟨z81, h82, hb⟩ := bd hb
      refine mixE.pure (v := .int .i64 z81) (pu_subc (a := x49) (b := 1) rfl rfl h82) ?_
      obtain ⟨x83, h84, hb⟩ := bd hb
      obtain ⟨ad85, cs86, hA, ho89, hc87, hr88⟩ := hS.elo2 (i := 3) rfl (get_some h84).2 [] (by decide)
      obtain rfl := Option.some.inj hA
      refine mixE.pure (v := .pointer (some (ad76.add (z81.toNat * 1)))) (pu_index (a := z81) Try.underlying22 Try.sizeOf3 rfl rfl (by rw [(hC.ow (i := 3) rfl).sl_len.1]; exact (get_some h84).1)) ?_
      obtain ⟨rfl, hr88'⟩ := hr88
      refine mixE.load hM (v := .int .i64 x83) (fun _ hF => ld_one Try.isAgg3 rfl (hF.cell (hc87 0 _ rfl) (off1 ho89))) ?_
      obtain ⟨x90, h91, hb⟩ := bd hb
      obtain ⟨ad92, cs93, hA, ho96, hc94, hr95⟩ := hS.elo2 (i := 3) rfl (get_some h91).2 [] (by decide)
      obtain rfl := Option.some.inj hA
      refine mixE.pure (v := .pointer (some (ad76.add (z72.toNat * 1)))) (pu_index (a := z72) Try.underlying22 Try.sizeOf3 rfl rfl (by rw [(hC.ow (i := 3) rfl).sl_len.1]; exact (get_some h91).1)) ?_
      refine mixE.sk hD (hC.put (i := 3) rfl rfl Try.sizeOf3 (k := z72.toNat) (a := x74) (by have := (get_some h91).1; simp at this ⊢; omega) (⟨rfl, I64.wr (wrap_I64 hr79')⟩) rfl rfl rfl) ?_
      rintro w97 ⟨hC, hF⟩
      replace hD := hD.beside hUf10 hF
      clear hF
      refine ⟨hD, ?_⟩
      obtain ⟨x98, h99, hb⟩ := bd hb
      obtain ⟨ad100, cs101, hA, hc102, hr103⟩ := hC.elo (i := 3) rfl (get_some h99).2
      obtain rfl := Option.some.inj hA
      refine mixE.pure (v := .pointer (some (ad76.add (x49.toNat * 1)))) (pu_index (a := x49) Try.underlying22 Try.sizeOf3 rfl rfl (by rw [(hC.ow (i := 3) rfl).sl_len.1]; exact (get_some h99).1)) ?_
      refine mixE.sk hD (hC.put (i := 3) rfl rfl Try.sizeOf3 (k := x49.toNat) (a := x83) (by have := (get_some h99).1; simp at this ⊢; omega) (⟨rfl, I64.wr (wrap_I64 hr88')⟩) rfl rfl rfl) ?_
      rintro w104 ⟨hC, hF⟩
      replace hD := hD.beside hUf10 hF
      clear hF
      refine ⟨hD, ?_⟩
      refine mixE.nil ?_
      clear hS hM
      clear hD
      obtain rfl := Option.some.inj hb
      exact hK22 m23' _ _ (Nat.lt_succ_self _) ⟨(l3_0 ++ ([x49] : List Int)), ((qf10_0.set z72.toNat x74).set x49.toNat x83), A64, (l3_0 ++ ([x49] : List Int)).length, c65, e0, e2, e3, hC.sel [3, 4] (by decide), lN hl0⟩
    · replace hb := (cF hq38).symm.trans hb
      refine Wc.exit rfl ?_
      obtain rfl := Option.some.inj hb
      obtain rfl := (lX hl0).symm
      exact hK21 _ _ ⟨l3_0, qf10_0, Al3_0, l3_0.length, cl3_0, e2, e3, hC.sel [2] (by decide), hbK0⟩
  · clear hb hC hl0
    rintro E106 w105 ⟨l3_0, qf10_0, Al3_0, ml3_0, cl3_0, e2, e3, hC, hb⟩
    obtain ⟨rfl, hll3_0, hcl3_0⟩ := (hC.ow (i := 0) rfl).sl_len
    refine hK18 _ _ ?_
    refine Wc.seq fun K107 hK107 => ?_
    refine Wc.region (by decide +kernel) ?_
    refine lex.pure (v := .slice Al3_0 l3_0.length cl3_0) (pu_move e3) ?_
    refine lex.pure (v := .slice Al3_0 l3_0.length cl3_0) (pu_assign rfl) ?_
    refine lex.nil ?_
    refine hK107 _ _ ?_
    obtain rfl := Option.some.inj hb
    refine Wc.ret ?_
    refine hKR _ _ ?_
    refine ⟨_, res1 Try.results33 (show RV _ _ _ (.tmp _) (.slice Al3_0 l3_0.length cl3_0) from rfl), _, rfl, Al3_0, l3_0.length, cl3_0, rfl, hC.sel [0] (by decide)⟩
end Go.Proofs.Ytkeaonceaaafcaa
