/- The walks: part 8. -/
import Derived.Test.YtkeaonceaaafcaaS
set_option linter.unusedVariables false
set_option linter.unusedSimpArgs false
namespace Go.Proofs.Ytkeaonceaaafcaa
open Ev
set_option maxRecDepth 100000 in
set_option maxHeartbeats 4000000 in
theorem ref21_Reduce_ok (n : Nat) {w : World} {O0 : List Nat} (hO : ∀ k ∈ O0, k < w.heap.size) {Awx_0 : Option Addr} {mwx_0 cwx_0 : Nat} {wx_0 : List Int} (hwx_0 : Rep O0 w (.sl (.int .i64)) [.slice Awx_0 mwx_0 cwx_0] wx_0) {r : (List Int)} (hb : F.ref21_Reduce n wx_0 = some r) :
    Calls Try.prog 63 #[.slice Awx_0 mwx_0 cwx_0] w fun e w' => ∃ v, e = .returned v ∧ ∃ (A0 : Option Addr) (m0 c0 : Nat), v = .slice A0 m0 c0 ∧ Cx (fun _ => False) O0 w w' [.own 3 (.int .i64) (.slice A0 m0 c0) r] := by
  unfold F.ref21_Reduce at hb
  have hC := Cx.start hO
  replace hC := hC.arg rfl hwx_0
  clear hO
  obtain ⟨rfl, hlwx_0, hcwx_0⟩ := hwx_0.sl_len
  refine calls_of_Wc Try.func63 rfl (by rw [Try.ntmps63]; exact Nat.le_of_ble_eq_true rfl) fun KR hKR => ?_
  refine Wc.seq fun K2 hK2 => ?_
  refine Wc.region (by decide +kernel) ?_
  refine lex.pure (v := .slice none 0 0) (pu_assign rfl) ?_
  refine lex.nil ?_
  refine hK2 _ _ ?_
  refine Wc.seq fun K3 hK3 => ?_
  refine Wc.region (by decide +kernel) ?_
  refine lex.op (hC.lit (s := (.int .i64)) (vs := []) (xs := []) Try.underlying22 Try.type3 rfl rfl (Nat.le_of_ble_eq_true rfl) rfl rfl (by simp [Value.cells, Sh.n]) rfl (show Elems _ _ (.int .i64) ([]) ([] : List Int) from Elems.nil _ _ _)) ?_
  rintro _ w8 ⟨A4, c5, rfl, hl6, hc7, hC, hF, hN⟩
  clear hF hN
  refine lex.pure (v := .slice Awx_0 wx_0.length cwx_0) (pu_move rfl) ?_
  obtain ⟨u10, h11, hb⟩ := bd hb
  refine lex.op (hC.app (i := 0) (s := (.int .i64)) (xs := ([] : List Int)) (ys := wx_0) (m := wx_0.length) rfl Try.underlying22 Try.underlying22 Try.type3 rfl rfl rfl (hC.srcr (i := 1) rfl) rfl rfl (by have := lim_some h11; simp at this ⊢ <;> omega) (by decide)) ?_
  rintro _ w16 ⟨A12, c13, rfl, hl14, hc15, hC, hF, hN⟩
  clear hF hN
  refine lex.pure (v := .slice A12 ((([] : List Int) ++ wx_0).length) c13) (pu_assign rfl) ?_
  refine lex.nil ?_
  refine hK3 _ _ ?_
  refine Wc.seq fun K17 hK17 => ?_
  refine Wc.region (by decide +kernel) ?_
  refine lex.pure (v := .int .i64 0) (pu_assign rfl) ?_
  refine lex.nil ?_
  refine hK17 _ _ ?_
  refine Wc.seq fun K18 hK18 => ?_
  obtain ⟨o19, hl0, hb⟩ := bd hb
  refine Wc.cut (fun E wv => ∃ (l3_0 : List Int) (v4_0 : Int) (Al3_0 : Option Addr) (ml3_0 cl3_0 : Nat), E 2 = .slice none 0 0 ∧ E 3 = .slice Al3_0 ml3_0 cl3_0 ∧ I64 v4_0 ∧ Cx (fun _ => False) O0 w wv [.own 3 (.int .i64) (.slice Al3_0 ml3_0 cl3_0) l3_0] ∧ (some l3_0) = some r) (fun K20 hK20 => ?_) ?_
  · refine Wc.block ?_
    refine Wc.loop (fun m E wv => ∃ (l3_0 : List Int) (v4_0 : Int) (Al3_0 : Option Addr) (ml3_0 cl3_0 : Nat), E 2 = .slice none 0 0 ∧ E 3 = .slice Al3_0 ml3_0 cl3_0 ∧ E 4 = .int .i64 v4_0 ∧ I64 v4_0 ∧ Cx (fun _ => False) O0 w wv [.own 3 (.int .i64) (.slice Al3_0 ml3_0 cl3_0) l3_0] ∧ loopN m (F.ref21_Reduce_b0 n) (l3_0, v4_0) = some o19) n ⟨(([] : List Int) ++ wx_0), 0, A12, (([] : List Int) ++ wx_0).length, c13, rfl, rfl, rfl, (show I64 0 from by unfold I64; omega), hC.sel [0] (by decide), hl0⟩ ?_
    have hbK0 := hb
    clear hb hC hl0
    rintro m22 E24 w23 ⟨l3_0, v4_0, Al3_0, ml3_0, cl3_0, e2, e3, e4, hrv4_0, hC, hl0⟩ K21 hK21
    obtain ⟨m22', o25, rfl, hb, hl0⟩ := loopN_some hl0
    unfold F.ref21_Reduce_b0 at hb
    obtain ⟨rfl, hll3_0, hcl3_0⟩ := (hC.ow (i := 0) rfl).sl_len
    refine Wc.seq fun K26 hK26 => ?_
    refine Wc.seq fun K27 hK27 => ?_
    refine Wc.region (by decide +kernel) ?_
    refine lex.pure (v := .int .i64 v4_0) (pu_move e4) ?_
    obtain ⟨z28, h29, hb⟩ := bd hb
    refine lex.pure (v := .int .i64 z28) (pu_addc (a := v4_0) (b := 1) rfl rfl h29) ?_
    refine lex.pure (v := .slice Al3_0 l3_0.length cl3_0) (pu_move e3) ?_
    refine lex.pure (v := .int .i64 (l3_0.length : Int)) (pu_len (A := Al3_0) (n := l3_0.length) (m := cl3_0) Try.underlying22 rfl) ?_
    refine lex.pure (v := .bool (decide (z28 < (l3_0.length : Int)))) (pu_lss (k := .i64) (a := z28) (b := (l3_0.length : Int)) rfl rfl) ?_
    refine lex.nil ?_
    refine hK27 _ _ ?_
    refine Wc.cond (t := (decide (z28 < (l3_0.length : Int)))) (rfl) (fun hq30 => ?_) (fun hq30 => ?_)
    · replace hb := (cT hq30).symm.trans hb
      refine Wc.skip ?_
      refine hK26 _ _ ?_
      refine Wc.block ?_
      refine Wc.seq fun K31 hK31 => ?_
      refine Wc.regionMix [] (frm [] ([] : List Fact) ([] : List Fact)) (fun _ => rfl) mixed (by decide +kernel) (by decide +kernel) fun w33 hw32 => ?_
      replace hC := hC.step (Fr.of_drew hw32)
      have hM := Fr.refl (fun k => k ∈ blocks ([] : List Fact)) w33
      clear hw32
      have hS := hC
      refine mixE.pure (v := .slice Al3_0 l3_0.length cl3_0) (pu_move e3) ?_
      refine mixE.pure (v := .int .i64 v4_0) (pu_move e4) ?_
      obtain ⟨x34, h35, hb⟩ := bd hb
      obtain ⟨ad36, cs37, hA, ho40, hc38, hr39⟩ := hS.elo2 (i := 0) rfl (get_some h35).2 [] (by decide)
      subst hA
      refine mixE.pure (v := .pointer (some (ad36.add (v4_0.toNat * 1)))) (pu_index (a := v4_0) Try.underlying22 Try.sizeOf3 rfl rfl (get_some h35).1) ?_
      obtain ⟨rfl, hr39'⟩ := hr39
      refine mixE.load hM (v := .int .i64 x34) (fun _ hF => ld_one Try.isAgg3 rfl (hF.cell (hc38 0 _ rfl) (off1 ho40))) ?_
      refine mixE.pure (v := .slice (some ad36) l3_0.length cl3_0) (pu_move e3) ?_
      refine mixE.pure (v := .int .i64 v4_0) (pu_move e4) ?_
      obtain ⟨z41, h42, hb⟩ := bd hb
      refine mixE.pure (v := .int .i64 z41) (pu_addc (a := v4_0) (b := 1) rfl rfl h42) ?_
      obtain ⟨x43, h44, hb⟩ := bd hb
      obtain ⟨ad45, cs46, hA, ho49, hc47, hr48⟩ := hS.elo2 (i := 0) rfl (get_some h44).2 [] (by decide)
      obtain rfl := Option.some.inj hA
      refine mixE.pure (v := .pointer (some (ad36.add (z41.toNat * 1)))) (pu_index (a := z41) Try.underlying22 Try.sizeOf3 rfl rfl (get_some h44).1) ?_
      obtain ⟨rfl, hr48'⟩ := hr48
      refine mixE.load hM (v := .int .i64 x43) (fun _ hF => ld_one Try.isAgg3 rfl (hF.cell (hc47 0 _ rfl) (off1 ho49))) ?_
      obtain ⟨z50, h51, hb⟩ := bd hb
      refine mixE.pure (v := .int .i64 z50) (pu_negc (a := x43) rfl h51) ?_
      refine mixE.pure (v := .bool (decide (x34 = z50))) (pu_eql (k := .i64) (a := x34) (b := z50) rfl rfl) ?_
      refine mixE.nil ?_
      clear hS hM
      refine hK31 _ _ ?_
      refine Wc.fresh fun E52 hE => ?_
      have e2 : E52 2 = .slice none 0 0 := (congrFun hE 2).trans e2
      have e3 : E52 3 = .slice (some ad36) l3_0.length cl3_0 := (congrFun hE 3).trans e3
      have e4 : E52 4 = .int .i64 v4_0 := (congrFun hE 4).trans e4
      have e12 : E52 12 = .bool (decide (z28 < (l3_0.length : Int))) := (congrFun hE 12).trans rfl
      have e23 : E52 23 = .bool (decide (x34 = z50)) := (congrFun hE 23).trans rfl
      clear hE
      refine Wc.cond (t := (decide (x34 = z50))) (e23) (fun hq53 => ?_) (fun hq53 => ?_)
      · replace hb := (cT hq53).symm.trans hb
        refine Wc.seq fun K54 hK54 => ?_
        refine Wc.regionMix [] (frm [] ([] : List Fact) ([] : List Fact)) (fun _ => rfl) mixed (by decide +kernel) (by decide +kernel) fun w56 hw55 => ?_
        replace hC := hC.step (Fr.of_drew hw55)
        have hM := Fr.refl (fun k => k ∈ blocks ([] : List Fact)) w56
        clear hw55
        have hS := hC
        refine mixE.op hM (hC.lit (s := (.int .i64)) (vs := []) (xs := []) Try.underlying22 Try.type3 rfl rfl (Nat.le_of_ble_eq_true rfl) rfl rfl (by simp [Value.cells, Sh.n]) rfl (show Elems _ _ (.int .i64) ([]) ([] : List Int) from Elems.nil _ _ _)) ?_
        rintro _ w61 ⟨A57, c58, rfl, hl59, hc60, hC, hF, hN⟩
        have hBf62 := Beside.new hM hN
        replace hM := hM.none hF
        refine ⟨hM, ?_⟩
        clear hF hN
        refine mixE.pure (v := .slice (some ad36) l3_0.length cl3_0) (pu_move e3) ?_
        refine mixE.pure (v := .int .i64 v4_0) (pu_move e4) ?_
        obtain ⟨u63, h64, hb⟩ := bd hb
        replace hC := hC.freeze (i := 1) rfl (hC.own_new (i := 1) rfl)
        obtain ⟨A65, c66, hp69, hR70⟩ := pu_part_h (b := v4_0) Try.underlying22 Try.sizeOf3 (hC.rd (i := 1) rfl) rfl (cut_some h64)
        refine mixE.pure (v := .slice A65 (((l3_0.drop (0 : Int).toNat).take (v4_0.toNat - (0 : Int).toNat)).length) c66) (hp69 rfl  rfl) ?_
        replace hC := hC.ro hR70
        obtain ⟨-, hl67, hc68⟩ := (hC.rd (i := 0) rfl).sl_len
        obtain ⟨u72, h73, hb⟩ := bd hb
        refine mixE.op hM (hC.app (i := 1) (s := (.int .i64)) (xs := ([] : List Int)) (ys := ((l3_0.drop (0 : Int).toNat).take (v4_0.toNat - (0 : Int).toNat))) (m := (((l3_0.drop (0 : Int).toNat).take (v4_0.toNat - (0 : Int).toNat)).length)) rfl Try.underlying22 Try.underlying22 Try.type3 rfl rfl rfl (hC.srcr (i := 0) rfl) rfl rfl (by have := lim_some h73; simp at this ⊢ <;> omega) (by decide)) ?_
        rintro _ w78 ⟨A74, c75, rfl, hl76, hc77, hC, hF, hN⟩
        have hB := hBf62
        replace hBf62 := hB.app hM hN
        replace hM := hM.beside hB hF
        clear hB
        refine ⟨hM, ?_⟩
        clear hF hN
        refine mixE.pure (v := .slice (some ad36) l3_0.length cl3_0) (pu_move e3) ?_
        refine mixE.pure (v := .int .i64 v4_0) (pu_move e4) ?_
        obtain ⟨z79, h80, hb⟩ := bd hb
        refine mixE.pure (v := .int .i64 z79) (pu_addc (a := v4_0) (b := 2) rfl rfl h80) ?_
        obtain ⟨u81, h82, hb⟩ := bd hb
        obtain ⟨A83, c84, hp87, hR88⟩ := pu_part_l (a := z79)  Try.underlying22 Try.sizeOf3 (hC.rd (i := 2) rfl) rfl (cut_some h82)
        refine mixE.pure (v := .slice A83 (((l3_0.drop z79.toNat).take ((l3_0.length : Int).toNat - z79.toNat)).length) c84) (hp87 rfl rfl ) ?_
        replace hC := hC.ro hR88
        obtain ⟨-, hl85, hc86⟩ := (hC.rd (i := 0) rfl).sl_len
        obtain ⟨u90, h91, hb⟩ := bd hb
        refine mixE.op hM (hC.app (i := 2) (s := (.int .i64)) (xs := (([] : List Int) ++ ((l3_0.drop (0 : Int).toNat).take (v4_0.toNat - (0 : Int).toNat)))) (ys := ((l3_0.drop z79.toNat).take ((l3_0.length : Int).toNat - z79.toNat))) (m := (((l3_0.drop z79.toNat).take ((l3_0.length : Int).toNat - z79.toNat)).length)) rfl Try.underlying22 Try.underlying22 Try.type3 rfl rfl rfl (hC.srcr (i := 0) rfl) rfl rfl (by have := lim_some h91; simp at this ⊢ <;> omega) (by decide)) ?_
        rintro _ w96 ⟨A92, c93, rfl, hl94, hc95, hC, hF, hN⟩
        have hB := hBf62
        replace hBf62 := hB.app hM hN
        replace hM := hM.beside hB hF
        clear hB
        refine ⟨hM, ?_⟩
        clear hF hN
        refine mixE.pure (v := .slice A92 (((([] : List Int) ++ ((l3_0.drop (0 : Int).toNat).take (v4_0.toNat - (0 : Int).toNat))) ++ ((l3_0.drop z79.toNat).take ((l3_0.length : Int).toNat - z79.toNat))).length) c93) (pu_assign rfl) ?_
        refine mixE.nil ?_
        clear hS hM
        refine hK54 _ _ ?_
        refine Wc.region (by decide +kernel) ?_
        refine lex.pure (v := .int .i64 0) (pu_assign rfl) ?_
        refine lex.nil ?_
        obtain rfl := Option.some.inj hb
        exact hK21 m22' _ _ (Nat.lt_succ_self _) ⟨((([] : List Int) ++ ((l3_0.drop (0 : Int).toNat).take (v4_0.toNat - (0 : Int).toNat))) ++ ((l3_0.drop z79.toNat).take ((l3_0.length : Int).toNat - z79.toNat))), 0, A92, ((([] : List Int) ++ ((l3_0.drop (0 : Int).toNat).take (v4_0.toNat - (0 : Int).toNat))) ++ ((l3_0.drop z79.toNat).take ((l3_0.length : Int).toNat - z79.toNat))).length, c93, e2, rfl, rfl, (show I64 0 from by unfold I64; omega), hC.sel [2] (by decide), lN hl0⟩
      · replace hb := (cF hq53).symm.trans hb
        refine Wc.region (by decide +kernel) ?_
        refine lex.pure (v := .int .i64 v4_0) (pu_move e4) ?_
        obtain ⟨z97, h98, hb⟩ := bd hb
        refine lex.pure (v := .int .i64 z97) (pu_addc (a := v4_0) (b := 1) rfl rfl h98) ?_
        refine lex.pure (v := .int .i64 z97) (pu_assign rfl) ?_
        refine lex.nil ?_
        obtain rfl := Option.some.inj hb
        exact hK21 m22' _ _ (Nat.lt_succ_self _) ⟨l3_0, z97, (some ad36), l3_0.length, cl3_0, e2, e3, rfl, (chk_rng h98), hC.sel [0] (by decide), lN hl0⟩
    · replace hb := (cF hq30).symm.trans hb
      refine Wc.exit rfl ?_
      obtain rfl := Option.some.inj hb
      obtain rfl := (lX hl0).symm
      exact hK20 _ _ ⟨l3_0, v4_0, Al3_0, l3_0.length, cl3_0, e2, e3, hrv4_0, hC.sel [0] (by decide), hbK0⟩
  · clear hb hC hl0
    rintro E100 w99 ⟨l3_0, v4_0, Al3_0, ml3_0, cl3_0, e2, e3, hrv4_0, hC, hb⟩
    obtain ⟨rfl, hll3_0, hcl3_0⟩ := (hC.ow (i := 0) rfl).sl_len
    refine hK18 _ _ ?_
    refine Wc.seq fun K101 hK101 => ?_
    refine Wc.region (by decide +kernel) ?_
    refine lex.pure (v := .slice Al3_0 l3_0.length cl3_0) (pu_move e3) ?_
    refine lex.pure (v := .slice Al3_0 l3_0.length cl3_0) (pu_assign rfl) ?_
    refine lex.nil ?_
    refine hK101 _ _ ?_
    obtain rfl := Option.some.inj hb
    refine Wc.ret ?_
    refine hKR _ _ ?_
    refine ⟨_, res1 Try.results63 (show RV _ _ _ (.tmp _) (.slice Al3_0 l3_0.length cl3_0) from rfl), _, rfl, Al3_0, l3_0.length, cl3_0, rfl, hC.sel [0] (by decide)⟩

set_option maxRecDepth 100000 in
set_option maxHeartbeats 4000000 in
theorem ref21_Inverse_ok (n : Nat) {w : World} {O0 : List Nat} (hO : ∀ k ∈ O0, k < w.heap.size) {Awx_0 : Option Addr} {mwx_0 cwx_0 : Nat} {wx_0 : List Int} (hwx_0 : Rep O0 w (.sl (.int .i64)) [.slice Awx_0 mwx_0 cwx_0] wx_0) {r : (List Int)} (hb : F.ref21_Inverse n wx_0 = some r) :
    Calls Try.prog 62 #[.slice Awx_0 mwx_0 cwx_0] w fun e w' => ∃ v, e = .returned v ∧ ∃ (A0 : Option Addr) (m0 c0 : Nat), v = .slice A0 m0 c0 ∧ Cx (fun _ => False) O0 w w' [.own 3 (.int .i64) (.slice A0 m0 c0) r] := by
  unfold F.ref21_Inverse at hb
  have hC := Cx.start hO
  replace hC := hC.arg rfl hwx_0
  clear hO
  obtain ⟨rfl, hlwx_0, hcwx_0⟩ := hwx_0.sl_len
  refine calls_of_Wc Try.func62 rfl (by rw [Try.ntmps62]; exact Nat.le_of_ble_eq_true rfl) fun KR hKR => ?_
  refine Wc.seq fun K2 hK2 => ?_
  refine Wc.region (by decide +kernel) ?_
  refine lex.pure (v := .slice none 0 0) (pu_assign rfl) ?_
  refine lex.nil ?_
  refine hK2 _ _ ?_
  refine Wc.seq fun K3 hK3 => ?_
  refine Wc.region (by decide +kernel) ?_
  refine lex.pure (v := .slice none 0 0) (pu_assign rfl) ?_
  refine lex.nil ?_
  refine hK3 _ _ ?_
  refine Wc.seq fun K4 hK4 => ?_
  refine Wc.seq fun K5 hK5 => ?_
  refine Wc.region (by decide +kernel) ?_
  refine lex.pure (v := .slice Awx_0 wx_0.length cwx_0) (pu_move rfl) ?_
  refine lex.pure (v := .int .i64 (wx_0.length : Int)) (pu_len (A := Awx_0) (n := wx_0.length) (m := cwx_0) Try.underlying22 rfl) ?_
  obtain ⟨z6, h7, hb⟩ := bd hb
  refine lex.pure (v := .int .i64 z6) (pu_subc (a := (wx_0.length : Int)) (b := 1) rfl rfl h7) ?_
  refine lex.pure (v := .int .i64 z6) (pu_assign rfl) ?_
  refine lex.nil ?_
  refine hK5 _ _ ?_
  replace hC := hC.nil 3 (.int .i64)
  obtain ⟨o9, hl0, hb⟩ := bd hb
  refine Wc.cut (fun E wv => ∃ (l3_0 : List Int) (v4_0 : Int) (Al3_0 : Option Addr) (ml3_0 cl3_0 : Nat), E 2 = .slice none 0 0 ∧ E 3 = .slice Al3_0 ml3_0 cl3_0 ∧ I64 v4_0 ∧ Cx (fun _ => False) O0 w wv [.own 3 (.int .i64) (.slice Al3_0 ml3_0 cl3_0) l3_0] ∧ ((F.ref21_Reduce n l3_0).bind fun y46 => some y46) = some r) (fun K10 hK10 => ?_) ?_
  · refine Wc.block ?_
    refine Wc.loop (fun m E wv => ∃ (l3_0 : List Int) (v4_0 : Int) (Al3_0 : Option Addr) (ml3_0 cl3_0 : Nat), E 0 = .slice Awx_0 wx_0.length cwx_0 ∧ E 2 = .slice none 0 0 ∧ E 3 = .slice Al3_0 ml3_0 cl3_0 ∧ E 4 = .int .i64 v4_0 ∧ I64 v4_0 ∧ Cx (fun _ => False) O0 w wv [.ro (.sl (.int .i64)) [.slice Awx_0 wx_0.length cwx_0] wx_0, .own 3 (.int .i64) (.slice Al3_0 ml3_0 cl3_0) l3_0] ∧ loopN m (F.ref21_Inverse_b0 n wx_0) (l3_0, v4_0) = some o9) n ⟨([] : List Int), z6, none, 0, 0, rfl, rfl, rfl, rfl, (chk_rng h7), hC.sel [1, 0] (by decide), hl0⟩ ?_
    have hbK0 := hb
    clear hb hC hl0
    rintro m12 E14 w13 ⟨l3_0, v4_0, Al3_0, ml3_0, cl3_0, e0, e2, e3, e4, hrv4_0, hC, hl0⟩ K11 hK11
    obtain ⟨m12', o15, rfl, hb, hl0⟩ := loopN_some hl0
    unfold F.ref21_Inverse_b0 at hb
    obtain ⟨rfl, hll3_0, hcl3_0⟩ := (hC.ow (i := 1) rfl).sl_len
    refine Wc.seq fun K16 hK16 => ?_
    refine Wc.seq fun K17 hK17 => ?_
    refine Wc.region (by decide +kernel) ?_
    refine lex.pure (v := .int .i64 v4_0) (pu_move e4) ?_
    refine lex.pure (v := .bool (decide (0 ≤ v4_0))) (pu_geq (k := .i64) (a := v4_0) (b := 0) rfl rfl) ?_
    refine lex.nil ?_
    refine hK17 _ _ ?_
    refine Wc.cond (t := (decide (0 ≤ v4_0))) (rfl) (fun hq18 => ?_) (fun hq18 => ?_)
    · replace hb := (cT hq18).symm.trans hb
      refine Wc.skip ?_
      refine hK16 _ _ ?_
      refine Wc.seq fun K19 hK19 => ?_
      refine Wc.block ?_
      refine Wc.region (by decide +kernel) ?_
      refine lex.pure (v := .slice Al3_0 l3_0.length cl3_0) (pu_move e3) ?_
      refine lex.pure (v := .slice Awx_0 wx_0.length cwx_0) (pu_move e0) ?_
      refine lex.pure (v := .int .i64 v4_0) (pu_move e4) ?_
      obtain ⟨x20, h21, hb⟩ := bd hb
      obtain ⟨ad22, cs23, hA, hc24, hr25⟩ := hC.elr (i := 0) rfl (get_some h21).2
      subst hA
      refine lex.pure (v := .pointer (some (ad22.add (v4_0.toNat * 1)))) (pu_index (a := v4_0) Try.underlying22 Try.sizeOf3 rfl rfl (get_some h21).1) ?_
      obtain ⟨rfl, hr25'⟩ := hr25
      refine lex.val (v := .int .i64 x20) (ld_one Try.isAgg3 rfl (hc24 0 _ rfl)) ?_
      obtain ⟨z26, h27, hb⟩ := bd hb
      refine lex.pure (v := .int .i64 z26) (pu_negc (a := x20) rfl h27) ?_
      refine lex.op (hC.lit (s := (.int .i64)) (vs := [.int .i64 z26]) (xs := [z26]) Try.underlying22 Try.type3 rfl rfl (Nat.le_of_ble_eq_true rfl) rfl rfl (by simp [Value.cells, Sh.n]) rfl (show Elems _ _ (.int .i64) ([.int .i64 z26] ++ ([])) ([z26] : List Int) from Elems.cons (⟨rfl, I64.wr (chk_rng h27)⟩) (Elems.nil _ _ _))) ?_
      rintro _ w32 ⟨A28, c29, rfl, hl30, hc31, hC, hF, hN⟩
      clear hF hN
      obtain ⟨u34, h35, hb⟩ := bd hb
      refine lex.op (hC.app (i := 2) (s := (.int .i64)) (xs := l3_0) (ys := ([z26] : List Int)) (m := ((([z26] : List Int)).length)) rfl Try.underlying22 Try.underlying22 Try.type3 rfl rfl rfl (hC.srco (i := 0) rfl) rfl rfl (by have := lim_some h35; simp at this ⊢ <;> omega) (by decide)) ?_
      rintro _ w40 ⟨A36, c37, rfl, hl38, hc39, hC, hF, hN⟩
      clear hF hN
      refine lex.pure (v := .slice A36 ((l3_0 ++ ([z26] : List Int)).length) c37) (pu_assign rfl) ?_
      refine lex.nil ?_
      refine hK19 _ _ ?_
      refine Wc.region (by decide +kernel) ?_
      refine lex.pure (v := .int .i64 v4_0) (pu_move e4) ?_
      obtain ⟨z41, h42, hb⟩ := bd hb
      refine lex.pure (v := .int .i64 z41) (pu_subc (a := v4_0) (b := 1) rfl rfl h42) ?_
      refine lex.pure (v := .int .i64 z41) (pu_assign rfl) ?_
      refine lex.nil ?_
      obtain rfl := Option.some.inj hb
      exact hK11 m12' _ _ (Nat.lt_succ_self _) ⟨(l3_0 ++ ([z26] : List Int)), z41, A36, (l3_0 ++ ([z26] : List Int)).length, c37, e0, e2, rfl, rfl, (chk_rng h42), hC.sel [1, 2] (by decide), lN hl0⟩
    · replace hb := (cF hq18).symm.trans hb
      refine Wc.exit rfl ?_
      obtain rfl := Option.some.inj hb
      obtain rfl := (lX hl0).symm
      exact hK10 _ _ ⟨l3_0, v4_0, Al3_0, l3_0.length, cl3_0, e2, e3, hrv4_0, hC.sel [1] (by decide), hbK0⟩
  · clear hb hC hl0
    rintro E44 w43 ⟨l3_0, v4_0, Al3_0, ml3_0, cl3_0, e2, e3, hrv4_0, hC, hb⟩
    obtain ⟨rfl, hll3_0, hcl3_0⟩ := (hC.ow (i := 0) rfl).sl_len
    refine hK4 _ _ ?_
    refine Wc.seq fun K45 hK45 => ?_
    refine Wc.region (by decide +kernel) ?_
    refine lex.pure (v := .slice Al3_0 l3_0.length cl3_0) (pu_move e3) ?_
    obtain ⟨y46, h47, hb⟩ := bd hb
    refine lex.cl (⟨_, _, op_call (vs := [.slice Al3_0 l3_0.length cl3_0]) Try.call63 rfl rfl rfl, ref21_Reduce_ok n (hC.lentLt [.slice Al3_0 l3_0.length cl3_0]) ((hC.ow (i := 0) rfl).lend (vs := [.slice Al3_0 l3_0.length cl3_0]) (by simp)) h47⟩) ?_
    rintro _ w52 ⟨A48, m49, c50, rfl, hK⟩
    replace hC := hC.mergeF hK rfl
    clear hK
    obtain ⟨rfl, hl53, hc54⟩ := (hC.ow (i := 0) rfl).sl_len
    refine lex.pure (v := .slice A48 y46.length c50) (pu_assign rfl) ?_
    refine lex.nil ?_
    refine hK45 _ _ ?_
    obtain rfl := Option.some.inj hb
    refine Wc.ret ?_
    refine hKR _ _ ?_
    refine ⟨_, res1 Try.results62 (show RV _ _ _ (.tmp _) (.slice A48 y46.length c50) from rfl), _, rfl, A48, y46.length, c50, rfl, hC.sel [0] (by decide)⟩

set_option maxRecDepth 100000 in
set_option maxHeartbeats 4000000 in
theorem ref21_Substitute_ok (n : Nat) {w : World} {O0 : List Nat} (hO : ∀ k ∈ O0, k < w.heap.size) {Awx_0 : Option Addr} {mwx_0 cwx_0 : Nat} {wx_0 : List Int} (hwx_0 : Rep O0 w (.sl (.int .i64)) [.slice Awx_0 mwx_0 cwx_0] wx_0) {Aimages_1 : Option Addr} {mimages_1 cimages_1 : Nat} {images_1 : List (List Int)} (himages_1 : Rep O0 w (.sl (.sl (.int .i64))) [.slice Aimages_1 mimages_1 cimages_1] images_1) {r : (List Int)} (hb : F.ref21_Substitute n wx_0 images_1 = some r) :
    Calls Try.prog 48 #[.slice Awx_0 mwx_0 cwx_0, .slice Aimages_1 mimages_1 cimages_1] w fun e w' => ∃ v, e = .returned v ∧ ∃ (A0 : Option Addr) (m0 c0 : Nat), v = .slice A0 m0 c0 ∧ Cx (fun _ => False) O0 w w' [.own 3 (.int .i64) (.slice A0 m0 c0) r] := by
  unfold F.ref21_Substitute at hb
  have hC := Cx.start hO
  replace hC := hC.arg rfl hwx_0
  replace hC := hC.arg rfl himages_1
  clear hO
  obtain ⟨rfl, hlwx_0, hcwx_0⟩ := hwx_0.sl_len
  obtain ⟨rfl, hlimages_1, hcimages_1⟩ := himages_1.sl_len
  refine calls_of_Wc Try.func48 rfl (by rw [Try.ntmps48]; exact Nat.le_of_ble_eq_true rfl) fun KR hKR => ?_
  refine Wc.seq fun K3 hK3 => ?_
  refine Wc.region (by decide +kernel) ?_
  refine lex.pure (v := .slice none 0 0) (pu_assign rfl) ?_
  refine lex.nil ?_
  refine hK3 _ _ ?_
  refine Wc.seq fun K4 hK4 => ?_
  refine Wc.region (by decide +kernel) ?_
  refine lex.pure (v := .slice none 0 0) (pu_assign rfl) ?_
  refine lex.nil ?_
  refine hK4 _ _ ?_
  refine Wc.seq fun K5 hK5 => ?_
  refine Wc.seq fun K6 hK6 => ?_
  refine Wc.region (by decide +kernel) ?_
  refine lex.pure (v := .int .i64 0) (pu_assign rfl) ?_
  refine lex.nil ?_
  refine hK6 _ _ ?_
  replace hC := hC.nil 3 (.int .i64)
  obtain ⟨o8, hl0, hb⟩ := bd hb
  refine Wc.cut (fun E wv => ∃ (l5_0 : List Int) (v6_0 : Int) (Al5_0 : Option Addr) (ml5_0 cl5_0 : Nat), E 4 = .slice none 0 0 ∧ E 5 = .slice Al5_0 ml5_0 cl5_0 ∧ I64 v6_0 ∧ Cx (fun _ => False) O0 w wv [.own 3 (.int .i64) (.slice Al5_0 ml5_0 cl5_0) l5_0] ∧ ((F.ref21_Reduce n l5_0).bind fun y97 => some y97) = some r) (fun K9 hK9 => ?_) ?_
  · refine Wc.block ?_
    refine Wc.loop (fun m E wv => ∃ (l5_0 : List Int) (v6_0 : Int) (Al5_0 : Option Addr) (ml5_0 cl5_0 : Nat), E 0 = .slice Awx_0 wx_0.length cwx_0 ∧ E 1 = .slice Aimages_1 images_1.length cimages_1 ∧ E 4 = .slice none 0 0 ∧ E 5 = .slice Al5_0 ml5_0 cl5_0 ∧ E 6 = .int .i64 v6_0 ∧ I64 v6_0 ∧ Cx (fun _ => False) O0 w wv [.ro (.sl (.int .i64)) [.slice Awx_0 wx_0.length cwx_0] wx_0, .ro (.sl (.sl (.int .i64))) [.slice Aimages_1 images_1.length cimages_1] images_1, .own 3 (.int .i64) (.slice Al5_0 ml5_0 cl5_0) l5_0] ∧ loopN m (F.ref21_Substitute_b0 n wx_0 images_1) (l5_0, v6_0) = some o8) n ⟨([] : List Int), 0, none, 0, 0, rfl, rfl, rfl, rfl, rfl, (show I64 0 from by unfold I64; omega), hC.sel [2, 1, 0] (by decide), hl0⟩ ?_
    have hbK0 := hb
    clear hb hC hl0
    rintro m11 E13 w12 ⟨l5_0, v6_0, Al5_0, ml5_0, cl5_0, e0, e1, e4, e5, e6, hrv6_0, hC, hl0⟩ K10 hK10
    obtain ⟨m11', o14, rfl, hb, hl0⟩ := loopN_some hl0
    unfold F.ref21_Substitute_b0 at hb
    obtain ⟨rfl, hll5_0, hcl5_0⟩ := (hC.ow (i := 2) rfl).sl_len
    refine Wc.seq fun K15 hK15 => ?_
    refine Wc.seq fun K16 hK16 => ?_
    refine Wc.region (by decide +kernel) ?_
    refine lex.pure (v := .int .i64 v6_0) (pu_move e6) ?_
    refine lex.pure (v := .slice Awx_0 wx_0.length cwx_0) (pu_move e0) ?_
    refine lex.pure (v := .int .i64 (wx_0.length : Int)) (pu_len (A := Awx_0) (n := wx_0.length) (m := cwx_0) Try.underlying22 rfl) ?_
    refine lex.pure (v := .bool (decide (v6_0 < (wx_0.length : Int)))) (pu_lss (k := .i64) (a := v6_0) (b := (wx_0.length : Int)) rfl rfl) ?_
    refine lex.nil ?_
    refine hK16 _ _ ?_
    refine Wc.cond (t := (decide (v6_0 < (wx_0.length : Int)))) (rfl) (fun hq17 => ?_) (fun hq17 => ?_)
    · replace hb := (cT hq17).symm.trans hb
      refine Wc.skip ?_
      refine hK15 _ _ ?_
      refine Wc.seq fun K18 hK18 => ?_
      refine Wc.block ?_
      refine Wc.seq fun K19 hK19 => ?_
      refine Wc.region (by decide +kernel) ?_
      refine lex.pure (v := .slice Awx_0 wx_0.length cwx_0) (pu_move e0) ?_
      refine lex.pure (v := .int .i64 v6_0) (pu_move e6) ?_
      obtain ⟨x20, h21, hb⟩ := bd hb
      obtain ⟨ad22, cs23, hA, hc24, hr25⟩ := hC.elr (i := 0) rfl (get_some h21).2
      subst hA
      refine lex.pure (v := .pointer (some (ad22.add (v6_0.toNat * 1)))) (pu_index (a := v6_0) Try.underlying22 Try.sizeOf3 rfl rfl (get_some h21).1) ?_
      obtain ⟨rfl, hr25'⟩ := hr25
      refine lex.val (v := .int .i64 x20) (ld_one Try.isAgg3 rfl (hc24 0 _ rfl)) ?_
      refine lex.pure (v := .bool (decide (0 < x20))) (pu_gtr (k := .i64) (a := x20) (b := 0) rfl rfl) ?_
      refine lex.nil ?_
      refine hK19 _ _ ?_
      refine Wc.cond (t := (decide (0 < x20))) (rfl) (fun hq26 => ?_) (fun hq26 => ?_)
      · replace hb := (cT hq26).symm.trans hb
        refine Wc.region (by decide +kernel) ?_
        refine lex.pure (v := .slice Al5_0 l5_0.length cl5_0) (pu_move e5) ?_
        refine lex.pure (v := .slice Aimages_1 images_1.length cimages_1) (pu_move e1) ?_
        refine lex.pure (v := .slice (some ad22) wx_0.length cwx_0) (pu_move e0) ?_
        refine lex.pure (v := .int .i64 v6_0) (pu_move e6) ?_
        obtain ⟨x27, h28, hb⟩ := bd hb
        obtain ⟨ad29, cs30, hA, hc31, hr32⟩ := hC.elr (i := 0) rfl (get_some h28).2
        obtain rfl := Option.some.inj hA
        refine lex.pure (v := .pointer (some (ad22.add (v6_0.toNat * 1)))) (pu_index (a := v6_0) Try.underlying22 Try.sizeOf3 rfl rfl (get_some h28).1) ?_
        obtain ⟨rfl, hr32'⟩ := hr32
        refine lex.val (v := .int .i64 x27) (ld_one Try.isAgg3 rfl (hc31 0 _ rfl)) ?_
        obtain ⟨z33, h34, hb⟩ := bd hb
        refine lex.pure (v := .int .i64 z33) (pu_subc (a := x27) (b := 1) rfl rfl h34) ?_
        obtain ⟨x35, h36, hb⟩ := bd hb
        obtain ⟨ad37, cs38, hA, hc39, hr40⟩ := hC.elr (i := 1) rfl (get_some h36).2
        subst hA
        refine lex.pure (v := .pointer (some (ad37.add (z33.toNat * 1)))) (pu_index (a := z33) Try.underlying35 Try.sizeOf22 rfl rfl (get_some h36).1) ?_
        have hR := hr40
        obtain ⟨A41, c42, rfl, hl43, hc44, _⟩ := hr40
        replace hC := hC.ro hR
        clear hR
        refine lex.val (v := .slice A41 x35.length c42) (ld_one Try.isAgg22 rfl (hc39 0 _ rfl)) ?_
        obtain ⟨u46, h47, hb⟩ := bd hb
        refine lex.op (hC.app (i := 3) (s := (.int .i64)) (xs := l5_0) (ys := x35) (m := x35.length) rfl Try.underlying22 Try.underlying22 Try.type3 rfl rfl rfl (hC.srcr (i := 0) rfl) rfl rfl (by have := lim_some h47; simp at this ⊢ <;> omega) (by decide)) ?_
        rintro _ w52 ⟨A48, c49, rfl, hl50, hc51, hC, hF, hN⟩
        clear hF hN
        refine lex.pure (v := .slice A48 ((l5_0 ++ x35).length) c49) (pu_assign rfl) ?_
        refine lex.nil ?_
        refine hK18 _ _ ?_
        refine Wc.region (by decide +kernel) ?_
        refine lex.pure (v := .int .i64 v6_0) (pu_move e6) ?_
        obtain ⟨z53, h54, hb⟩ := bd hb
        refine lex.pure (v := .int .i64 z53) (pu_addc (a := v6_0) (b := 1) rfl rfl h54) ?_
        refine lex.pure (v := .int .i64 z53) (pu_assign rfl) ?_
        refine lex.nil ?_
        obtain rfl := Option.some.inj hb
        exact hK10 m11' _ _ (Nat.lt_succ_self _) ⟨(l5_0 ++ x35), z53, A48, (l5_0 ++ x35).length, c49, e0, e1, e4, rfl, rfl, (chk_rng h54), hC.sel [1, 2, 3] (by decide), lN hl0⟩
      · replace hb := (cF hq26).symm.trans hb
        refine Wc.region (by decide +kernel) ?_
        refine lex.pure (v := .slice Al5_0 l5_0.length cl5_0) (pu_move e5) ?_
        refine lex.pure (v := .slice Aimages_1 images_1.length cimages_1) (pu_move e1) ?_
        refine lex.pure (v := .slice (some ad22) wx_0.length cwx_0) (pu_move e0) ?_
        refine lex.pure (v := .int .i64 v6_0) (pu_move e6) ?_
        obtain ⟨x55, h56, hb⟩ := bd hb
        obtain ⟨ad57, cs58, hA, hc59, hr60⟩ := hC.elr (i := 0) rfl (get_some h56).2
        obtain rfl := Option.some.inj hA
        refine lex.pure (v := .pointer (some (ad22.add (v6_0.toNat * 1)))) (pu_index (a := v6_0) Try.underlying22 Try.sizeOf3 rfl rfl (get_some h56).1) ?_
        obtain ⟨rfl, hr60'⟩ := hr60
        refine lex.val (v := .int .i64 x55) (ld_one Try.isAgg3 rfl (hc59 0 _ rfl)) ?_
        obtain ⟨z61, h62, hb⟩ := bd hb
        refine lex.pure (v := .int .i64 z61) (pu_negc (a := x55) rfl h62) ?_
        obtain ⟨z63, h64, hb⟩ := bd hb
        refine lex.pure (v := .int .i64 z63) (pu_subc (a := z61) (b := 1) rfl rfl h64) ?_
        obtain ⟨x65, h66, hb⟩ := bd hb
        obtain ⟨ad67, cs68, hA, hc69, hr70⟩ := hC.elr (i := 1) rfl (get_some h66).2
        subst hA
        refine lex.pure (v := .pointer (some (ad67.add (z63.toNat * 1)))) (pu_index (a := z63) Try.underlying35 Try.sizeOf22 rfl rfl (get_some h66).1) ?_
        have hR := hr70
        obtain ⟨A71, c72, rfl, hl73, hc74, _⟩ := hr70
        replace hC := hC.ro hR
        clear hR
        refine lex.val (v := .slice A71 x65.length c72) (ld_one Try.isAgg22 rfl (hc69 0 _ rfl)) ?_
        obtain ⟨y76, h77, hb⟩ := bd hb
        refine lex.cl (⟨_, _, op_call (vs := [.slice A71 x65.length c72]) Try.call62 rfl rfl rfl, ref21_Inverse_ok n hC.lt (hC.rd (i := 0) rfl) h77⟩) ?_
        rintro _ w82 ⟨A78, m79, c80, rfl, hK⟩
        replace hC := hC.merge hK
        clear hK
        obtain ⟨rfl, hl83, hc84⟩ := (hC.ow (i := 0) rfl).sl_len
        obtain ⟨u85, h86, hb⟩ := bd hb
        refine lex.op (hC.app (i := 4) (s := (.int .i64)) (xs := l5_0) (ys := y76) (m := y76.length) rfl Try.underlying22 Try.underlying22 Try.type3 rfl rfl rfl (hC.srco (i := 0) rfl) rfl rfl (by have := lim_some h86; simp at this ⊢ <;> omega) (by decide)) ?_
        rintro _ w91 ⟨A87, c88, rfl, hl89, hc90, hC, hF, hN⟩
        clear hF hN
        refine lex.pure (v := .slice A87 ((l5_0 ++ y76).length) c88) (pu_assign rfl) ?_
        refine lex.nil ?_
        refine hK18 _ _ ?_
        refine Wc.region (by decide +kernel) ?_
        refine lex.pure (v := .int .i64 v6_0) (pu_move e6) ?_
        obtain ⟨z92, h93, hb⟩ := bd hb
        refine lex.pure (v := .int .i64 z92) (pu_addc (a := v6_0) (b := 1) rfl rfl h93) ?_
        refine lex.pure (v := .int .i64 z92) (pu_assign rfl) ?_
        refine lex.nil ?_
        obtain rfl := Option.some.inj hb
        exact hK10 m11' _ _ (Nat.lt_succ_self _) ⟨(l5_0 ++ y76), z92, A87, (l5_0 ++ y76).length, c88, e0, e1, e4, rfl, rfl, (chk_rng h93), hC.sel [2, 3, 4] (by decide), lN hl0⟩
    · replace hb := (cF hq17).symm.trans hb
      refine Wc.exit rfl ?_
      obtain rfl := Option.some.inj hb
      obtain rfl := (lX hl0).symm
      exact hK9 _ _ ⟨l5_0, v6_0, Al5_0, l5_0.length, cl5_0, e4, e5, hrv6_0, hC.sel [2] (by decide), hbK0⟩
  · clear hb hC hl0
    rintro E95 w94 ⟨l5_0, v6_0, Al5_0, ml5_0, cl5_0, e4, e5, hrv6_0, hC, hb⟩
    obtain ⟨rfl, hll5_0, hcl5_0⟩ := (hC.ow (i := 0) rfl).sl_len
    refine hK5 _ _ ?_
    refine Wc.seq fun K96 hK96 => ?_
    refine Wc.region (by decide +kernel) ?_
    refine lex.pure (v := .slice Al5_0 l5_0.length cl5_0) (pu_move e5) ?_
    obtain ⟨y97, h98, hb⟩ := bd hb
    refine lex.cl (⟨_, _, op_call (vs := [.slice Al5_0 l5_0.length cl5_0]) Try.call63 rfl rfl rfl, ref21_Reduce_ok n (hC.lentLt [.slice Al5_0 l5_0.length cl5_0]) ((hC.ow (i := 0) rfl).lend (vs := [.slice Al5_0 l5_0.length cl5_0]) (by simp)) h98⟩) ?_
    rintro _ w103 ⟨A99, m100, c101, rfl, hK⟩
    replace hC := hC.mergeF hK rfl
    clear hK
    obtain ⟨rfl, hl104, hc105⟩ := (hC.ow (i := 0) rfl).sl_len
    refine lex.pure (v := .slice A99 y97.length c101) (pu_assign rfl) ?_
    refine lex.nil ?_
    refine hK96 _ _ ?_
    obtain rfl := Option.some.inj hb
    refine Wc.ret ?_
    refine hKR _ _ ?_
    refine ⟨_, res1 Try.results48 (show RV _ _ _ (.tmp _) (.slice A99 y97.length c101) from rfl), _, rfl, A99, y97.length, c101, rfl, hC.sel [0] (by decide)⟩

set_option maxRecDepth 100000 in
set_option maxHeartbeats 4000000 in
theorem ref34_Action_ok (n : Nat) {w : World} {O0 : List Nat} (hO : ∀ k ∈ O0, k < w.heap.size) {strands_0 : Int} (hstrands_0 : I64 strands_0) {Aletters_1 : Option Addr} {mletters_1 cletters_1 : Nat} {letters_1 : List Int} (hletters_1 : Rep O0 w (.sl (.int .i64)) [.slice Aletters_1 mletters_1 cletters_1] letters_1) {most_2 : Int} (hmost_2 : I64 most_2) {r : (List (List Int))} (hb : F.ref34_Action n strands_0 letters_1 most_2 = some r) :
    Calls Try.prog 18 #[.int .i64 strands_0, .slice Aletters_1 mletters_1 cletters_1, .int .i64 most_2] w fun e w' => ∃ v, e = .returned v ∧ ∃ (A0 : Option Addr) (m0 c0 : Nat), v = .slice A0 m0 c0 ∧ Cx (fun _ => False) O0 w w' [.own 22 (.sl (.int .i64)) (.slice A0 m0 c0) r] := by
  unfold F.ref34_Action at hb
  have hC := Cx.start hO
  replace hC := hC.arg rfl hletters_1
  clear hO
  obtain ⟨rfl, hlletters_1, hcletters_1⟩ := hletters_1.sl_len
  refine calls_of_Wc Try.func18 rfl (by rw [Try.ntmps18]; exact Nat.le_of_ble_eq_true rfl) fun KR hKR => ?_
  refine Wc.seq fun K2 hK2 => ?_
  refine Wc.region (by decide +kernel) ?_
  refine lex.pure (v := .slice none 0 0) (pu_assign rfl) ?_
  refine lex.nil ?_
  refine hK2 _ _ ?_
  refine Wc.seq fun K3 hK3 => ?_
  refine Wc.region (by decide +kernel) ?_
  refine lex.pure (v := .slice none 0 0) (pu_assign rfl) ?_
  refine lex.nil ?_
  refine hK3 _ _ ?_
  refine Wc.seq fun K4 hK4 => ?_
  refine Wc.seq fun K5 hK5 => ?_
  refine Wc.region (by decide +kernel) ?_
  refine lex.pure (v := .int .i64 0) (pu_assign rfl) ?_
  refine lex.nil ?_
  refine hK5 _ _ ?_
  replace hC := hC.nil 22 (.sl (.int .i64))
  obtain ⟨o7, hl0, hb⟩ := bd hb
  refine Wc.cut (fun E wv => ∃ (l7_0 : List (List Int)) (v8_0 : Int) (Al7_0 : Option Addr) (ml7_0 cl7_0 : Nat), E 0 = .int .i64 strands_0 ∧ E 1 = .slice Aletters_1 letters_1.length cletters_1 ∧ E 2 = .int .i64 most_2 ∧ E 6 = .slice none 0 0 ∧ E 7 = .slice Al7_0 ml7_0 cl7_0 ∧ I64 v8_0 ∧ Cx (fun _ => False) O0 w wv [.ro (.sl (.int .i64)) [.slice Aletters_1 letters_1.length cletters_1] letters_1, .own 22 (.sl (.int .i64)) (.slice Al7_0 ml7_0 cl7_0) l7_0] ∧ ((chk ((letters_1.length : Int) - 1)).bind fun z45 => ((loopN n (F.ref34_Action_b1 n strands_0 letters_1 most_2) (l7_0, z45)).bind fun o47 => match o47 with     | (.inl (l7_1, v9_1)) => some l7_1     | (.inr q) => some q)) = some r) (fun K8 hK8 => ?_) ?_
  · refine Wc.block ?_
    refine Wc.loop (fun m E wv => ∃ (l7_0 : List (List Int)) (v8_0 : Int) (Al7_0 : Option Addr) (ml7_0 cl7_0 : Nat), E 0 = .int .i64 strands_0 ∧ E 1 = .slice Aletters_1 letters_1.length cletters_1 ∧ E 2 = .int .i64 most_2 ∧ E 6 = .slice none 0 0 ∧ E 7 = .slice Al7_0 ml7_0 cl7_0 ∧ E 8 = .int .i64 v8_0 ∧ I64 v8_0 ∧ Cx (fun _ => False) O0 w wv [.ro (.sl (.int .i64)) [.slice Aletters_1 letters_1.length cletters_1] letters_1, .own 22 (.sl (.int .i64)) (.slice Al7_0 ml7_0 cl7_0) l7_0] ∧ loopN m (F.ref34_Action_b0 n strands_0) (l7_0, v8_0) = some o7) n ⟨([] : List (List Int)), 0, none, 0, 0, rfl, rfl, rfl, rfl, rfl, rfl, (show I64 0 from by unfold I64; omega), hC.sel [1, 0] (by decide), hl0⟩ ?_
    have hbK0 := hb
    clear hb hC hl0
    rintro m10 E12 w11 ⟨l7_0, v8_0, Al7_0, ml7_0, cl7_0, e0, e1, e2, e6, e7, e8, hrv8_0, hC, hl0⟩ K9 hK9
    obtain ⟨m10', o13, rfl, hb, hl0⟩ := loopN_some hl0
    unfold F.ref34_Action_b0 at hb
    obtain ⟨rfl, hll7_0, hcl7_0⟩ := (hC.ow (i := 1) rfl).sl_len
    refine Wc.seq fun K14 hK14 => ?_
    refine Wc.seq fun K15 hK15 => ?_
    refine Wc.region (by decide +kernel) ?_
    refine lex.pure (v := .int .i64 v8_0) (pu_move e8) ?_
    refine lex.pure (v := .int .i64 strands_0) (pu_move e0) ?_
    refine lex.pure (v := .bool (decide (v8_0 < strands_0))) (pu_lss (k := .i64) (a := v8_0) (b := strands_0) rfl rfl) ?_
    refine lex.nil ?_
    refine hK15 _ _ ?_
    refine Wc.cond (t := (decide (v8_0 < strands_0))) (rfl) (fun hq16 => ?_) (fun hq16 => ?_)
    · replace hb := (cT hq16).symm.trans hb
      refine Wc.skip ?_
      refine hK14 _ _ ?_
      refine Wc.seq fun K17 hK17 => ?_
      refine Wc.block ?_
      refine Wc.region (by decide +kernel) ?_
      refine lex.pure (v := .slice Al7_0 l7_0.length cl7_0) (pu_move e7) ?_
      refine lex.pure (v := .int .i64 v8_0) (pu_move e8) ?_
      obtain ⟨z18, h19, hb⟩ := bd hb
      refine lex.pure (v := .int .i64 z18) (pu_addc (a := v8_0) (b := 1) rfl rfl h19) ?_
      refine lex.op (hC.lit (s := (.int .i64)) (vs := [.int .i64 z18]) (xs := [z18]) Try.underlying22 Try.type3 rfl rfl (Nat.le_of_ble_eq_true rfl) rfl rfl (by simp [Value.cells, Sh.n]) rfl (show Elems _ _ (.int .i64) ([.int .i64 z18] ++ ([])) ([z18] : List Int) from Elems.cons (⟨rfl, I64.wr (chk_rng h19)⟩) (Elems.nil _ _ _))) ?_
      rintro _ w24 ⟨A20, c21, rfl, hl22, hc23, hC, hF, hN⟩
      clear hF hN
      replace hC := hC.freeze (i := 0) rfl (hC.own_new (i := 0) rfl)
      refine lex.op (hC.lit (s := (.sl (.int .i64))) (vs := [.slice A20 ((([z18] : List Int)).length) c21]) (xs := [([z18] : List Int)]) Try.underlying35 Try.type22 rfl rfl (Nat.le_of_ble_eq_true rfl) rfl rfl (by simp [Value.cells, Sh.n]) rfl (show Elems _ _ (.sl (.int .i64)) ([.slice A20 ((([z18] : List Int)).length) c21] ++ ([])) ([([z18] : List Int)] : List (List Int)) from Elems.cons (hC.rd (i := 0) rfl) (Elems.nil _ _ _))) ?_
      rintro _ w30 ⟨A26, c27, rfl, hl28, hc29, hC, hF, hN⟩
      clear hF hN
      obtain ⟨u32, h33, hb⟩ := bd hb
      refine lex.op (hC.app (i := 3) (s := (.sl (.int .i64))) (xs := l7_0) (ys := ([([z18] : List Int)] : List (List Int))) (m := ((([([z18] : List Int)] : List (List Int))).length)) rfl Try.underlying35 Try.underlying35 Try.type22 rfl rfl rfl (hC.srco (i := 0) rfl) rfl rfl (by have := lim_some h33; simp at this ⊢ <;> omega) (by decide)) ?_
      rintro _ w38 ⟨A34, c35, rfl, hl36, hc37, hC, hF, hN⟩
      clear hF hN
      refine lex.pure (v := .slice A34 ((l7_0 ++ ([([z18] : List Int)] : List (List Int))).length) c35) (pu_assign rfl) ?_
      refine lex.nil ?_
      refine hK17 _ _ ?_
      refine Wc.region (by decide +kernel) ?_
      refine lex.pure (v := .int .i64 v8_0) (pu_move e8) ?_
      obtain ⟨z39, h40, hb⟩ := bd hb
      refine lex.pure (v := .int .i64 z39) (pu_addc (a := v8_0) (b := 1) rfl rfl h40) ?_
      refine lex.pure (v := .int .i64 z39) (pu_assign rfl) ?_
      refine lex.nil ?_
      obtain rfl := Option.some.inj hb
      exact hK9 m10' _ _ (Nat.lt_succ_self _) ⟨(l7_0 ++ ([([z18] : List Int)] : List (List Int))), z39, A34, (l7_0 ++ ([([z18] : List Int)] : List (List Int))).length, c35, e0, e1, e2, e6, rfl, rfl, (chk_rng h40), hC.sel [2, 3] (by decide), lN hl0⟩
    · replace hb := (cF hq16).symm.trans hb
      refine Wc.exit rfl ?_
      obtain rfl := Option.some.inj hb
      obtain rfl := (lX hl0).symm
      exact hK8 _ _ ⟨l7_0, v8_0, Al7_0, l7_0.length, cl7_0, e0, e1, e2, e6, e7, hrv8_0, hC.sel [0, 1] (by decide), hbK0⟩
  · clear hb hC hl0
    rintro E42 w41 ⟨l7_0, v8_0, Al7_0, ml7_0, cl7_0, e0, e1, e2, e6, e7, hrv8_0, hC, hb⟩
    obtain ⟨rfl, hll7_0, hcl7_0⟩ := (hC.ow (i := 1) rfl).sl_len
    refine hK4 _ _ ?_
    refine Wc.seq fun K43 hK43 => ?_
    refine Wc.seq fun K44 hK44 => ?_
    refine Wc.region (by decide +kernel) ?_
    refine lex.pure (v := .slice Aletters_1 letters_1.length cletters_1) (pu_move e1) ?_
    refine lex.pure (v := .int .i64 (letters_1.length : Int)) (pu_len (A := Aletters_1) (n := letters_1.length) (m := cletters_1) Try.underlying22 rfl) ?_
    obtain ⟨z45, h46, hb⟩ := bd hb
    refine lex.pure (v := .int .i64 z45) (pu_subc (a := (letters_1.length : Int)) (b := 1) rfl rfl h46) ?_
    refine lex.pure (v := .int .i64 z45) (pu_assign rfl) ?_
    refine lex.nil ?_
    refine hK44 _ _ ?_
    obtain ⟨o47, hl1, hb⟩ := bd hb
    refine Wc.cut (fun E wv => ∃ (l7_1 : List (List Int)) (v9_1 : Int) (Al7_1 : Option Addr) (ml7_1 cl7_1 : Nat), E 6 = .slice none 0 0 ∧ E 7 = .slice Al7_1 ml7_1 cl7_1 ∧ I64 v9_1 ∧ Cx (fun _ => False) O0 w wv [.own 22 (.sl (.int .i64)) (.slice Al7_1 ml7_1 cl7_1) l7_1] ∧ (some l7_1) = some r) (fun K48 hK48 => ?_) ?_
    · refine Wc.block ?_
      refine Wc.loop (fun m E wv => ∃ (l7_1 : List (List Int)) (v9_1 : Int) (Al7_1 : Option Addr) (ml7_1 cl7_1 : Nat), E 0 = .int .i64 strands_0 ∧ E 1 = .slice Aletters_1 letters_1.length cletters_1 ∧ E 2 = .int .i64 most_2 ∧ E 6 = .slice none 0 0 ∧ E 7 = .slice Al7_1 ml7_1 cl7_1 ∧ E 9 = .int .i64 v9_1 ∧ I64 v9_1 ∧ Cx (fun _ => False) O0 w wv [.ro (.sl (.int .i64)) [.slice Aletters_1 letters_1.length cletters_1] letters_1, .own 22 (.sl (.int .i64)) (.slice Al7_1 ml7_1 cl7_1) l7_1] ∧ loopN m (F.ref34_Action_b1 n strands_0 letters_1 most_2) (l7_1, v9_1) = some o47) n ⟨l7_0, z45, Al7_0, l7_0.length, cl7_0, e0, e1, e2, e6, e7, rfl, (chk_rng h46), hC.sel [0, 1] (by decide), hl1⟩ ?_
      have hbK1 := hb
      clear hb hC hl1
      rintro m50 E52 w51 ⟨l7_1, v9_1, Al7_1, ml7_1, cl7_1, e0, e1, e2, e6, e7, e9, hrv9_1, hC, hl1⟩ K49 hK49
      obtain ⟨m50', o53, rfl, hb, hl1⟩ := loopN_some hl1
      unfold F.ref34_Action_b1 at hb
      obtain ⟨rfl, hll7_1, hcl7_1⟩ := (hC.ow (i := 1) rfl).sl_len
      refine Wc.seq fun K54 hK54 => ?_
      refine Wc.seq fun K55 hK55 => ?_
      refine Wc.region (by decide +kernel) ?_
      refine lex.pure (v := .int .i64 v9_1) (pu_move e9) ?_
      refine lex.pure (v := .bool (decide (0 ≤ v9_1))) (pu_geq (k := .i64) (a := v9_1) (b := 0) rfl rfl) ?_
      refine lex.nil ?_
      refine hK55 _ _ ?_
      refine Wc.cond (t := (decide (0 ≤ v9_1))) (rfl) (fun hq56 => ?_) (fun hq56 => ?_)
      · replace hb := (cT hq56).symm.trans hb
        refine Wc.skip ?_
        refine hK54 _ _ ?_
        refine Wc.seq fun K57 hK57 => ?_
        refine Wc.block ?_
        refine Wc.seq fun K58 hK58 => ?_
        refine Wc.region (by decide +kernel) ?_
        refine lex.pure (v := .slice Aletters_1 letters_1.length cletters_1) (pu_move e1) ?_
        refine lex.pure (v := .int .i64 v9_1) (pu_move e9) ?_
        obtain ⟨x59, h60, hb⟩ := bd hb
        obtain ⟨ad61, cs62, hA, hc63, hr64⟩ := hC.elr (i := 0) rfl (get_some h60).2
        subst hA
        refine lex.pure (v := .pointer (some (ad61.add (v9_1.toNat * 1)))) (pu_index (a := v9_1) Try.underlying22 Try.sizeOf3 rfl rfl (get_some h60).1) ?_
        obtain ⟨rfl, hr64'⟩ := hr64
        refine lex.val (v := .int .i64 x59) (ld_one Try.isAgg3 rfl (hc63 0 _ rfl)) ?_
        refine lex.pure (v := .int .i64 x59) (pu_assign rfl) ?_
        refine lex.nil ?_
        refine hK58 _ _ ?_
        refine Wc.seqJ (fun E wv => ∃ (v10_2 : Int) (v39_2 : Bool), E 0 = .int .i64 strands_0 ∧ E 1 = .slice (some ad61) letters_1.length cletters_1 ∧ E 2 = .int .i64 most_2 ∧ E 6 = .slice none 0 0 ∧ E 7 = .slice Al7_1 l7_1.length cl7_1 ∧ E 9 = .int .i64 v9_1 ∧ E 10 = .int .i64 v10_2 ∧ E 31 = .bool (decide (0 ≤ v9_1)) ∧ E 39 = .bool v39_2 ∧ I64 v10_2 ∧ Cx (fun _ => False) O0 w wv [.ro (.sl (.int .i64)) [.slice (some ad61) letters_1.length cletters_1] letters_1, .own 22 (.sl (.int .i64)) (.slice Al7_1 l7_1.length cl7_1) l7_1] ∧ F.ref34_Action_j2 n strands_0 letters_1 most_2 l7_1 v9_1 v10_2 v39_2 = some o53) (fun K65 hK65 => ?_) ?_
        ·
          skip
          refine Wc.seq fun K66 hK66 => ?_
          refine Wc.region (by decide +kernel) ?_
          refine lex.pure (v := .int .i64 x59) (pu_move rfl) ?_
          refine lex.pure (v := .bool (decide (x59 < 0))) (pu_lss (k := .i64) (a := x59) (b := 0) rfl rfl) ?_
          refine lex.nil ?_
          refine hK66 _ _ ?_
          refine Wc.cond (t := (decide (x59 < 0))) (rfl) (fun hq67 => ?_) (fun hq67 => ?_)
          · replace hb := (cT hq67).symm.trans hb
            refine Wc.region (by decide +kernel) ?_
            refine lex.pure (v := .int .i64 x59) (pu_move rfl) ?_
            obtain ⟨z68, h69, hb⟩ := bd hb
            refine lex.pure (v := .int .i64 z68) (pu_subc (a := 0) (b := x59) rfl rfl h69) ?_
            refine lex.pure (v := .int .i64 z68) (pu_assign rfl) ?_
            refine lex.nil ?_
            exact hK65 _ _ ⟨z68, (decide (x59 < 0)), e0, e1, e2, e6, e7, e9, rfl, rfl, rfl, (chk_rng h69), hC.sel [0, 1] (by decide), hb⟩
          · replace hb := (cF hq67).symm.trans hb
            refine Wc.skip ?_
            exact hK65 _ _ ⟨x59, (decide (x59 < 0)), e0, e1, e2, e6, e7, e9, rfl, rfl, rfl, (wrap_I64 hr64'), hC.sel [0, 1] (by decide), hb⟩
        · clear hb hC
          rintro E71 w70 ⟨v10_2, v39_2, e0, e1, e2, e6, e7, e9, e10, e31, e39, hrv10_2, hC, hb⟩
          unfold F.ref34_Action_j2 at hb
          refine Wc.seq fun K72 hK72 => ?_
          refine Wc.region (by decide +kernel) ?_
          refine lex.pure (v := .int .i64 strands_0) (pu_move e0) ?_
          obtain ⟨u73, h74, hb⟩ := bd hb
          refine lex.op (hC.make (s := (.sl (.int .i64))) (n := strands_0) Try.underlying35 Try.type22 rfl rfl rfl rfl rfl (pos_some h74).1 (pos_some h74).2 (by decide)) ?_
          rintro _ w79 ⟨A75, c76, rfl, hl77, hc78, hC, hF, hN⟩
          clear hF hN
          refine lex.pure (v := .slice A75 (((List.replicate strands_0.toNat ([] : List Int))).length) c76) (pu_assign rfl) ?_
          refine lex.nil ?_
          refine hK72 _ _ ?_
          refine Wc.seq fun K81 hK81 => ?_
          refine Wc.seq fun K82 hK82 => ?_
          refine Wc.region (by decide +kernel) ?_
          refine lex.pure (v := .int .i64 0) (pu_assign rfl) ?_
          refine lex.nil ?_
          refine hK82 _ _ ?_
          obtain ⟨o83, hl3, hb⟩ := bd hb
          refine Wc.cut (fun E wv => ∃ (v12_3 : Int) (qf80_3 : List (List Int)), E 0 = .int .i64 strands_0 ∧ E 1 = .slice (some ad61) letters_1.length cletters_1 ∧ E 2 = .int .i64 most_2 ∧ E 6 = .slice none 0 0 ∧ E 7 = .slice Al7_1 l7_1.length cl7_1 ∧ E 9 = .int .i64 v9_1 ∧ E 10 = .int .i64 v10_2 ∧ E 11 = .slice A75 (((List.replicate strands_0.toNat ([] : List Int))).length) c76 ∧ E 12 = .int .i64 v12_3 ∧ E 31 = .bool (decide (0 ≤ v9_1)) ∧ E 39 = .bool v39_2 ∧ I64 v12_3 ∧ Cx (fun _ => False) O0 w wv [.ro (.sl (.int .i64)) [.slice (some ad61) letters_1.length cletters_1] letters_1, .own 22 (.sl (.int .i64)) (.slice Al7_1 l7_1.length cl7_1) l7_1, .own 22 (.sl (.int .i64)) (.slice A75 (((List.replicate strands_0.toNat ([] : List Int))).length) c76) qf80_3] ∧ ((get letters_1 v9_1).bind fun x115 => cond (decide (0 < x115)) ((chk (v10_2 - 1)).bind fun z123 => (chk (v10_2 + 1)).bind fun z125 => (chk (0 - v10_2)).bind fun z127 => (get qf80_3 z123).bind fun x135 => (get (qf80_3.set z123.toNat ([v10_2, z125, z127] : List Int)) v10_2).bind fun x149 => F.ref34_Action_j4 n strands_0 most_2 l7_1 v9_1 (decide (0 < x115)) ((qf80_3.set z123.toNat ([v10_2, z125, z127] : List Int)).set v10_2.toNat ([v10_2] : List Int))) ((chk (v10_2 - 1)).bind fun z157 => (chk (v10_2 + 1)).bind fun z159 => (get qf80_3 z157).bind fun x167 => (chk (v10_2 + 1)).bind fun z175 => (chk (0 - z175)).bind fun z177 => (chk (v10_2 + 1)).bind fun z179 => (get (qf80_3.set z157.toNat ([z159] : List Int)) v10_2).bind fun x187 => F.ref34_Action_j4 n strands_0 most_2 l7_1 v9_1 (decide (0 < x115)) ((qf80_3.set z157.toNat ([z159] : List Int)).set v10_2.toNat ([z177, v10_2, z179] : List Int)))) = some o53) (fun K84 hK84 => ?_) ?_
          · refine Wc.block ?_
            refine Wc.loop (fun m E wv => ∃ (v12_3 : Int) (qf80_3 : List (List Int)), E 0 = .int .i64 strands_0 ∧ E 1 = .slice (some ad61) letters_1.length cletters_1 ∧ E 2 = .int .i64 most_2 ∧ E 6 = .slice none 0 0 ∧ E 7 = .slice Al7_1 l7_1.length cl7_1 ∧ E 9 = .int .i64 v9_1 ∧ E 10 = .int .i64 v10_2 ∧ E 11 = .slice A75 (((List.replicate strands_0.toNat ([] : List Int))).length) c76 ∧ E 12 = .int .i64 v12_3 ∧ E 31 = .bool (decide (0 ≤ v9_1)) ∧ E 39 = .bool v39_2 ∧ I64 v12_3 ∧ Cx (fun _ => False) O0 w wv [.ro (.sl (.int .i64)) [.slice (some ad61) letters_1.length cletters_1] letters_1, .own 22 (.sl (.int .i64)) (.slice Al7_1 l7_1.length cl7_1) l7_1, .own 22 (.sl (.int .i64)) (.slice A75 (((List.replicate strands_0.toNat ([] : List Int))).length) c76) qf80_3] ∧ loopN m (F.ref34_Action_b3 n strands_0) (v12_3, qf80_3) = some o83) n ⟨0, (List.replicate strands_0.toNat ([] : List Int)), e0, e1, e2, e6, e7, e9, e10, rfl, rfl, e31, e39, (show I64 0 from by unfold I64; omega), hC.sel [1, 2, 0] (by decide), hl3⟩ ?_
            have hbK3 := hb
            clear hb hC hl3
            rintro m86 E88 w87 ⟨v12_3, qf80_3, e0, e1, e2, e6, e7, e9, e10, e11, e12, e31, e39, hrv12_3, hC, hl3⟩ K85 hK85
            obtain ⟨m86', o89, rfl, hb, hl3⟩ := loopN_some hl3
            unfold F.ref34_Action_b3 at hb
            refine Wc.seq fun K90 hK90 => ?_
            refine Wc.seq fun K91 hK91 => ?_
            refine Wc.region (by decide +kernel) ?_
            refine lex.pure (v := .int .i64 v12_3) (pu_move e12) ?_
            refine lex.pure (v := .int .i64 strands_0) (pu_move e0) ?_
            refine lex.pure (v := .bool (decide (v12_3 < strands_0))) (pu_lss (k := .i64) (a := v12_3) (b := strands_0) rfl rfl) ?_
            refine lex.nil ?_
            refine hK91 _ _ ?_
            refine Wc.cond (t := (decide (v12_3 < strands_0))) (rfl) (fun hq92 => ?_) (fun hq92 => ?_)
            · replace hb := (cT hq92).symm.trans hb
              refine Wc.skip ?_
              refine hK90 _ _ ?_
              refine Wc.seq fun K93 hK93 => ?_
              refine Wc.block ?_
              refine Wc.region (by decide +kernel) ?_
              refine lex.pure (v := .slice A75 (((List.replicate strands_0.toNat ([] : List Int))).length) c76) (pu_move e11) ?_
              refine lex.pure (v := .int .i64 v12_3) (pu_move e12) ?_
              refine lex.pure (v := .int .i64 v12_3) (pu_move e12) ?_
              obtain ⟨z94, h95, hb⟩ := bd hb
              refine lex.pure (v := .int .i64 z94) (pu_addc (a := v12_3) (b := 1) rfl rfl h95) ?_
              refine lex.op (hC.lit (s := (.int .i64)) (vs := [.int .i64 z94]) (xs := [z94]) Try.underlying22 Try.type3 rfl rfl (Nat.le_of_ble_eq_true rfl) rfl rfl (by simp [Value.cells, Sh.n]) rfl (show Elems _ _ (.int .i64) ([.int .i64 z94] ++ ([])) ([z94] : List Int) from Elems.cons (⟨rfl, I64.wr (chk_rng h95)⟩) (Elems.nil _ _ _))) ?_
              rintro _ w100 ⟨A96, c97, rfl, hl98, hc99, hC, hF, hN⟩
              clear hF hN
              obtain ⟨x102, h103, hb⟩ := bd hb
              obtain ⟨ad104, cs105, hA, hc106, hr107⟩ := hC.elo (i := 3) rfl (get_some h103).2
              subst hA
              refine lex.pure (v := .pointer (some (ad104.add (v12_3.toNat * 1)))) (pu_index (a := v12_3) Try.underlying35 Try.sizeOf22 rfl rfl (by rw [(hC.ow (i := 3) rfl).sl_len.1]; exact (get_some h103).1)) ?_
              replace hC := hC.freeze (i := 0) rfl (hC.own_new (i := 0) rfl)
              refine lex.sk (hC.put (i := 3) rfl rfl Try.sizeOf22 (k := v12_3.toNat) (a := ([z94] : List Int)) (by have := (get_some h103).1; simp at this ⊢; omega) (hC.rd (i := 0) rfl) rfl rfl rfl) ?_
              rintro w108 ⟨hC, hF⟩
              refine lex.nil ?_
              refine hK93 _ _ ?_
              refine Wc.region (by decide +kernel) ?_
              refine lex.pure (v := .int .i64 v12_3) (pu_move e12) ?_
              obtain ⟨z109, h110, hb⟩ := bd hb
              refine lex.pure (v := .int .i64 z109) (pu_addc (a := v12_3) (b := 1) rfl rfl h110) ?_
              refine lex.pure (v := .int .i64 z109) (pu_assign rfl) ?_
              refine lex.nil ?_
              obtain rfl := Option.some.inj hb
              exact hK85 m86' _ _ (Nat.lt_succ_self _) ⟨z109, (qf80_3.set v12_3.toNat ([z94] : List Int)), e0, e1, e2, e6, e7, e9, e10, e11, rfl, e31, e39, (chk_rng h110), hC.sel [1, 2, 3] (by decide), lN hl3⟩
            · replace hb := (cF hq92).symm.trans hb
              refine Wc.exit rfl ?_
              obtain rfl := Option.some.inj hb
              obtain rfl := (lX hl3).symm
              exact hK84 _ _ ⟨v12_3, qf80_3, e0, e1, e2, e6, e7, e9, e10, e11, e12, e31, e39, hrv12_3, hC.sel [0, 1, 2] (by decide), hbK3⟩
          · clear hb hC hl3
            rintro E112 w111 ⟨v12_3, qf80_3, e0, e1, e2, e6, e7, e9, e10, e11, e12, e31, e39, hrv12_3, hC, hb⟩
            refine hK81 _ _ ?_
            refine Wc.seqJ (fun E wv => ∃ (v59_4 : Bool) (qf80_4 : List (List Int)), E 0 = .int .i64 strands_0 ∧ E 1 = .slice (some ad61) letters_1.length cletters_1 ∧ E 2 = .int .i64 most_2 ∧ E 6 = .slice none 0 0 ∧ E 7 = .slice Al7_1 l7_1.length cl7_1 ∧ E 9 = .int .i64 v9_1 ∧ E 10 = .int .i64 v10_2 ∧ E 11 = .slice A75 (((List.replicate strands_0.toNat ([] : List Int))).length) c76 ∧ E 12 = .int .i64 v12_3 ∧ E 31 = .bool (decide (0 ≤ v9_1)) ∧ E 39 = .bool v39_2 ∧ E 59 = .bool v59_4 ∧ Cx (fun _ => False) O0 w wv [.ro (.sl (.int .i64)) [.slice (some ad61) letters_1.length cletters_1] letters_1, .own 22 (.sl (.int .i64)) (.slice Al7_1 l7_1.length cl7_1) l7_1, .own 22 (.sl (.int .i64)) (.slice A75 (((List.replicate strands_0.toNat ([] : List Int))).length) c76) qf80_4] ∧ F.ref34_Action_j4 n strands_0 most_2 l7_1 v9_1 v59_4 qf80_4 = some o53) (fun K113 hK113 => ?_) ?_
            ·
              skip
              refine Wc.seq fun K114 hK114 => ?_
              refine Wc.region (by decide +kernel) ?_
              refine lex.pure (v := .slice (some ad61) letters_1.length cletters_1) (pu_move e1) ?_
              refine lex.pure (v := .int .i64 v9_1) (pu_move e9) ?_
              obtain ⟨x115, h116, hb⟩ := bd hb
              obtain ⟨ad117, cs118, hA, hc119, hr120⟩ := hC.elr (i := 0) rfl (get_some h116).2
              obtain rfl := Option.some.inj hA
              refine lex.pure (v := .pointer (some (ad61.add (v9_1.toNat * 1)))) (pu_index (a := v9_1) Try.underlying22 Try.sizeOf3 rfl rfl (get_some h116).1) ?_
              obtain ⟨rfl, hr120'⟩ := hr120
              refine lex.val (v := .int .i64 x115) (ld_one Try.isAgg3 rfl (hc119 0 _ rfl)) ?_
              refine lex.pure (v := .bool (decide (0 < x115))) (pu_gtr (k := .i64) (a := x115) (b := 0) rfl rfl) ?_
              refine lex.nil ?_
              refine hK114 _ _ ?_
              refine Wc.cond (t := (decide (0 < x115))) (rfl) (fun hq121 => ?_) (fun hq121 => ?_)
              · replace hb := (cT hq121).symm.trans hb
                refine Wc.seq fun K122 hK122 => ?_
                refine Wc.region (by decide +kernel) ?_
                refine lex.pure (v := .slice A75 (((List.replicate strands_0.toNat ([] : List Int))).length) c76) (pu_move e11) ?_
                refine lex.pure (v := .int .i64 v10_2) (pu_move e10) ?_
                obtain ⟨z123, h124, hb⟩ := bd hb
                refine lex.pure (v := .int .i64 z123) (pu_subc (a := v10_2) (b := 1) rfl rfl h124) ?_
                refine lex.pure (v := .int .i64 v10_2) (pu_move e10) ?_
                refine lex.pure (v := .int .i64 v10_2) (pu_move e10) ?_
                obtain ⟨z125, h126, hb⟩ := bd hb
                refine lex.pure (v := .int .i64 z125) (pu_addc (a := v10_2) (b := 1) rfl rfl h126) ?_
                refine lex.pure (v := .int .i64 v10_2) (pu_move e10) ?_
                obtain ⟨z127, h128, hb⟩ := bd hb
                refine lex.pure (v := .int .i64 z127) (pu_subc (a := 0) (b := v10_2) rfl rfl h128) ?_
                refine lex.op (hC.lit (s := (.int .i64)) (vs := [.int .i64 v10_2, .int .i64 z125, .int .i64 z127]) (xs := [v10_2, z125, z127]) Try.underlying22 Try.type3 rfl rfl (Nat.le_of_ble_eq_true rfl) rfl rfl (by simp [Value.cells, Sh.n]) rfl (show Elems _ _ (.int .i64) ([.int .i64 v10_2] ++ ([.int .i64 z125] ++ ([.int .i64 z127] ++ ([])))) ([v10_2, z125, z127] : List Int) from Elems.cons (⟨rfl, I64.wr hrv10_2⟩) (Elems.cons (⟨rfl, I64.wr (chk_rng h126)⟩) (Elems.cons (⟨rfl, I64.wr (chk_rng h128)⟩) (Elems.nil _ _ _))))) ?_
                rintro _ w133 ⟨A129, c130, rfl, hl131, hc132, hC, hF, hN⟩
                clear hF hN
                obtain ⟨x135, h136, hb⟩ := bd hb
                obtain ⟨ad137, cs138, hA, hc139, hr140⟩ := hC.elo (i := 3) rfl (get_some h136).2
                subst hA
                refine lex.pure (v := .pointer (some (ad137.add (z123.toNat * 1)))) (pu_index (a := z123) Try.underlying35 Try.sizeOf22 rfl rfl (by rw [(hC.ow (i := 3) rfl).sl_len.1]; exact (get_some h136).1)) ?_
                replace hC := hC.freeze (i := 0) rfl (hC.own_new (i := 0) rfl)
                refine lex.sk (hC.put (i := 3) rfl rfl Try.sizeOf22 (k := z123.toNat) (a := ([v10_2, z125, z127] : List Int)) (by have := (get_some h136).1; simp at this ⊢; omega) (hC.rd (i := 0) rfl) rfl rfl rfl) ?_
                rintro w141 ⟨hC, hF⟩
                refine lex.nil ?_
                refine hK122 _ _ ?_
                refine Wc.fresh fun E142 hE => ?_
                have e0 : E142 0 = .int .i64 strands_0 := (congrFun hE 0).trans e0
                have e1 : E142 1 = .slice (some ad61) letters_1.length cletters_1 := (congrFun hE 1).trans e1
                have e2 : E142 2 = .int .i64 most_2 := (congrFun hE 2).trans e2
                have e6 : E142 6 = .slice none 0 0 := (congrFun hE 6).trans e6
                have e7 : E142 7 = .slice Al7_1 l7_1.length cl7_1 := (congrFun hE 7).trans e7
                have e9 : E142 9 = .int .i64 v9_1 := (congrFun hE 9).trans e9
                have e10 : E142 10 = .int .i64 v10_2 := (congrFun hE 10).trans e10
                have e11 : E142 11 = .slice (some ad137) (((List.replicate strands_0.toNat ([] : List Int))).length) c76 := (congrFun hE 11).trans e11
                have e12 : E142 12 = .int .i64 v12_3 := (congrFun hE 12).trans e12
                have e31 : E142 31 = .bool (decide (0 ≤ v9_1)) := (congrFun hE 31).trans e31
                have e39 : E142 39 = .bool v39_2 := (congrFun hE 39).trans e39
                have e59 : E142 59 = .bool (decide (0 < x115)) := (congrFun hE 59).trans rfl
                clear hE
                refine Wc.region (by decide +kernel) ?_
                refine lex.pure (v := .slice (some ad137) (((List.replicate strands_0.toNat ([] : List Int))).length) c76) (pu_move e11) ?_
                refine lex.pure (v := .int .i64 v10_2) (pu_move e10) ?_
                refine lex.pure (v := .int .i64 v10_2) (pu_move e10) ?_
                refine lex.op (hC.lit (s := (.int .i64)) (vs := [.int .i64 v10_2]) (xs := [v10_2]) Try.underlying22 Try.type3 rfl rfl (Nat.le_of_ble_eq_true rfl) rfl rfl (by simp [Value.cells, Sh.n]) rfl (show Elems _ _ (.int .i64) ([.int .i64 v10_2] ++ ([])) ([v10_2] : List Int) from Elems.cons (⟨rfl, I64.wr hrv10_2⟩) (Elems.nil _ _ _))) ?_
                rintro _ w147 ⟨A143, c144, rfl, hl145, hc146, hC, hF, hN⟩
                clear hF hN
                obtain ⟨x149, h150, hb⟩ := bd hb
                obtain ⟨ad151, cs152, hA, hc153, hr154⟩ := hC.elo (i := 4) rfl (get_some h150).2
                obtain rfl := Option.some.inj hA
                refine lex.pure (v := .pointer (some (ad137.add (v10_2.toNat * 1)))) (pu_index (a := v10_2) Try.underlying35 Try.sizeOf22 rfl rfl (by rw [(hC.ow (i := 4) rfl).sl_len.1]; exact (get_some h150).1)) ?_
                replace hC := hC.freeze (i := 0) rfl (hC.own_new (i := 0) rfl)
                refine lex.sk (hC.put (i := 4) rfl rfl Try.sizeOf22 (k := v10_2.toNat) (a := ([v10_2] : List Int)) (by have := (get_some h150).1; simp at this ⊢; omega) (hC.rd (i := 0) rfl) rfl rfl rfl) ?_
                rintro w155 ⟨hC, hF⟩
                refine lex.nil ?_
                exact hK113 _ _ ⟨(decide (0 < x115)), ((qf80_3.set z123.toNat ([v10_2, z125, z127] : List Int)).set v10_2.toNat ([v10_2] : List Int)), e0, e1, e2, e6, e7, e9, e10, e11, e12, e31, e39, e59, hC.sel [2, 3, 4] (by decide), hb⟩
              · replace hb := (cF hq121).symm.trans hb
                refine Wc.seq fun K156 hK156 => ?_
                refine Wc.region (by decide +kernel) ?_
                refine lex.pure (v := .slice A75 (((List.replicate strands_0.toNat ([] : List Int))).length) c76) (pu_move e11) ?_
                refine lex.pure (v := .int .i64 v10_2) (pu_move e10) ?_
                obtain ⟨z157, h158, hb⟩ := bd hb
                refine lex.pure (v := .int .i64 z157) (pu_subc (a := v10_2) (b := 1) rfl rfl h158) ?_
                refine lex.pure (v := .int .i64 v10_2) (pu_move e10) ?_
                obtain ⟨z159, h160, hb⟩ := bd hb
                refine lex.pure (v := .int .i64 z159) (pu_addc (a := v10_2) (b := 1) rfl rfl h160) ?_
                refine lex.op (hC.lit (s := (.int .i64)) (vs := [.int .i64 z159]) (xs := [z159]) Try.underlying22 Try.type3 rfl rfl (Nat.le_of_ble_eq_true rfl) rfl rfl (by simp [Value.cells, Sh.n]) rfl (show Elems _ _ (.int .i64) ([.int .i64 z159] ++ ([])) ([z159] : List Int) from Elems.cons (⟨rfl, I64.wr (chk_rng h160)⟩) (Elems.nil _ _ _))) ?_
                rintro _ w165 ⟨A161, c162, rfl, hl163, hc164, hC, hF, hN⟩
                clear hF hN
                obtain ⟨x167, h168, hb⟩ := bd hb
                obtain ⟨ad169, cs170, hA, hc171, hr172⟩ := hC.elo (i := 3) rfl (get_some h168).2
                subst hA
                refine lex.pure (v := .pointer (some (ad169.add (z157.toNat * 1)))) (pu_index (a := z157) Try.underlying35 Try.sizeOf22 rfl rfl (by rw [(hC.ow (i := 3) rfl).sl_len.1]; exact (get_some h168).1)) ?_
                replace hC := hC.freeze (i := 0) rfl (hC.own_new (i := 0) rfl)
                refine lex.sk (hC.put (i := 3) rfl rfl Try.sizeOf22 (k := z157.toNat) (a := ([z159] : List Int)) (by have := (get_some h168).1; simp at this ⊢; omega) (hC.rd (i := 0) rfl) rfl rfl rfl) ?_
                rintro w173 ⟨hC, hF⟩
                refine lex.nil ?_
                refine hK156 _ _ ?_
                refine Wc.fresh fun E174 hE => ?_
                have e0 : E174 0 = .int .i64 strands_0 := (congrFun hE 0).trans e0
                have e1 : E174 1 = .slice (some ad61) letters_1.length cletters_1 := (congrFun hE 1).trans e1
                have e2 : E174 2 = .int .i64 most_2 := (congrFun hE 2).trans e2
                have e6 : E174 6 = .slice none 0 0 := (congrFun hE 6).trans e6
                have e7 : E174 7 = .slice Al7_1 l7_1.length cl7_1 := (congrFun hE 7).trans e7
                have e9 : E174 9 = .int .i64 v9_1 := (congrFun hE 9).trans e9
                have e10 : E174 10 = .int .i64 v10_2 := (congrFun hE 10).trans e10
                have e11 : E174 11 = .slice (some ad169) (((List.replicate strands_0.toNat ([] : List Int))).length) c76 := (congrFun hE 11).trans e11
                have e12 : E174 12 = .int .i64 v12_3 := (congrFun hE 12).trans e12
                have e31 : E174 31 = .bool (decide (0 ≤ v9_1)) := (congrFun hE 31).trans e31
                have e39 : E174 39 = .bool v39_2 := (congrFun hE 39).trans e39
                have e59 : E174 59 = .bool (decide (0 < x115)) := (congrFun hE 59).trans rfl
                clear hE
                refine Wc.region (by decide +kernel) ?_
                refine lex.pure (v := .slice (some ad169) (((List.replicate strands_0.toNat ([] : List Int))).length) c76) (pu_move e11) ?_
                refine lex.pure (v := .int .i64 v10_2) (pu_move e10) ?_
                refine lex.pure (v := .int .i64 v10_2) (pu_move e10) ?_
                obtain ⟨z175, h176, hb⟩ := bd hb
                refine lex.pure (v := .int .i64 z175) (pu_addc (a := v10_2) (b := 1) rfl rfl h176) ?_
                obtain ⟨z177, h178, hb⟩ := bd hb
                refine lex.pure (v := .int .i64 z177) (pu_subc (a := 0) (b := z175) rfl rfl h178) ?_
                refine lex.pure (v := .int .i64 v10_2) (pu_move e10) ?_
                refine lex.pure (v := .int .i64 v10_2) (pu_move e10) ?_
                obtain ⟨z179, h180, hb⟩ := bd hb
                refine lex.pure (v := .int .i64 z179) (pu_addc (a := v10_2) (b := 1) rfl rfl h180) ?_
                refine lex.op (hC.lit (s := (.int .i64)) (vs := [.int .i64 z177, .int .i64 v10_2, .int .i64 z179]) (xs := [z177, v10_2, z179]) Try.underlying22 Try.type3 rfl rfl (Nat.le_of_ble_eq_true rfl) rfl rfl (by simp [Value.cells, Sh.n]) rfl (show Elems _ _ (.int .i64) ([.int .i64 z177] ++ ([.int .i64 v10_2] ++ ([.int .i64 z179] ++ ([])))) ([z177, v10_2, z179] : List Int) from Elems.cons (⟨rfl, I64.wr (chk_rng h178)⟩) (Elems.cons (⟨rfl, I64.wr hrv10_2⟩) (Elems.cons (⟨rfl, I64.wr (chk_rng h180)⟩) (Elems.nil _ _ _))))) ?_
                rintro _ w185 ⟨A181, c182, rfl, hl183, hc184, hC, hF, hN⟩
                clear hF hN
                obtain ⟨x187, h188, hb⟩ := bd hb
                obtain ⟨ad189, cs190, hA, hc191, hr192⟩ := hC.elo (i := 4) rfl (get_some h188).2
                obtain rfl := Option.some.inj hA
                refine lex.pure (v := .pointer (some (ad169.add (v10_2.toNat * 1)))) (pu_index (a := v10_2) Try.underlying35 Try.sizeOf22 rfl rfl (by rw [(hC.ow (i := 4) rfl).sl_len.1]; exact (get_some h188).1)) ?_
                replace hC := hC.freeze (i := 0) rfl (hC.own_new (i := 0) rfl)
                refine lex.sk (hC.put (i := 4) rfl rfl Try.sizeOf22 (k := v10_2.toNat) (a := ([z177, v10_2, z179] : List Int)) (by have := (get_some h188).1; simp at this ⊢; omega) (hC.rd (i := 0) rfl) rfl rfl rfl) ?_
                rintro w193 ⟨hC, hF⟩
                refine lex.nil ?_
                exact hK113 _ _ ⟨(decide (0 < x115)), ((qf80_3.set z157.toNat ([z159] : List Int)).set v10_2.toNat ([z177, v10_2, z179] : List Int)), e0, e1, e2, e6, e7, e9, e10, e11, e12, e31, e39, e59, hC.sel [2, 3, 4] (by decide), hb⟩
            · clear hb hC
              rintro E195 w194 ⟨v59_4, qf80_4, e0, e1, e2, e6, e7, e9, e10, e11, e12, e31, e39, e59, hC, hb⟩
              unfold F.ref34_Action_j4 at hb
              refine Wc.seq fun K196 hK196 => ?_
              refine Wc.region (by decide +kernel) ?_
              refine lex.pure (v := .slice none 0 0) (pu_assign rfl) ?_
              refine lex.nil ?_
              refine hK196 _ _ ?_
              refine Wc.seq fun K197 hK197 => ?_
              refine Wc.seq fun K198 hK198 => ?_
              refine Wc.region (by decide +kernel) ?_
              refine lex.pure (v := .int .i64 0) (pu_assign rfl) ?_
              refine lex.nil ?_
              refine hK198 _ _ ?_
              replace hC := hC.nil 22 (.sl (.int .i64))
              obtain ⟨o200, hl5, hb⟩ := bd hb
              refine Wc.cut (fun E wv => ∃ (l13_5 : List (List Int)) (v14_5 : Int) (Al13_5 : Option Addr) (ml13_5 cl13_5 : Nat), E 0 = .int .i64 strands_0 ∧ E 1 = .slice (some ad61) letters_1.length cletters_1 ∧ E 2 = .int .i64 most_2 ∧ E 6 = .slice none 0 0 ∧ E 7 = .slice Al7_1 l7_1.length cl7_1 ∧ E 9 = .int .i64 v9_1 ∧ E 10 = .int .i64 v10_2 ∧ E 11 = .slice A75 (((List.replicate strands_0.toNat ([] : List Int))).length) c76 ∧ E 12 = .int .i64 v12_3 ∧ E 13 = .slice Al13_5 ml13_5 cl13_5 ∧ E 14 = .int .i64 v14_5 ∧ E 31 = .bool (decide (0 ≤ v9_1)) ∧ E 39 = .bool v39_2 ∧ E 59 = .bool v59_4 ∧ I64 v14_5 ∧ Cx (fun _ => False) O0 w wv [.ro (.sl (.int .i64)) [.slice (some ad61) letters_1.length cletters_1] letters_1, .own 22 (.sl (.int .i64)) (.slice Al7_1 l7_1.length cl7_1) l7_1, .own 22 (.sl (.int .i64)) (.slice A75 (((List.replicate strands_0.toNat ([] : List Int))).length) c76) qf80_4, .own 22 (.sl (.int .i64)) (.slice Al13_5 ml13_5 cl13_5) l13_5] ∧ ((chk (v9_1 - 1)).bind fun z255 => some (.inl (l13_5, z255))) = some o53) (fun K201 hK201 => ?_) ?_
              · refine Wc.block ?_
                refine Wc.loop (fun m E wv => ∃ (l13_5 : List (List Int)) (v14_5 : Int) (Al13_5 : Option Addr) (ml13_5 cl13_5 : Nat), E 0 = .int .i64 strands_0 ∧ E 1 = .slice (some ad61) letters_1.length cletters_1 ∧ E 2 = .int .i64 most_2 ∧ E 6 = .slice none 0 0 ∧ E 7 = .slice Al7_1 l7_1.length cl7_1 ∧ E 9 = .int .i64 v9_1 ∧ E 10 = .int .i64 v10_2 ∧ E 11 = .slice A75 (((List.replicate strands_0.toNat ([] : List Int))).length) c76 ∧ E 12 = .int .i64 v12_3 ∧ E 13 = .slice Al13_5 ml13_5 cl13_5 ∧ E 14 = .int .i64 v14_5 ∧ E 31 = .bool (decide (0 ≤ v9_1)) ∧ E 39 = .bool v39_2 ∧ E 59 = .bool v59_4 ∧ I64 v14_5 ∧ Cx (fun _ => False) O0 w wv [.ro (.sl (.int .i64)) [.slice (some ad61) letters_1.length cletters_1] letters_1, .own 22 (.sl (.int .i64)) (.slice Al7_1 l7_1.length cl7_1) l7_1, .own 22 (.sl (.int .i64)) (.slice A75 (((List.replicate strands_0.toNat ([] : List Int))).length) c76) qf80_4, .own 22 (.sl (.int .i64)) (.slice Al13_5 ml13_5 cl13_5) l13_5] ∧ loopN m (F.ref34_Action_b5 n strands_0 most_2 l7_1 qf80_4) (l13_5, v14_5) = some o200) n ⟨([] : List (List Int)), 0, none, 0, 0, e0, e1, e2, e6, e7, e9, e10, e11, e12, rfl, rfl, e31, e39, e59, (show I64 0 from by unfold I64; omega), hC.sel [1, 2, 3, 0] (by decide), hl5⟩ ?_
                have hbK5 := hb
                clear hb hC hl5
                rintro m203 E205 w204 ⟨l13_5, v14_5, Al13_5, ml13_5, cl13_5, e0, e1, e2, e6, e7, e9, e10, e11, e12, e13, e14, e31, e39, e59, hrv14_5, hC, hl5⟩ K202 hK202
                obtain ⟨m203', o206, rfl, hb, hl5⟩ := loopN_some hl5
                unfold F.ref34_Action_b5 at hb
                obtain ⟨rfl, hll13_5, hcl13_5⟩ := (hC.ow (i := 3) rfl).sl_len
                refine Wc.seq fun K207 hK207 => ?_
                refine Wc.seq fun K208 hK208 => ?_
                refine Wc.region (by decide +kernel) ?_
                refine lex.pure (v := .int .i64 v14_5) (pu_move e14) ?_
                refine lex.pure (v := .int .i64 strands_0) (pu_move e0) ?_
                refine lex.pure (v := .bool (decide (v14_5 < strands_0))) (pu_lss (k := .i64) (a := v14_5) (b := strands_0) rfl rfl) ?_
                refine lex.nil ?_
                refine hK208 _ _ ?_
                refine Wc.cond (t := (decide (v14_5 < strands_0))) (rfl) (fun hq209 => ?_) (fun hq209 => ?_)
                · replace hb := (cT hq209).symm.trans hb
                  refine Wc.skip ?_
                  refine hK207 _ _ ?_
                  refine Wc.seq fun K210 hK210 => ?_
                  refine Wc.block ?_
                  refine Wc.seq fun K211 hK211 => ?_
                  refine Wc.region (by decide +kernel) ?_
                  refine lex.pure (v := .slice Al7_1 l7_1.length cl7_1) (pu_move e7) ?_
                  refine lex.pure (v := .int .i64 v14_5) (pu_move e14) ?_
                  obtain ⟨x212, h213, hb⟩ := bd hb
                  obtain ⟨ad214, cs215, hA, hc216, hr217⟩ := hC.elo (i := 1) rfl (get_some h213).2
                  subst hA
                  refine lex.pure (v := .pointer (some (ad214.add (v14_5.toNat * 1)))) (pu_index (a := v14_5) Try.underlying35 Try.sizeOf22 rfl rfl (get_some h213).1) ?_
                  have hR := hr217
                  obtain ⟨A218, c219, rfl, hl220, hc221, _⟩ := hr217
                  replace hC := hC.ro hR
                  clear hR
                  refine lex.val (v := .slice A218 x212.length c219) (ld_one Try.isAgg22 rfl (hc216 0 _ rfl)) ?_
                  refine lex.pure (v := .slice A75 (((List.replicate strands_0.toNat ([] : List Int))).length) c76) (pu_move e11) ?_
                  obtain ⟨y223, h224, hb⟩ := bd hb
                  refine lex.cl (⟨_, _, op_call (vs := [.slice A218 x212.length c219, .slice A75 (((List.replicate strands_0.toNat ([] : List Int))).length) c76]) Try.call48 rfl rfl rfl, ref21_Substitute_ok n (hC.lentLt [.slice A75 (((List.replicate strands_0.toNat ([] : List Int))).length) c76]) ((hC.rd (i := 0) rfl).lent [.slice A75 (((List.replicate strands_0.toNat ([] : List Int))).length) c76]) ((hC.ow (i := 3) rfl).lend (vs := [.slice A75 (((List.replicate strands_0.toNat ([] : List Int))).length) c76]) (by simp)) h224⟩) ?_
                  rintro _ w229 ⟨A225, m226, c227, rfl, hK⟩
                  replace hC := hC.mergeF hK rfl
                  clear hK
                  obtain ⟨rfl, hl230, hc231⟩ := (hC.ow (i := 0) rfl).sl_len
                  refine lex.pure (v := .slice A225 y223.length c227) (pu_assign rfl) ?_
                  refine lex.nil ?_
                  refine hK211 _ _ ?_
                  refine Wc.fresh fun E232 hE => ?_
                  have e0 : E232 0 = .int .i64 strands_0 := (congrFun hE 0).trans e0
                  have e1 : E232 1 = .slice (some ad61) letters_1.length cletters_1 := (congrFun hE 1).trans e1
                  have e2 : E232 2 = .int .i64 most_2 := (congrFun hE 2).trans e2
                  have e6 : E232 6 = .slice none 0 0 := (congrFun hE 6).trans e6
                  have e7 : E232 7 = .slice (some ad214) l7_1.length cl7_1 := (congrFun hE 7).trans e7
                  have e9 : E232 9 = .int .i64 v9_1 := (congrFun hE 9).trans e9
                  have e10 : E232 10 = .int .i64 v10_2 := (congrFun hE 10).trans e10
                  have e11 : E232 11 = .slice A75 (((List.replicate strands_0.toNat ([] : List Int))).length) c76 := (congrFun hE 11).trans e11
                  have e12 : E232 12 = .int .i64 v12_3 := (congrFun hE 12).trans e12
                  have e13 : E232 13 = .slice Al13_5 l13_5.length cl13_5 := (congrFun hE 13).trans e13
                  have e14 : E232 14 = .int .i64 v14_5 := (congrFun hE 14).trans e14
                  have e15 : E232 15 = .slice A225 y223.length c227 := (congrFun hE 15).trans rfl
                  have e31 : E232 31 = .bool (decide (0 ≤ v9_1)) := (congrFun hE 31).trans e31
                  have e39 : E232 39 = .bool v39_2 := (congrFun hE 39).trans e39
                  have e59 : E232 59 = .bool v59_4 := (congrFun hE 59).trans e59
                  have e94 : E232 94 = .bool (decide (v14_5 < strands_0)) := (congrFun hE 94).trans rfl
                  clear hE
                  refine Wc.seq fun K233 hK233 => ?_
                  refine Wc.seq fun K234 hK234 => ?_
                  refine Wc.region (by decide +kernel) ?_
                  refine lex.pure (v := .slice A225 y223.length c227) (pu_move e15) ?_
                  refine lex.pure (v := .int .i64 (y223.length : Int)) (pu_len (A := A225) (n := y223.length) (m := c227) Try.underlying22 rfl) ?_
                  refine lex.pure (v := .int .i64 most_2) (pu_move e2) ?_
                  refine lex.pure (v := .bool (decide (most_2 < (y223.length : Int)))) (pu_gtr (k := .i64) (a := (y223.length : Int)) (b := most_2) rfl rfl) ?_
                  refine lex.nil ?_
                  refine hK234 _ _ ?_
                  refine Wc.cond (t := (decide (most_2 < (y223.length : Int)))) (rfl) (fun hq235 => ?_) (fun hq235 => ?_)
                  · replace hb := (cT hq235).symm.trans hb
                    refine Wc.seq fun K236 hK236 => ?_
                    refine Wc.region (by decide +kernel) ?_
                    refine lex.pure (v := .slice none 0 0) (pu_assign rfl) ?_
                    refine lex.nil ?_
                    refine hK236 _ _ ?_
                    obtain rfl := Option.some.inj hb
                    obtain rfl := (lX hl5).symm
                    replace hb := hbK5
                    obtain rfl := Option.some.inj hb
                    obtain rfl := (lX hl1).symm
                    replace hb := hbK1
                    replace hC := hC.nil 22 (.sl (.int .i64))
                    obtain rfl := Option.some.inj hb
                    refine Wc.ret ?_
                    refine hKR _ _ ?_
                    refine ⟨_, res1 Try.results18 (show RV _ _ _ (.tmp _) (.slice none 0 0) from rfl), _, rfl, none, 0, 0, rfl, hC.sel [0] (by decide)⟩
                  · replace hb := (cF hq235).symm.trans hb
                    refine Wc.skip ?_
                    refine hK233 _ _ ?_
                    refine Wc.region (by decide +kernel) ?_
                    refine lex.pure (v := .slice Al13_5 l13_5.length cl13_5) (pu_move e13) ?_
                    refine lex.pure (v := .slice A225 y223.length c227) (pu_move e15) ?_
                    replace hC := hC.freeze (i := 0) rfl (hC.own_new (i := 0) rfl)
                    refine lex.op (hC.lit (s := (.sl (.int .i64))) (vs := [.slice A225 y223.length c227]) (xs := [y223]) Try.underlying35 Try.type22 rfl rfl (Nat.le_of_ble_eq_true rfl) rfl rfl (by simp [Value.cells, Sh.n]) rfl (show Elems _ _ (.sl (.int .i64)) ([.slice A225 y223.length c227] ++ ([])) ([y223] : List (List Int)) from Elems.cons (hC.rd (i := 0) rfl) (Elems.nil _ _ _))) ?_
                    rintro _ w242 ⟨A238, c239, rfl, hl240, hc241, hC, hF, hN⟩
                    clear hF hN
                    obtain ⟨u244, h245, hb⟩ := bd hb
                    refine lex.op (hC.app (i := 6) (s := (.sl (.int .i64))) (xs := l13_5) (ys := ([y223] : List (List Int))) (m := ((([y223] : List (List Int))).length)) rfl Try.underlying35 Try.underlying35 Try.type22 rfl rfl rfl (hC.srco (i := 0) rfl) rfl rfl (by have := lim_some h245; simp at this ⊢ <;> omega) (by decide)) ?_
                    rintro _ w250 ⟨A246, c247, rfl, hl248, hc249, hC, hF, hN⟩
                    clear hF hN
                    refine lex.pure (v := .slice A246 ((l13_5 ++ ([y223] : List (List Int))).length) c247) (pu_assign rfl) ?_
                    refine lex.nil ?_
                    refine hK210 _ _ ?_
                    refine Wc.region (by decide +kernel) ?_
                    refine lex.pure (v := .int .i64 v14_5) (pu_move e14) ?_
                    obtain ⟨z251, h252, hb⟩ := bd hb
                    refine lex.pure (v := .int .i64 z251) (pu_addc (a := v14_5) (b := 1) rfl rfl h252) ?_
                    refine lex.pure (v := .int .i64 z251) (pu_assign rfl) ?_
                    refine lex.nil ?_
                    obtain rfl := Option.some.inj hb
                    exact hK202 m203' _ _ (Nat.lt_succ_self _) ⟨(l13_5 ++ ([y223] : List (List Int))), z251, A246, (l13_5 ++ ([y223] : List (List Int))).length, c247, e0, e1, e2, e6, e7, e9, e10, e11, e12, rfl, rfl, e31, e39, e59, (chk_rng h252), hC.sel [3, 4, 5, 6] (by decide), lN hl5⟩
                · replace hb := (cF hq209).symm.trans hb
                  refine Wc.exit rfl ?_
                  obtain rfl := Option.some.inj hb
                  obtain rfl := (lX hl5).symm
                  exact hK201 _ _ ⟨l13_5, v14_5, Al13_5, l13_5.length, cl13_5, e0, e1, e2, e6, e7, e9, e10, e11, e12, e13, e14, e31, e39, e59, hrv14_5, hC.sel [0, 1, 2, 3] (by decide), hbK5⟩
              · clear hb hC hl5
                rintro E254 w253 ⟨l13_5, v14_5, Al13_5, ml13_5, cl13_5, e0, e1, e2, e6, e7, e9, e10, e11, e12, e13, e14, e31, e39, e59, hrv14_5, hC, hb⟩
                obtain ⟨rfl, hll13_5, hcl13_5⟩ := (hC.ow (i := 3) rfl).sl_len
                refine hK197 _ _ ?_
                refine Wc.region (by decide +kernel) ?_
                refine lex.pure (v := .slice Al13_5 l13_5.length cl13_5) (pu_move e13) ?_
                refine lex.pure (v := .slice Al13_5 l13_5.length cl13_5) (pu_assign rfl) ?_
                refine lex.nil ?_
                refine hK57 _ _ ?_
                refine Wc.region (by decide +kernel) ?_
                refine lex.pure (v := .int .i64 v9_1) (pu_move e9) ?_
                obtain ⟨z255, h256, hb⟩ := bd hb
                refine lex.pure (v := .int .i64 z255) (pu_subc (a := v9_1) (b := 1) rfl rfl h256) ?_
                refine lex.pure (v := .int .i64 z255) (pu_assign rfl) ?_
                refine lex.nil ?_
                obtain rfl := Option.some.inj hb
                exact hK49 m50' _ _ (Nat.lt_succ_self _) ⟨l13_5, z255, Al13_5, l13_5.length, cl13_5, e0, e1, e2, e6, rfl, rfl, (chk_rng h256), hC.sel [0, 3] (by decide), lN hl1⟩
      · replace hb := (cF hq56).symm.trans hb
        refine Wc.exit rfl ?_
        obtain rfl := Option.some.inj hb
        obtain rfl := (lX hl1).symm
        exact hK48 _ _ ⟨l7_1, v9_1, Al7_1, l7_1.length, cl7_1, e6, e7, hrv9_1, hC.sel [1] (by decide), hbK1⟩
    · clear hb hC hl1
      rintro E258 w257 ⟨l7_1, v9_1, Al7_1, ml7_1, cl7_1, e6, e7, hrv9_1, hC, hb⟩
      obtain ⟨rfl, hll7_1, hcl7_1⟩ := (hC.ow (i := 0) rfl).sl_len
      refine hK43 _ _ ?_
      refine Wc.seq fun K259 hK259 => ?_
      refine Wc.region (by decide +kernel) ?_
      refine lex.pure (v := .slice Al7_1 l7_1.length cl7_1) (pu_move e7) ?_
      refine lex.pure (v := .slice Al7_1 l7_1.length cl7_1) (pu_assign rfl) ?_
      refine lex.nil ?_
      refine hK259 _ _ ?_
      obtain rfl := Option.some.inj hb
      refine Wc.ret ?_
      refine hKR _ _ ?_
      refine ⟨_, res1 Try.results18 (show RV _ _ _ (.tmp _) (.slice Al7_1 l7_1.length cl7_1) from rfl), _, rfl, Al7_1, l7_1.length, cl7_1, rfl, hC.sel [0] (by decide)⟩
end Go.Proofs.Ytkeaonceaaafcaa
