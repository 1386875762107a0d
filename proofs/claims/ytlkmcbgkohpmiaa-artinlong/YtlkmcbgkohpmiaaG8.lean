/- The walks: part 8. -/
import Derived.Test.YtlkmcbgkohpmiaaS
set_option linter.unusedVariables false
set_option linter.unusedSimpArgs false
namespace Go.Proofs.Ytlkmcbgkohpmiaa
open Ev
set_option maxRecDepth 100000 in
set_option maxHeartbeats 4000000 in
theorem ref21_Reduce_ok (n : Nat) {w : World} {O0 : List Nat} (hO : ∀ k ∈ O0, k < w.heap.size) {Awx_0 : Option Addr} {mwx_0 cwx_0 : Nat} {wx_0 : List Int} (hwx_0 : Rep O0 w (.sl (.int .i64)) [.slice Awx_0 mwx_0 cwx_0] wx_0) {r : (List Int)} (hb : F.ref21_Reduce n wx_0 = some r) :
    Calls Try.prog 36 #[.slice Awx_0 mwx_0 cwx_0] w fun e w' => ∃ v, e = .returned v ∧ ∃ (A0 : Option Addr) (m0 c0 : Nat), v = .slice A0 m0 c0 ∧ Cx (fun _ => False) O0 w w' [.own 3 (.int .i64) (.slice A0 m0 c0) r] := by
  unfold F.ref21_Reduce at hb
  have hC := Cx.start hO
  replace hC := hC.arg rfl hwx_0
  clear hO
  obtain ⟨rfl, hlwx_0, hcwx_0⟩ := hwx_0.sl_len
  refine calls_of_Wc Try.func36 rfl (by rw [Try.ntmps36]; exact Nat.le_of_ble_eq_true rfl) fun KR hKR => ?_
  refine Wc.seq fun K2 hK2 => ?_
  refine Wc.region (by decide +kernel) ?_
  refine lex.pure (v := .slice none 0 0) (pu_assign rfl) ?_
  refine lex.nil ?_
  refine hK2 _ _ ?_
  refine Wc.seq fun K3 hK3 => ?_
  refine Wc.region (by decide +kernel) ?_
  refine lex.op (hC.lit (s := (.int .i64)) (vs := []) (xs := []) Try.underlying22 Try.type3 rfl rfl (Nat.le_of_ble_eq_true rfl) rfl rfl (by simp [Value.cells, Sh.n]) rfl (show Elems _ _ (.int .i64) ([]) ([] : List Int) from Elems.nil _ _ _)) ?_
  rintro _ w8 ⟨A4, c5, rfl, hl6, hc7, hC, hF, hN⟩
  clear hF hN
  refine lex.pure (v := .slice Awx_0 wx_0.length cwx_0) (pu_move rfl) ?_
  obtain ⟨u10, h11, hb⟩ := bd hb
  refine lex.op (hC.app (i := 0) (s := (.int .i64)) (xs := ([] : List Int)) (ys := wx_0) (m := wx_0.length) rfl Try.underlying22 Try.underlying22 Try.type3 rfl rfl rfl (hC.srcr (i := 1) rfl) rfl rfl (by have := lim_some h11; simp at this ⊢ <;> omega) (by decide)) ?_
  rintro _ w16 ⟨A12, c13, rfl, hl14, hc15, hC, hF, hN⟩
  clear hF hN
  refine lex.pure (v := .slice A12 ((([] : List Int) ++ wx_0).length) c13) (pu_assign rfl) ?_
  refine lex.nil ?_
  refine hK3 _ _ ?_
  refine Wc.seq fun K17 hK17 => ?_
  refine Wc.region (by decide +kernel) ?_
  refine lex.pure (v := .int .i64 0) (pu_assign rfl) ?_
  refine lex.nil ?_
  refine hK17 _ _ ?_
  refine Wc.seq fun K18 hK18 => ?_
  obtain ⟨o19, hl0, hb⟩ := bd hb
  refine Wc.cut (fun E wv => ∃ (l3_0 : List Int) (v4_0 : Int) (Al3_0 : Option Addr) (ml3_0 cl3_0 : Nat), E 2 = .slice none 0 0 ∧ E 3 = .slice Al3_0 ml3_0 cl3_0 ∧ I64 v4_0 ∧ Cx (fun _ => False) O0 w wv [.own 3 (.int .i64) (.slice Al3_0 ml3_0 cl3_0) l3_0] ∧ (some l3_0 : Option ((List Int))) = some r) (fun K20 hK20 => ?_) ?_
  · refine Wc.block ?_
    refine Wc.loop (fun m E wv => ∃ (l3_0 : List Int) (v4_0 : Int) (Al3_0 : Option Addr) (ml3_0 cl3_0 : Nat), E 2 = .slice none 0 0 ∧ E 3 = .slice Al3_0 ml3_0 cl3_0 ∧ E 4 = .int .i64 v4_0 ∧ I64 v4_0 ∧ Cx (fun _ => False) O0 w wv [.own 3 (.int .i64) (.slice Al3_0 ml3_0 cl3_0) l3_0] ∧ loopN m (F.ref21_Reduce_b0 n) (l3_0, v4_0) = some o19) n ⟨(([] : List Int) ++ wx_0), 0, A12, (([] : List Int) ++ wx_0).length, c13, rfl, rfl, rfl, (show I64 0 from by unfold I64; omega), hC.sel [0] (by decide), hl0⟩ ?_
    have hbK0 := hb
    clear hb hC hl0
    rintro m22 E24 w23 ⟨l3_0, v4_0, Al3_0, ml3_0, cl3_0, e2, e3, e4, hrv4_0, hC, hl0⟩ K21 hK21
    obtain ⟨m22', o25, rfl, hb, hl0⟩ := loopN_some hl0
    unfold F.ref21_Reduce_b0 at hb
    obtain ⟨rfl, hll3_0, hcl3_0⟩ := (hC.ow (i := 0) rfl).sl_len
    refine Wc.seq fun K26 hK26 => ?_
    refine Wc.seq fun K27 hK27 => ?_
    refine Wc.region (by decide +kernel) ?_
    refine lex.pure (v := .int .i64 v4_0) (pu_move e4) ?_
    obtain ⟨z28, h29, hb⟩ := bd hb
    refine lex.pure (v := .int .i64 z28) (pu_addc (a := v4_0) (b := 1) rfl rfl h29) ?_
    refine lex.pure (v := .slice Al3_0 l3_0.length cl3_0) (pu_move e3) ?_
    refine lex.pure (v := .int .i64 (l3_0.length : Int)) (pu_len (A := Al3_0) (n := l3_0.length) (m := cl3_0) Try.underlying22 rfl) ?_
    refine lex.pure (v := .bool (decide (z28 < (l3_0.length : Int)))) (pu_lss (k := .i64) (a := z28) (b := (l3_0.length : Int)) rfl rfl) ?_
    refine lex.nil ?_
    refine hK27 _ _ ?_
    refine Wc.cond (t := (decide (z28 < (l3_0.length : Int)))) (rfl) (fun hq30 => ?_) (fun hq30 => ?_)
    · replace hb := (cT hq30).symm.trans hb
      refine Wc.skip ?_
      refine hK26 _ _ ?_
      refine Wc.block ?_
      refine Wc.seq fun K31 hK31 => ?_
      refine Wc.regionMix [] (frm [] ([] : List Fact) ([] : List Fact)) (fun _ => rfl) mixed (by decide +kernel) (by decide +kernel) fun w33 hw32 => ?_
      replace hC := hC.step (Fr.of_drew hw32)
      have hM := Fr.refl (fun k => k ∈ blocks ([] : List Fact)) w33
      clear hw32
      have hS := hC
      refine mixE.pure (v := .slice Al3_0 l3_0.length cl3_0) (pu_move e3) ?_
      refine mixE.pure (v := .int .i64 v4_0) (pu_move e4) ?_
      obtain ⟨x34, h35, hb⟩ := bd hb
      obtain ⟨ad36, cs37, hA, ho40, hc38, hr39⟩ := hS.elo2 (i := 0) rfl (get_some h35).2 [] (by decide)
      subst hA
      refine mixE.pure (v := .pointer (some (ad36.add (v4_0.toNat * 1)))) (pu_index (a := v4_0) Try.underlying22 Try.sizeOf3 rfl rfl (get_some h35).1) ?_
      obtain ⟨rfl, hr39'⟩ := hr39
      refine mixE.load hM (v := .int .i64 x34) (fun _ hF => ld_one Try.isAgg3 rfl (hF.cell (hc38 0 _ rfl) (off1 ho40))) ?_
      refine mixE.pure (v := .slice (some ad36) l3_0.length cl3_0) (pu_move e3) ?_
      refine mixE.pure (v := .int .i64 v4_0) (pu_move e4) ?_
      obtain ⟨z41, h42, hb⟩ := bd hb
      refine mixE.pure (v := .int .i64 z41) (pu_addc (a := v4_0) (b := 1) rfl rfl h42) ?_
      obtain ⟨x43, h44, hb⟩ := bd hb
      obtain ⟨ad45, cs46, hA, ho49, hc47, hr48⟩ := hS.elo2 (i := 0) rfl (get_some h44).2 [] (by decide)
      obtain rfl := Option.some.inj hA
      refine mixE.pure (v := .pointer (some (ad36.add (z41.toNat * 1)))) (pu_index (a := z41) Try.underlying22 Try.sizeOf3 rfl rfl (get_some h44).1) ?_
      obtain ⟨rfl, hr48'⟩ := hr48
      refine mixE.load hM (v := .int .i64 x43) (fun _ hF => ld_one Try.isAgg3 rfl (hF.cell (hc47 0 _ rfl) (off1 ho49))) ?_
      obtain ⟨z50, h51, hb⟩ := bd hb
      refine mixE.pure (v := .int .i64 z50) (pu_negc (a := x43) rfl h51) ?_
      refine mixE.pure (v := .bool (decide (x34 = z50))) (pu_eql (k := .i64) (a := x34) (b := z50) rfl rfl) ?_
      refine mixE.nil ?_
      clear hS hM
      refine hK31 _ _ ?_
      refine Wc.fresh fun E52 hE => ?_
      have e2 : E52 2 = .slice none 0 0 := (congrFun hE 2).trans e2
      have e3 : E52 3 = .slice (some ad36) l3_0.length cl3_0 := (congrFun hE 3).trans e3
      have e4 : E52 4 = .int .i64 v4_0 := (congrFun hE 4).trans e4
      have e12 : E52 12 = .bool (decide (z28 < (l3_0.length : Int))) := (congrFun hE 12).trans rfl
      have e23 : E52 23 = .bool (decide (x34 = z50)) := (congrFun hE 23).trans rfl
      clear hE
      refine Wc.cond (t := (decide (x34 = z50))) (e23) (fun hq53 => ?_) (fun hq53 => ?_)
      · replace hb := (cT hq53).symm.trans hb
        refine Wc.seq fun K54 hK54 => ?_
        refine Wc.regionMix [] (frm [] ([] : List Fact) ([] : List Fact)) (fun _ => rfl) mixed (by decide +kernel) (by decide +kernel) fun w56 hw55 => ?_
        replace hC := hC.step (Fr.of_drew hw55)
        have hM := Fr.refl (fun k => k ∈ blocks ([] : List Fact)) w56
        clear hw55
        have hS := hC
        refine mixE.op hM (hC.lit (s := (.int .i64)) (vs := []) (xs := []) Try.underlying22 Try.type3 rfl rfl (Nat.le_of_ble_eq_true rfl) rfl rfl (by simp [Value.cells, Sh.n]) rfl (show Elems _ _ (.int .i64) ([]) ([] : List Int) from Elems.nil _ _ _)) ?_
        rintro _ w61 ⟨A57, c58, rfl, hl59, hc60, hC, hF, hN⟩
        have hBf62 := Beside.new hM hN
        replace hM := hM.none hF
        refine ⟨hM, ?_⟩
        clear hF hN
        refine mixE.pure (v := .slice (some ad36) l3_0.length cl3_0) (pu_move e3) ?_
        refine mixE.pure (v := .int .i64 v4_0) (pu_move e4) ?_
        obtain ⟨u63, h64, hb⟩ := bd hb
        replace hC := hC.freeze (i := 1) rfl (hC.own_new (i := 1) rfl)
        obtain ⟨A65, c66, hp69, hR70⟩ := pu_part_h (b := v4_0) Try.underlying22 Try.sizeOf3 (hC.rd (i := 1) rfl) rfl (cut_some h64)
        refine mixE.pure (v := .slice A65 (((l3_0.drop (0 : Int).toNat).take (v4_0.toNat - (0 : Int).toNat)).length) c66) (hp69 rfl  rfl) ?_
        replace hC := hC.ro hR70
        obtain ⟨-, hl67, hc68⟩ := (hC.rd (i := 0) rfl).sl_len
        obtain ⟨u72, h73, hb⟩ := bd hb
        refine mixE.op hM (hC.app (i := 1) (s := (.int .i64)) (xs := ([] : List Int)) (ys := ((l3_0.drop (0 : Int).toNat).take (v4_0.toNat - (0 : Int).toNat))) (m := (((l3_0.drop (0 : Int).toNat).take (v4_0.toNat - (0 : Int).toNat)).length)) rfl Try.underlying22 Try.underlying22 Try.type3 rfl rfl rfl (hC.srcr (i := 0) rfl) rfl rfl (by have := lim_some h73; simp at this ⊢ <;> omega) (by decide)) ?_
        rintro _ w78 ⟨A74, c75, rfl, hl76, hc77, hC, hF, hN⟩
        have hB := hBf62
        replace hBf62 := hB.app hM hN
        replace hM := hM.beside hB hF
        clear hB
        refine ⟨hM, ?_⟩
        clear hF hN
        refine mixE.pure (v := .slice (some ad36) l3_0.length cl3_0) (pu_move e3) ?_
        refine mixE.pure (v := .int .i64 v4_0) (pu_move e4) ?_
        obtain ⟨z79, h80, hb⟩ := bd hb
        refine mixE.pure (v := .int .i64 z79) (pu_addc (a := v4_0) (b := 2) rfl rfl h80) ?_
        obtain ⟨u81, h82, hb⟩ := bd hb
        obtain ⟨A83, c84, hp87, hR88⟩ := pu_part_l (a := z79)  Try.underlying22 Try.sizeOf3 (hC.rd (i := 2) rfl) rfl (cut_some h82)
        refine mixE.pure (v := .slice A83 (((l3_0.drop z79.toNat).take ((l3_0.length : Int).toNat - z79.toNat)).length) c84) (hp87 rfl rfl ) ?_
        replace hC := hC.ro hR88
        obtain ⟨-, hl85, hc86⟩ := (hC.rd (i := 0) rfl).sl_len
        obtain ⟨u90, h91, hb⟩ := bd hb
        refine mixE.op hM (hC.app (i := 2) (s := (.int .i64)) (xs := (([] : List Int) ++ ((l3_0.drop (0 : Int).toNat).take (v4_0.toNat - (0 : Int).toNat)))) (ys := ((l3_0.drop z79.toNat).take ((l3_0.length : Int).toNat - z79.toNat))) (m := (((l3_0.drop z79.toNat).take ((l3_0.length : Int).toNat - z79.toNat)).length)) rfl Try.underlying22 Try.underlying22 Try.type3 rfl rfl rfl (hC.srcr (i := 0) rfl) rfl rfl (by have := lim_some h91; simp at this ⊢ <;> omega) (by decide)) ?_
        rintro _ w96 ⟨A92, c93, rfl, hl94, hc95, hC, hF, hN⟩
        have hB := hBf62
        replace hBf62 := hB.app hM hN
        replace hM := hM.beside hB hF
        clear hB
        refine ⟨hM, ?_⟩
        clear hF hN
        refine mixE.pure (v := .slice A92 (((([] : List Int) ++ ((l3_0.drop (0 : Int).toNat).take (v4_0.toNat - (0 : Int).toNat))) ++ ((l3_0.drop z79.toNat).take ((l3_0.length : Int).toNat - z79.toNat))).length) c93) (pu_assign rfl) ?_
        refine mixE.nil ?_
        clear hS hM
        refine hK54 _ _ ?_
        refine Wc.region (by decide +kernel) ?_
        refine lex.pure (v := .int .i64 0) (pu_assign rfl) ?_
        refine lex.nil ?_
        obtain rfl := Option.some.inj hb
        exact hK21 m22' _ _ (Nat.lt_succ_self _) ⟨((([] : List Int) ++ ((l3_0.drop (0 : Int).toNat).take (v4_0.toNat - (0 : Int).toNat))) ++ ((l3_0.drop z79.toNat).take ((l3_0.length : Int).toNat - z79.toNat))), 0, A92, ((([] : List Int) ++ ((l3_0.drop (0 : Int).toNat).take (v4_0.toNat - (0 : Int).toNat))) ++ ((l3_0.drop z79.toNat).take ((l3_0.length : Int).toNat - z79.toNat))).length, c93, e2, rfl, rfl, (show I64 0 from by unfold I64; omega), hC.sel [2] (by decide), lN hl0⟩
      · replace hb := (cF hq53).symm.trans hb
        refine Wc.region (by decide +kernel) ?_
        refine lex.pure (v := .int .i64 v4_0) (pu_move e4) ?_
        obtain ⟨z97, h98, hb⟩ := bd hb
        refine lex.pure (v := .int .i64 z97) (pu_addc (a := v4_0) (b := 1) rfl rfl h98) ?_
        refine lex.pure (v := .int .i64 z97) (pu_assign rfl) ?_
        refine lex.nil ?_
        obtain rfl := Option.some.inj hb
        exact hK21 m22' _ _ (Nat.lt_succ_self _) ⟨l3_0, z97, (some ad36), l3_0.length, cl3_0, e2, e3, rfl, (chk_rng h98), hC.sel [0] (by decide), lN hl0⟩
    · replace hb := (cF hq30).symm.trans hb
      refine Wc.exit rfl ?_
      obtain rfl := Option.some.inj hb
      obtain rfl := (lX hl0).symm
      exact hK20 _ _ ⟨l3_0, v4_0, Al3_0, l3_0.length, cl3_0, e2, e3, hrv4_0, hC.sel [0] (by decide), hbK0⟩
  · clear hb hC hl0
    rintro E100 w99 ⟨l3_0, v4_0, Al3_0, ml3_0, cl3_0, e2, e3, hrv4_0, hC, hb⟩
    obtain ⟨rfl, hll3_0, hcl3_0⟩ := (hC.ow (i := 0) rfl).sl_len
    refine hK18 _ _ ?_
    refine Wc.seq fun K101 hK101 => ?_
    refine Wc.region (by decide +kernel) ?_
    refine lex.pure (v := .slice Al3_0 l3_0.length cl3_0) (pu_move e3) ?_
    refine lex.pure (v := .slice Al3_0 l3_0.length cl3_0) (pu_assign rfl) ?_
    refine lex.nil ?_
    refine hK101 _ _ ?_
    obtain rfl := Option.some.inj hb
    refine Wc.ret ?_
    refine hKR _ _ ?_
    refine ⟨_, res1 Try.results36 (show RV _ _ _ (.tmp _) (.slice Al3_0 l3_0.length cl3_0) from rfl), _, rfl, Al3_0, l3_0.length, cl3_0, rfl, hC.sel [0] (by decide)⟩

set_option maxRecDepth 100000 in
set_option maxHeartbeats 4000000 in
theorem ref35_letters_ok (n : Nat) {w : World} {O0 : List Nat} (hO : ∀ k ∈ O0, k < w.heap.size) {strands_0 : Int} (hstrands_0 : I64 strands_0) {x_1 : Int} (hx_1 : I64 x_1) {r : (List (List Int))} (hb : F.ref35_letters n strands_0 x_1 = some r) :
    Calls Try.prog 38 #[.int .i64 strands_0, .int .i64 x_1] w fun e w' => ∃ v, e = .returned v ∧ ∃ (A0 : Option Addr) (m0 c0 : Nat), v = .slice A0 m0 c0 ∧ Cx (fun _ => False) O0 w w' [.own 22 (.sl (.int .i64)) (.slice A0 m0 c0) r] := by
  unfold F.ref35_letters at hb
  have hC := Cx.start hO
  clear hO
  refine calls_of_Wc Try.func38 rfl (by rw [Try.ntmps38]; exact Nat.le_of_ble_eq_true rfl) fun KR hKR => ?_
  refine Wc.seq fun K1 hK1 => ?_
  refine Wc.region (by decide +kernel) ?_
  refine lex.pure (v := .slice none 0 0) (pu_assign rfl) ?_
  refine lex.nil ?_
  refine hK1 _ _ ?_
  refine Wc.seq fun K2 hK2 => ?_
  refine Wc.region (by decide +kernel) ?_
  refine lex.pure (v := .slice none 0 0) (pu_assign rfl) ?_
  refine lex.nil ?_
  refine hK2 _ _ ?_
  refine Wc.seq fun K3 hK3 => ?_
  refine Wc.seq fun K4 hK4 => ?_
  refine Wc.region (by decide +kernel) ?_
  refine lex.pure (v := .int .i64 1) (pu_assign rfl) ?_
  refine lex.nil ?_
  refine hK4 _ _ ?_
  replace hC := hC.nil 22 (.sl (.int .i64))
  obtain ⟨o6, hl0, hb⟩ := bd hb
  refine Wc.cut (fun E wv => ∃ (l5_0 : List (List Int)) (v6_0 : Int) (Al5_0 : Option Addr) (ml5_0 cl5_0 : Nat), E 4 = .slice none 0 0 ∧ E 5 = .slice Al5_0 ml5_0 cl5_0 ∧ I64 v6_0 ∧ Cx (fun _ => False) O0 w wv [.own 22 (.sl (.int .i64)) (.slice Al5_0 ml5_0 cl5_0) l5_0] ∧ (some l5_0 : Option ((List (List Int)))) = some r) (fun K7 hK7 => ?_) ?_
  · refine Wc.block ?_
    refine Wc.loop (fun m E wv => ∃ (l5_0 : List (List Int)) (v6_0 : Int) (Al5_0 : Option Addr) (ml5_0 cl5_0 : Nat), E 0 = .int .i64 strands_0 ∧ E 1 = .int .i64 x_1 ∧ E 4 = .slice none 0 0 ∧ E 5 = .slice Al5_0 ml5_0 cl5_0 ∧ E 6 = .int .i64 v6_0 ∧ I64 v6_0 ∧ Cx (fun _ => False) O0 w wv [.own 22 (.sl (.int .i64)) (.slice Al5_0 ml5_0 cl5_0) l5_0] ∧ loopN m (F.ref35_letters_b0 n strands_0 x_1) (l5_0, v6_0) = some o6) n ⟨([] : List (List Int)), 1, none, 0, 0, rfl, rfl, rfl, rfl, rfl, (show I64 1 from by unfold I64; omega), hC.sel [0] (by decide), hl0⟩ ?_
    have hbK0 := hb
    clear hb hC hl0
    rintro m9 E11 w10 ⟨l5_0, v6_0, Al5_0, ml5_0, cl5_0, e0, e1, e4, e5, e6, hrv6_0, hC, hl0⟩ K8 hK8
    obtain ⟨m9', o12, rfl, hb, hl0⟩ := loopN_some hl0
    unfold F.ref35_letters_b0 at hb
    obtain ⟨rfl, hll5_0, hcl5_0⟩ := (hC.ow (i := 0) rfl).sl_len
    refine Wc.seq fun K13 hK13 => ?_
    refine Wc.seq fun K14 hK14 => ?_
    refine Wc.region (by decide +kernel) ?_
    refine lex.pure (v := .int .i64 v6_0) (pu_move e6) ?_
    refine lex.pure (v := .int .i64 strands_0) (pu_move e0) ?_
    refine lex.pure (v := .bool (decide (v6_0 ≤ strands_0))) (pu_leq (k := .i64) (a := v6_0) (b := strands_0) rfl rfl) ?_
    refine lex.nil ?_
    refine hK14 _ _ ?_
    refine Wc.cond (t := (decide (v6_0 ≤ strands_0))) (rfl) (fun hq15 => ?_) (fun hq15 => ?_)
    · replace hb := (cT hq15).symm.trans hb
      refine Wc.skip ?_
      refine hK13 _ _ ?_
      refine Wc.seq fun K16 hK16 => ?_
      refine Wc.block ?_
      refine Wc.seq fun K17 hK17 => ?_
      refine Wc.region (by decide +kernel) ?_
      refine lex.pure (v := .int .i64 v6_0) (pu_move e6) ?_
      refine lex.op (hC.lit (s := (.int .i64)) (vs := [.int .i64 v6_0]) (xs := [v6_0]) Try.underlying22 Try.type3 rfl rfl (Nat.le_of_ble_eq_true rfl) rfl rfl (by simp [Value.cells, Sh.n]) rfl (show Elems _ _ (.int .i64) ([.int .i64 v6_0] ++ ([])) ([v6_0] : List Int) from Elems.cons (⟨rfl, I64.wr hrv6_0⟩) (Elems.nil _ _ _))) ?_
      rintro _ w22 ⟨A18, c19, rfl, hl20, hc21, hC, hF, hN⟩
      clear hF hN
      refine lex.pure (v := .slice A18 ((([v6_0] : List Int)).length) c19) (pu_assign rfl) ?_
      refine lex.nil ?_
      refine hK17 _ _ ?_
      refine Wc.seqJ (fun E wv => ∃ (l7_1 : List Int) (v21_1 : Bool) (Al7_1 : Option Addr) (ml7_1 cl7_1 : Nat), E 0 = .int .i64 strands_0 ∧ E 1 = .int .i64 x_1 ∧ E 4 = .slice none 0 0 ∧ E 5 = .slice Al5_0 l5_0.length cl5_0 ∧ E 6 = .int .i64 v6_0 ∧ E 7 = .slice Al7_1 ml7_1 cl7_1 ∧ E 10 = .bool (decide (v6_0 ≤ strands_0)) ∧ E 21 = .bool v21_1 ∧ Cx (fun _ => False) O0 w wv [.own 22 (.sl (.int .i64)) (.slice Al5_0 l5_0.length cl5_0) l5_0, .own 3 (.int .i64) (.slice Al7_1 ml7_1 cl7_1) l7_1] ∧ F.ref35_letters_j1 n x_1 l5_0 v6_0 l7_1 v21_1 = some o12) (fun K24 hK24 => ?_) ?_
      ·
        skip
        refine Wc.seq fun K25 hK25 => ?_
        refine Wc.region (by decide +kernel) ?_
        refine lex.pure (v := .int .i64 x_1) (pu_move e1) ?_
        refine lex.pure (v := .bool (decide (0 < x_1))) (pu_gtr (k := .i64) (a := x_1) (b := 0) rfl rfl) ?_
        refine lex.pure (v := .bool (decide (0 < x_1))) (pu_move rfl) ?_
        rcases bS (decide (0 < x_1)) with hq26 | hq26
        · replace hb := (cT hq26).symm.trans hb
          refine lex.gpure (want_t rfl rfl (show _ = Value.bool (decide (0 < x_1)) from rfl) hq26) (v := .int .i64 v6_0) (pu_move e6) ?_
          refine lex.gpure (want_t rfl rfl (show _ = Value.bool (decide (0 < x_1)) from rfl) hq26) (v := .int .i64 x_1) (pu_move e1) ?_
          refine lex.gpure (want_t rfl rfl (show _ = Value.bool (decide (0 < x_1)) from rfl) hq26) (v := .bool (decide (v6_0 = x_1))) (pu_eql (k := .i64) (a := v6_0) (b := x_1) rfl rfl) ?_
          refine lex.pure (v := .bool (decide (v6_0 = x_1))) (pu_pickT (q := (decide (0 < x_1))) rfl hq26 rfl) ?_
          refine lex.nil ?_
          refine hK25 _ _ ?_
          refine Wc.fresh fun E27 hE => ?_
          have e0 : E27 0 = .int .i64 strands_0 := (congrFun hE 0).trans e0
          have e1 : E27 1 = .int .i64 x_1 := (congrFun hE 1).trans e1
          have e4 : E27 4 = .slice none 0 0 := (congrFun hE 4).trans e4
          have e5 : E27 5 = .slice Al5_0 l5_0.length cl5_0 := (congrFun hE 5).trans e5
          have e6 : E27 6 = .int .i64 v6_0 := (congrFun hE 6).trans e6
          have e7 : E27 7 = .slice A18 ((([v6_0] : List Int)).length) c19 := (congrFun hE 7).trans rfl
          have e10 : E27 10 = .bool (decide (v6_0 ≤ strands_0)) := (congrFun hE 10).trans rfl
          have e21 : E27 21 = .bool (decide (v6_0 = x_1)) := (congrFun hE 21).trans rfl
          clear hE
          refine Wc.cond (t := (decide (v6_0 = x_1))) (e21) (fun hq28 => ?_) (fun hq28 => ?_)
          · replace hb := (cT hq28).symm.trans hb
            refine Wc.region (by decide +kernel) ?_
            refine lex.pure (v := .int .i64 x_1) (pu_move e1) ?_
            refine lex.pure (v := .int .i64 x_1) (pu_move e1) ?_
            obtain ⟨z29, h30, hb⟩ := bd hb
            refine lex.pure (v := .int .i64 z29) (pu_addc (a := x_1) (b := 1) rfl rfl h30) ?_
            refine lex.pure (v := .int .i64 x_1) (pu_move e1) ?_
            obtain ⟨z31, h32, hb⟩ := bd hb
            refine lex.pure (v := .int .i64 z31) (pu_negc (a := x_1) rfl h32) ?_
            refine lex.op (hC.lit (s := (.int .i64)) (vs := [.int .i64 x_1, .int .i64 z29, .int .i64 z31]) (xs := [x_1, z29, z31]) Try.underlying22 Try.type3 rfl rfl (Nat.le_of_ble_eq_true rfl) rfl rfl (by simp [Value.cells, Sh.n]) rfl (show Elems _ _ (.int .i64) ([.int .i64 x_1] ++ ([.int .i64 z29] ++ ([.int .i64 z31] ++ ([])))) ([x_1, z29, z31] : List Int) from Elems.cons (⟨rfl, I64.wr hx_1⟩) (Elems.cons (⟨rfl, I64.wr (chk_rng h30)⟩) (Elems.cons (⟨rfl, I64.wr (chk_rng h32)⟩) (Elems.nil _ _ _))))) ?_
            rintro _ w37 ⟨A33, c34, rfl, hl35, hc36, hC, hF, hN⟩
            clear hF hN
            refine lex.pure (v := .slice A33 ((([x_1, z29, z31] : List Int)).length) c34) (pu_assign rfl) ?_
            refine lex.nil ?_
            exact hK24 _ _ ⟨([x_1, z29, z31] : List Int), (decide (v6_0 = x_1)), A33, (([x_1, z29, z31] : List Int)).length, c34, e0, e1, e4, e5, e6, rfl, e10, e21, hC.sel [2, 0] (by decide), hb⟩
          · replace hb := (cF hq28).symm.trans hb
            refine Wc.skip ?_
            exact hK24 _ _ ⟨([v6_0] : List Int), (decide (v6_0 = x_1)), A18, (([v6_0] : List Int)).length, c19, e0, e1, e4, e5, e6, e7, e10, e21, hC.sel [1, 0] (by decide), hb⟩
        · replace hb := (cF hq26).symm.trans hb
          refine lex.gskip (want_f rfl rfl (show _ = Value.bool (decide (0 < x_1)) from rfl) hq26) ?_
          refine lex.gskip (want_f rfl rfl (show _ = Value.bool (decide (0 < x_1)) from rfl) hq26) ?_
          refine lex.gskip (want_f rfl rfl (show _ = Value.bool (decide (0 < x_1)) from rfl) hq26) ?_
          refine lex.pure (v := .bool false) (pu_pickF (q := (decide (0 < x_1))) rfl hq26 rfl) ?_
          refine lex.nil ?_
          refine hK25 _ _ ?_
          refine Wc.fresh fun E39 hE => ?_
          have e0 : E39 0 = .int .i64 strands_0 := (congrFun hE 0).trans e0
          have e1 : E39 1 = .int .i64 x_1 := (congrFun hE 1).trans e1
          have e4 : E39 4 = .slice none 0 0 := (congrFun hE 4).trans e4
          have e5 : E39 5 = .slice Al5_0 l5_0.length cl5_0 := (congrFun hE 5).trans e5
          have e6 : E39 6 = .int .i64 v6_0 := (congrFun hE 6).trans e6
          have e7 : E39 7 = .slice A18 ((([v6_0] : List Int)).length) c19 := (congrFun hE 7).trans rfl
          have e10 : E39 10 = .bool (decide (v6_0 ≤ strands_0)) := (congrFun hE 10).trans rfl
          have e21 : E39 21 = .bool false := (congrFun hE 21).trans rfl
          clear hE
          refine Wc.cond_false (e21) ?_
          refine Wc.skip ?_
          exact hK24 _ _ ⟨([v6_0] : List Int), false, A18, (([v6_0] : List Int)).length, c19, e0, e1, e4, e5, e6, e7, e10, e21, hC.sel [1, 0] (by decide), hb⟩
      · clear hb hC
        rintro E41 w40 ⟨l7_1, v21_1, Al7_1, ml7_1, cl7_1, e0, e1, e4, e5, e6, e7, e10, e21, hC, hb⟩
        unfold F.ref35_letters_j1 at hb
        obtain ⟨rfl, hll7_1, hcl7_1⟩ := (hC.ow (i := 1) rfl).sl_len
        refine Wc.seqJ (fun E wv => ∃ (l7_2 : List Int) (v35_2 : Bool) (Al7_2 : Option Addr) (ml7_2 cl7_2 : Nat), E 0 = .int .i64 strands_0 ∧ E 1 = .int .i64 x_1 ∧ E 4 = .slice none 0 0 ∧ E 5 = .slice Al5_0 l5_0.length cl5_0 ∧ E 6 = .int .i64 v6_0 ∧ E 7 = .slice Al7_2 ml7_2 cl7_2 ∧ E 10 = .bool (decide (v6_0 ≤ strands_0)) ∧ E 21 = .bool v21_1 ∧ E 35 = .bool v35_2 ∧ Cx (fun _ => False) O0 w wv [.own 22 (.sl (.int .i64)) (.slice Al5_0 l5_0.length cl5_0) l5_0, .own 3 (.int .i64) (.slice Al7_2 ml7_2 cl7_2) l7_2] ∧ F.ref35_letters_j2 n x_1 l5_0 v6_0 l7_2 v35_2 = some o12) (fun K42 hK42 => ?_) ?_
        ·
          skip
          refine Wc.seq fun K43 hK43 => ?_
          refine Wc.region (by decide +kernel) ?_
          refine lex.pure (v := .int .i64 x_1) (pu_move e1) ?_
          refine lex.pure (v := .bool (decide (0 < x_1))) (pu_gtr (k := .i64) (a := x_1) (b := 0) rfl rfl) ?_
          refine lex.pure (v := .bool (decide (0 < x_1))) (pu_move rfl) ?_
          rcases bS (decide (0 < x_1)) with hq44 | hq44
          · replace hb := (cT hq44).symm.trans hb
            refine lex.gpure (want_t rfl rfl (show _ = Value.bool (decide (0 < x_1)) from rfl) hq44) (v := .int .i64 v6_0) (pu_move e6) ?_
            refine lex.gpure (want_t rfl rfl (show _ = Value.bool (decide (0 < x_1)) from rfl) hq44) (v := .int .i64 x_1) (pu_move e1) ?_
            obtain ⟨z45, h46, hb⟩ := bd hb
            refine lex.gpure (want_t rfl rfl (show _ = Value.bool (decide (0 < x_1)) from rfl) hq44) (v := .int .i64 z45) (pu_addc (a := x_1) (b := 1) rfl rfl h46) ?_
            refine lex.gpure (want_t rfl rfl (show _ = Value.bool (decide (0 < x_1)) from rfl) hq44) (v := .bool (decide (v6_0 = z45))) (pu_eql (k := .i64) (a := v6_0) (b := z45) rfl rfl) ?_
            refine lex.pure (v := .bool (decide (v6_0 = z45))) (pu_pickT (q := (decide (0 < x_1))) rfl hq44 rfl) ?_
            refine lex.nil ?_
            refine hK43 _ _ ?_
            refine Wc.cond (t := (decide (v6_0 = z45))) (rfl) (fun hq47 => ?_) (fun hq47 => ?_)
            · replace hb := (cT hq47).symm.trans hb
              refine Wc.region (by decide +kernel) ?_
              refine lex.pure (v := .int .i64 x_1) (pu_move e1) ?_
              refine lex.op (hC.lit (s := (.int .i64)) (vs := [.int .i64 x_1]) (xs := [x_1]) Try.underlying22 Try.type3 rfl rfl (Nat.le_of_ble_eq_true rfl) rfl rfl (by simp [Value.cells, Sh.n]) rfl (show Elems _ _ (.int .i64) ([.int .i64 x_1] ++ ([])) ([x_1] : List Int) from Elems.cons (⟨rfl, I64.wr hx_1⟩) (Elems.nil _ _ _))) ?_
              rintro _ w52 ⟨A48, c49, rfl, hl50, hc51, hC, hF, hN⟩
              clear hF hN
              refine lex.pure (v := .slice A48 ((([x_1] : List Int)).length) c49) (pu_assign rfl) ?_
              refine lex.nil ?_
              exact hK42 _ _ ⟨([x_1] : List Int), (decide (v6_0 = z45)), A48, (([x_1] : List Int)).length, c49, e0, e1, e4, e5, e6, rfl, e10, e21, rfl, hC.sel [1, 0] (by decide), hb⟩
            · replace hb := (cF hq47).symm.trans hb
              refine Wc.skip ?_
              exact hK42 _ _ ⟨l7_1, (decide (v6_0 = z45)), Al7_1, l7_1.length, cl7_1, e0, e1, e4, e5, e6, e7, e10, e21, rfl, hC.sel [0, 1] (by decide), hb⟩
          · replace hb := (cF hq44).symm.trans hb
            refine lex.gskip (want_f rfl rfl (show _ = Value.bool (decide (0 < x_1)) from rfl) hq44) ?_
            refine lex.gskip (want_f rfl rfl (show _ = Value.bool (decide (0 < x_1)) from rfl) hq44) ?_
            refine lex.gskip (want_f rfl rfl (show _ = Value.bool (decide (0 < x_1)) from rfl) hq44) ?_
            refine lex.gskip (want_f rfl rfl (show _ = Value.bool (decide (0 < x_1)) from rfl) hq44) ?_
            refine lex.pure (v := .bool false) (pu_pickF (q := (decide (0 < x_1))) rfl hq44 rfl) ?_
            refine lex.nil ?_
            refine hK43 _ _ ?_
            refine Wc.cond_false (rfl) ?_
            refine Wc.skip ?_
            exact hK42 _ _ ⟨l7_1, false, Al7_1, l7_1.length, cl7_1, e0, e1, e4, e5, e6, e7, e10, e21, rfl, hC.sel [0, 1] (by decide), hb⟩
        · clear hb hC
          rintro E55 w54 ⟨l7_2, v35_2, Al7_2, ml7_2, cl7_2, e0, e1, e4, e5, e6, e7, e10, e21, e35, hC, hb⟩
          unfold F.ref35_letters_j2 at hb
          obtain ⟨rfl, hll7_2, hcl7_2⟩ := (hC.ow (i := 1) rfl).sl_len
          refine Wc.seqJ (fun E wv => ∃ (l7_3 : List Int) (v45_3 : Bool) (Al7_3 : Option Addr) (ml7_3 cl7_3 : Nat), E 0 = .int .i64 strands_0 ∧ E 1 = .int .i64 x_1 ∧ E 4 = .slice none 0 0 ∧ E 5 = .slice Al5_0 l5_0.length cl5_0 ∧ E 6 = .int .i64 v6_0 ∧ E 7 = .slice Al7_3 ml7_3 cl7_3 ∧ E 10 = .bool (decide (v6_0 ≤ strands_0)) ∧ E 21 = .bool v21_1 ∧ E 35 = .bool v35_2 ∧ E 45 = .bool v45_3 ∧ Cx (fun _ => False) O0 w wv [.own 22 (.sl (.int .i64)) (.slice Al5_0 l5_0.length cl5_0) l5_0, .own 3 (.int .i64) (.slice Al7_3 ml7_3 cl7_3) l7_3] ∧ F.ref35_letters_j3 n x_1 l5_0 v6_0 l7_3 v45_3 = some o12) (fun K56 hK56 => ?_) ?_
          ·
            skip
            refine Wc.seq fun K57 hK57 => ?_
            refine Wc.region (by decide +kernel) ?_
            refine lex.pure (v := .int .i64 x_1) (pu_move e1) ?_
            refine lex.pure (v := .bool (decide (x_1 < 0))) (pu_lss (k := .i64) (a := x_1) (b := 0) rfl rfl) ?_
            refine lex.pure (v := .bool (decide (x_1 < 0))) (pu_move rfl) ?_
            rcases bS (decide (x_1 < 0)) with hq58 | hq58
            · replace hb := (cT hq58).symm.trans hb
              refine lex.gpure (want_t rfl rfl (show _ = Value.bool (decide (x_1 < 0)) from rfl) hq58) (v := .int .i64 v6_0) (pu_move e6) ?_
              refine lex.gpure (want_t rfl rfl (show _ = Value.bool (decide (x_1 < 0)) from rfl) hq58) (v := .int .i64 x_1) (pu_move e1) ?_
              obtain ⟨z59, h60, hb⟩ := bd hb
              refine lex.gpure (want_t rfl rfl (show _ = Value.bool (decide (x_1 < 0)) from rfl) hq58) (v := .int .i64 z59) (pu_negc (a := x_1) rfl h60) ?_
              refine lex.gpure (want_t rfl rfl (show _ = Value.bool (decide (x_1 < 0)) from rfl) hq58) (v := .bool (decide (v6_0 = z59))) (pu_eql (k := .i64) (a := v6_0) (b := z59) rfl rfl) ?_
              refine lex.pure (v := .bool (decide (v6_0 = z59))) (pu_pickT (q := (decide (x_1 < 0))) rfl hq58 rfl) ?_
              refine lex.nil ?_
              refine hK57 _ _ ?_
              refine Wc.cond (t := (decide (v6_0 = z59))) (rfl) (fun hq61 => ?_) (fun hq61 => ?_)
              · replace hb := (cT hq61).symm.trans hb
                refine Wc.region (by decide +kernel) ?_
                refine lex.pure (v := .int .i64 x_1) (pu_move e1) ?_
                obtain ⟨z62, h63, hb⟩ := bd hb
                refine lex.pure (v := .int .i64 z62) (pu_negc (a := x_1) rfl h63) ?_
                obtain ⟨z64, h65, hb⟩ := bd hb
                refine lex.pure (v := .int .i64 z64) (pu_addc (a := z62) (b := 1) rfl rfl h65) ?_
                refine lex.op (hC.lit (s := (.int .i64)) (vs := [.int .i64 z64]) (xs := [z64]) Try.underlying22 Try.type3 rfl rfl (Nat.le_of_ble_eq_true rfl) rfl rfl (by simp [Value.cells, Sh.n]) rfl (show Elems _ _ (.int .i64) ([.int .i64 z64] ++ ([])) ([z64] : List Int) from Elems.cons (⟨rfl, I64.wr (chk_rng h65)⟩) (Elems.nil _ _ _))) ?_
                rintro _ w70 ⟨A66, c67, rfl, hl68, hc69, hC, hF, hN⟩
                clear hF hN
                refine lex.pure (v := .slice A66 ((([z64] : List Int)).length) c67) (pu_assign rfl) ?_
                refine lex.nil ?_
                exact hK56 _ _ ⟨([z64] : List Int), (decide (v6_0 = z59)), A66, (([z64] : List Int)).length, c67, e0, e1, e4, e5, e6, rfl, e10, e21, e35, rfl, hC.sel [1, 0] (by decide), hb⟩
              · replace hb := (cF hq61).symm.trans hb
                refine Wc.skip ?_
                exact hK56 _ _ ⟨l7_2, (decide (v6_0 = z59)), Al7_2, l7_2.length, cl7_2, e0, e1, e4, e5, e6, e7, e10, e21, e35, rfl, hC.sel [0, 1] (by decide), hb⟩
            · replace hb := (cF hq58).symm.trans hb
              refine lex.gskip (want_f rfl rfl (show _ = Value.bool (decide (x_1 < 0)) from rfl) hq58) ?_
              refine lex.gskip (want_f rfl rfl (show _ = Value.bool (decide (x_1 < 0)) from rfl) hq58) ?_
              refine lex.gskip (want_f rfl rfl (show _ = Value.bool (decide (x_1 < 0)) from rfl) hq58) ?_
              refine lex.gskip (want_f rfl rfl (show _ = Value.bool (decide (x_1 < 0)) from rfl) hq58) ?_
              refine lex.pure (v := .bool false) (pu_pickF (q := (decide (x_1 < 0))) rfl hq58 rfl) ?_
              refine lex.nil ?_
              refine hK57 _ _ ?_
              refine Wc.cond_false (rfl) ?_
              refine Wc.skip ?_
              exact hK56 _ _ ⟨l7_2, false, Al7_2, l7_2.length, cl7_2, e0, e1, e4, e5, e6, e7, e10, e21, e35, rfl, hC.sel [0, 1] (by decide), hb⟩
          · clear hb hC
            rintro E73 w72 ⟨l7_3, v45_3, Al7_3, ml7_3, cl7_3, e0, e1, e4, e5, e6, e7, e10, e21, e35, e45, hC, hb⟩
            unfold F.ref35_letters_j3 at hb
            obtain ⟨rfl, hll7_3, hcl7_3⟩ := (hC.ow (i := 1) rfl).sl_len
            refine Wc.seq fun K74 hK74 => ?_
            refine Wc.seqJ (fun E wv => ∃ (v58_4 : Bool), E 0 = .int .i64 strands_0 ∧ E 1 = .int .i64 x_1 ∧ E 4 = .slice none 0 0 ∧ E 5 = .slice Al5_0 l5_0.length cl5_0 ∧ E 6 = .int .i64 v6_0 ∧ E 7 = .slice Al7_3 l7_3.length cl7_3 ∧ E 10 = .bool (decide (v6_0 ≤ strands_0)) ∧ E 21 = .bool v21_1 ∧ E 35 = .bool v35_2 ∧ E 45 = .bool v45_3 ∧ E 58 = .bool v58_4 ∧ Cx (fun _ => False) O0 w wv [.own 22 (.sl (.int .i64)) (.slice Al5_0 l5_0.length cl5_0) l5_0, .own 3 (.int .i64) (.slice Al7_3 l7_3.length cl7_3) l7_3] ∧ F.ref35_letters_j4 n x_1 l5_0 v6_0 l7_3 v58_4 = some o12) (fun K75 hK75 => ?_) ?_
            ·
              skip
              refine Wc.region (by decide +kernel) ?_
              refine lex.pure (v := .int .i64 x_1) (pu_move e1) ?_
              refine lex.pure (v := .bool (decide (x_1 < 0))) (pu_lss (k := .i64) (a := x_1) (b := 0) rfl rfl) ?_
              refine lex.pure (v := .bool (decide (x_1 < 0))) (pu_move rfl) ?_
              rcases bS (decide (x_1 < 0)) with hq76 | hq76
              · replace hb := (cT hq76).symm.trans hb
                refine lex.gpure (want_t rfl rfl (show _ = Value.bool (decide (x_1 < 0)) from rfl) hq76) (v := .int .i64 v6_0) (pu_move e6) ?_
                refine lex.gpure (want_t rfl rfl (show _ = Value.bool (decide (x_1 < 0)) from rfl) hq76) (v := .int .i64 x_1) (pu_move e1) ?_
                obtain ⟨z77, h78, hb⟩ := bd hb
                refine lex.gpure (want_t rfl rfl (show _ = Value.bool (decide (x_1 < 0)) from rfl) hq76) (v := .int .i64 z77) (pu_negc (a := x_1) rfl h78) ?_
                obtain ⟨z79, h80, hb⟩ := bd hb
                refine lex.gpure (want_t rfl rfl (show _ = Value.bool (decide (x_1 < 0)) from rfl) hq76) (v := .int .i64 z79) (pu_addc (a := z77) (b := 1) rfl rfl h80) ?_
                refine lex.gpure (want_t rfl rfl (show _ = Value.bool (decide (x_1 < 0)) from rfl) hq76) (v := .bool (decide (v6_0 = z79))) (pu_eql (k := .i64) (a := v6_0) (b := z79) rfl rfl) ?_
                refine lex.pure (v := .bool (decide (v6_0 = z79))) (pu_pickT (q := (decide (x_1 < 0))) rfl hq76 rfl) ?_
                refine lex.nil ?_
                exact hK75 _ _ ⟨(decide (v6_0 = z79)), e0, e1, e4, e5, e6, e7, e10, e21, e35, e45, rfl, hC.sel [0, 1] (by decide), hb⟩
              · replace hb := (cF hq76).symm.trans hb
                refine lex.gskip (want_f rfl rfl (show _ = Value.bool (decide (x_1 < 0)) from rfl) hq76) ?_
                refine lex.gskip (want_f rfl rfl (show _ = Value.bool (decide (x_1 < 0)) from rfl) hq76) ?_
                refine lex.gskip (want_f rfl rfl (show _ = Value.bool (decide (x_1 < 0)) from rfl) hq76) ?_
                refine lex.gskip (want_f rfl rfl (show _ = Value.bool (decide (x_1 < 0)) from rfl) hq76) ?_
                refine lex.gskip (want_f rfl rfl (show _ = Value.bool (decide (x_1 < 0)) from rfl) hq76) ?_
                refine lex.pure (v := .bool false) (pu_pickF (q := (decide (x_1 < 0))) rfl hq76 rfl) ?_
                refine lex.nil ?_
                exact hK75 _ _ ⟨false, e0, e1, e4, e5, e6, e7, e10, e21, e35, e45, rfl, hC.sel [0, 1] (by decide), hb⟩
            · clear hb hC
              rintro E82 w81 ⟨v58_4, e0, e1, e4, e5, e6, e7, e10, e21, e35, e45, e58, hC, hb⟩
              unfold F.ref35_letters_j4 at hb
              refine Wc.cond (t := v58_4) (e58) (fun hq83 => ?_) (fun hq83 => ?_)
              · replace hb := (cT hq83).symm.trans hb
                refine Wc.region (by decide +kernel) ?_
                refine lex.pure (v := .int .i64 x_1) (pu_move e1) ?_
                obtain ⟨z84, h85, hb⟩ := bd hb
                refine lex.pure (v := .int .i64 z84) (pu_negc (a := x_1) rfl h85) ?_
                obtain ⟨z86, h87, hb⟩ := bd hb
                refine lex.pure (v := .int .i64 z86) (pu_addc (a := z84) (b := 1) rfl rfl h87) ?_
                obtain ⟨z88, h89, hb⟩ := bd hb
                refine lex.pure (v := .int .i64 z88) (pu_negc (a := z86) rfl h89) ?_
                refine lex.pure (v := .int .i64 x_1) (pu_move e1) ?_
                obtain ⟨z90, h91, hb⟩ := bd hb
                refine lex.pure (v := .int .i64 z90) (pu_negc (a := x_1) rfl h91) ?_
                refine lex.pure (v := .int .i64 x_1) (pu_move e1) ?_
                obtain ⟨z92, h93, hb⟩ := bd hb
                refine lex.pure (v := .int .i64 z92) (pu_negc (a := x_1) rfl h93) ?_
                obtain ⟨z94, h95, hb⟩ := bd hb
                refine lex.pure (v := .int .i64 z94) (pu_addc (a := z92) (b := 1) rfl rfl h95) ?_
                refine lex.op (hC.lit (s := (.int .i64)) (vs := [.int .i64 z88, .int .i64 z90, .int .i64 z94]) (xs := [z88, z90, z94]) Try.underlying22 Try.type3 rfl rfl (Nat.le_of_ble_eq_true rfl) rfl rfl (by simp [Value.cells, Sh.n]) rfl (show Elems _ _ (.int .i64) ([.int .i64 z88] ++ ([.int .i64 z90] ++ ([.int .i64 z94] ++ ([])))) ([z88, z90, z94] : List Int) from Elems.cons (⟨rfl, I64.wr (chk_rng h89)⟩) (Elems.cons (⟨rfl, I64.wr (chk_rng h91)⟩) (Elems.cons (⟨rfl, I64.wr (chk_rng h95)⟩) (Elems.nil _ _ _))))) ?_
                rintro _ w100 ⟨A96, c97, rfl, hl98, hc99, hC, hF, hN⟩
                clear hF hN
                refine lex.pure (v := .slice A96 ((([z88, z90, z94] : List Int)).length) c97) (pu_assign rfl) ?_
                refine lex.nil ?_
                refine hK74 _ _ ?_
                refine Wc.fresh fun E102 hE => ?_
                have e0 : E102 0 = .int .i64 strands_0 := (congrFun hE 0).trans e0
                have e1 : E102 1 = .int .i64 x_1 := (congrFun hE 1).trans e1
                have e4 : E102 4 = .slice none 0 0 := (congrFun hE 4).trans e4
                have e5 : E102 5 = .slice Al5_0 l5_0.length cl5_0 := (congrFun hE 5).trans e5
                have e6 : E102 6 = .int .i64 v6_0 := (congrFun hE 6).trans e6
                have e7 : E102 7 = .slice A96 ((([z88, z90, z94] : List Int)).length) c97 := (congrFun hE 7).trans rfl
                have e10 : E102 10 = .bool (decide (v6_0 ≤ strands_0)) := (congrFun hE 10).trans e10
                have e21 : E102 21 = .bool v21_1 := (congrFun hE 21).trans e21
                have e35 : E102 35 = .bool v35_2 := (congrFun hE 35).trans e35
                have e45 : E102 45 = .bool v45_3 := (congrFun hE 45).trans e45
                have e58 : E102 58 = .bool v58_4 := (congrFun hE 58).trans e58
                clear hE
                refine Wc.region (by decide +kernel) ?_
                refine lex.pure (v := .slice Al5_0 l5_0.length cl5_0) (pu_move e5) ?_
                refine lex.pure (v := .slice A96 ((([z88, z90, z94] : List Int)).length) c97) (pu_move e7) ?_
                replace hC := hC.freeze (i := 0) rfl (hC.own_new (i := 0) rfl)
                refine lex.op (hC.lit (s := (.sl (.int .i64))) (vs := [.slice A96 ((([z88, z90, z94] : List Int)).length) c97]) (xs := [([z88, z90, z94] : List Int)]) Try.underlying41 Try.type22 rfl rfl (Nat.le_of_ble_eq_true rfl) rfl rfl (by simp [Value.cells, Sh.n]) rfl (show Elems _ _ (.sl (.int .i64)) ([.slice A96 ((([z88, z90, z94] : List Int)).length) c97] ++ ([])) ([([z88, z90, z94] : List Int)] : List (List Int)) from Elems.cons (hC.rd (i := 0) rfl) (Elems.nil _ _ _))) ?_
                rintro _ w107 ⟨A103, c104, rfl, hl105, hc106, hC, hF, hN⟩
                clear hF hN
                obtain ⟨u109, h110, hb⟩ := bd hb
                refine lex.op (hC.app (i := 2) (s := (.sl (.int .i64))) (xs := l5_0) (ys := ([([z88, z90, z94] : List Int)] : List (List Int))) (m := ((([([z88, z90, z94] : List Int)] : List (List Int))).length)) rfl Try.underlying41 Try.underlying41 Try.type22 rfl rfl rfl (hC.srco (i := 0) rfl) rfl rfl (by have := lim_some h110; simp at this ⊢ <;> omega) (by decide)) ?_
                rintro _ w115 ⟨A111, c112, rfl, hl113, hc114, hC, hF, hN⟩
                clear hF hN
                refine lex.pure (v := .slice A111 ((l5_0 ++ ([([z88, z90, z94] : List Int)] : List (List Int))).length) c112) (pu_assign rfl) ?_
                refine lex.nil ?_
                refine hK16 _ _ ?_
                refine Wc.region (by decide +kernel) ?_
                refine lex.pure (v := .int .i64 v6_0) (pu_move e6) ?_
                obtain ⟨z116, h117, hb⟩ := bd hb
                refine lex.pure (v := .int .i64 z116) (pu_addc (a := v6_0) (b := 1) rfl rfl h117) ?_
                refine lex.pure (v := .int .i64 z116) (pu_assign rfl) ?_
                refine lex.nil ?_
                obtain rfl := Option.some.inj hb
                exact hK8 m9' _ _ (Nat.lt_succ_self _) ⟨(l5_0 ++ ([([z88, z90, z94] : List Int)] : List (List Int))), z116, A111, (l5_0 ++ ([([z88, z90, z94] : List Int)] : List (List Int))).length, c112, e0, e1, e4, rfl, rfl, (chk_rng h117), hC.sel [2] (by decide), lN hl0⟩
              · replace hb := (cF hq83).symm.trans hb
                refine Wc.skip ?_
                refine hK74 _ _ ?_
                refine Wc.region (by decide +kernel) ?_
                refine lex.pure (v := .slice Al5_0 l5_0.length cl5_0) (pu_move e5) ?_
                refine lex.pure (v := .slice Al7_3 l7_3.length cl7_3) (pu_move e7) ?_
                replace hC := hC.freeze (i := 1) rfl (hC.own_new (i := 1) rfl)
                refine lex.op (hC.lit (s := (.sl (.int .i64))) (vs := [.slice Al7_3 l7_3.length cl7_3]) (xs := [l7_3]) Try.underlying41 Try.type22 rfl rfl (Nat.le_of_ble_eq_true rfl) rfl rfl (by simp [Value.cells, Sh.n]) rfl (show Elems _ _ (.sl (.int .i64)) ([.slice Al7_3 l7_3.length cl7_3] ++ ([])) ([l7_3] : List (List Int)) from Elems.cons (hC.rd (i := 1) rfl) (Elems.nil _ _ _))) ?_
                rintro _ w122 ⟨A118, c119, rfl, hl120, hc121, hC, hF, hN⟩
                clear hF hN
                obtain ⟨u124, h125, hb⟩ := bd hb
                refine lex.op (hC.app (i := 1) (s := (.sl (.int .i64))) (xs := l5_0) (ys := ([l7_3] : List (List Int))) (m := ((([l7_3] : List (List Int))).length)) rfl Try.underlying41 Try.underlying41 Try.type22 rfl rfl rfl (hC.srco (i := 0) rfl) rfl rfl (by have := lim_some h125; simp at this ⊢ <;> omega) (by decide)) ?_
                rintro _ w130 ⟨A126, c127, rfl, hl128, hc129, hC, hF, hN⟩
                clear hF hN
                refine lex.pure (v := .slice A126 ((l5_0 ++ ([l7_3] : List (List Int))).length) c127) (pu_assign rfl) ?_
                refine lex.nil ?_
                refine hK16 _ _ ?_
                refine Wc.region (by decide +kernel) ?_
                refine lex.pure (v := .int .i64 v6_0) (pu_move e6) ?_
                obtain ⟨z131, h132, hb⟩ := bd hb
                refine lex.pure (v := .int .i64 z131) (pu_addc (a := v6_0) (b := 1) rfl rfl h132) ?_
                refine lex.pure (v := .int .i64 z131) (pu_assign rfl) ?_
                refine lex.nil ?_
                obtain rfl := Option.some.inj hb
                exact hK8 m9' _ _ (Nat.lt_succ_self _) ⟨(l5_0 ++ ([l7_3] : List (List Int))), z131, A126, (l5_0 ++ ([l7_3] : List (List Int))).length, c127, e0, e1, e4, rfl, rfl, (chk_rng h132), hC.sel [1] (by decide), lN hl0⟩
    · replace hb := (cF hq15).symm.trans hb
      refine Wc.exit rfl ?_
      obtain rfl := Option.some.inj hb
      obtain rfl := (lX hl0).symm
      exact hK7 _ _ ⟨l5_0, v6_0, Al5_0, l5_0.length, cl5_0, e4, e5, hrv6_0, hC.sel [0] (by decide), hbK0⟩
  · clear hb hC hl0
    rintro E134 w133 ⟨l5_0, v6_0, Al5_0, ml5_0, cl5_0, e4, e5, hrv6_0, hC, hb⟩
    obtain ⟨rfl, hll5_0, hcl5_0⟩ := (hC.ow (i := 0) rfl).sl_len
    refine hK3 _ _ ?_
    refine Wc.seq fun K135 hK135 => ?_
    refine Wc.region (by decide +kernel) ?_
    refine lex.pure (v := .slice Al5_0 l5_0.length cl5_0) (pu_move e5) ?_
    refine lex.pure (v := .slice Al5_0 l5_0.length cl5_0) (pu_assign rfl) ?_
    refine lex.nil ?_
    refine hK135 _ _ ?_
    obtain rfl := Option.some.inj hb
    refine Wc.ret ?_
    refine hKR _ _ ?_
    refine ⟨_, res1 Try.results38 (show RV _ _ _ (.tmp _) (.slice Al5_0 l5_0.length cl5_0) from rfl), _, rfl, Al5_0, l5_0.length, cl5_0, rfl, hC.sel [0] (by decide)⟩

set_option maxRecDepth 100000 in
set_option maxHeartbeats 4000000 in
theorem ref21_Inverse_ok (n : Nat) {w : World} {O0 : List Nat} (hO : ∀ k ∈ O0, k < w.heap.size) {Awx_0 : Option Addr} {mwx_0 cwx_0 : Nat} {wx_0 : List Int} (hwx_0 : Rep O0 w (.sl (.int .i64)) [.slice Awx_0 mwx_0 cwx_0] wx_0) {r : (List Int)} (hb : F.ref21_Inverse n wx_0 = some r) :
    Calls Try.prog 58 #[.slice Awx_0 mwx_0 cwx_0] w fun e w' => ∃ v, e = .returned v ∧ ∃ (A0 : Option Addr) (m0 c0 : Nat), v = .slice A0 m0 c0 ∧ Cx (fun _ => False) O0 w w' [.own 3 (.int .i64) (.slice A0 m0 c0) r] := by
  unfold F.ref21_Inverse at hb
  have hC := Cx.start hO
  replace hC := hC.arg rfl hwx_0
  clear hO
  obtain ⟨rfl, hlwx_0, hcwx_0⟩ := hwx_0.sl_len
  refine calls_of_Wc Try.func58 rfl (by rw [Try.ntmps58]; exact Nat.le_of_ble_eq_true rfl) fun KR hKR => ?_
  refine Wc.seq fun K2 hK2 => ?_
  refine Wc.region (by decide +kernel) ?_
  refine lex.pure (v := .slice none 0 0) (pu_assign rfl) ?_
  refine lex.nil ?_
  refine hK2 _ _ ?_
  refine Wc.seq fun K3 hK3 => ?_
  refine Wc.region (by decide +kernel) ?_
  refine lex.pure (v := .slice none 0 0) (pu_assign rfl) ?_
  refine lex.nil ?_
  refine hK3 _ _ ?_
  refine Wc.seq fun K4 hK4 => ?_
  refine Wc.seq fun K5 hK5 => ?_
  refine Wc.region (by decide +kernel) ?_
  refine lex.pure (v := .slice Awx_0 wx_0.length cwx_0) (pu_move rfl) ?_
  refine lex.pure (v := .int .i64 (wx_0.length : Int)) (pu_len (A := Awx_0) (n := wx_0.length) (m := cwx_0) Try.underlying22 rfl) ?_
  obtain ⟨z6, h7, hb⟩ := bd hb
  refine lex.pure (v := .int .i64 z6) (pu_subc (a := (wx_0.length : Int)) (b := 1) rfl rfl h7) ?_
  refine lex.pure (v := .int .i64 z6) (pu_assign rfl) ?_
  refine lex.nil ?_
  refine hK5 _ _ ?_
  replace hC := hC.nil 3 (.int .i64)
  obtain ⟨o9, hl0, hb⟩ := bd hb
  refine Wc.cut (fun E wv => ∃ (l3_0 : List Int) (v4_0 : Int) (Al3_0 : Option Addr) (ml3_0 cl3_0 : Nat), E 2 = .slice none 0 0 ∧ E 3 = .slice Al3_0 ml3_0 cl3_0 ∧ I64 v4_0 ∧ Cx (fun _ => False) O0 w wv [.own 3 (.int .i64) (.slice Al3_0 ml3_0 cl3_0) l3_0] ∧ ((F.ref21_Reduce n l3_0).bind fun y46 => some y46 : Option ((List Int))) = some r) (fun K10 hK10 => ?_) ?_
  · refine Wc.block ?_
    refine Wc.loop (fun m E wv => ∃ (l3_0 : List Int) (v4_0 : Int) (Al3_0 : Option Addr) (ml3_0 cl3_0 : Nat), E 0 = .slice Awx_0 wx_0.length cwx_0 ∧ E 2 = .slice none 0 0 ∧ E 3 = .slice Al3_0 ml3_0 cl3_0 ∧ E 4 = .int .i64 v4_0 ∧ I64 v4_0 ∧ Cx (fun _ => False) O0 w wv [.ro (.sl (.int .i64)) [.slice Awx_0 wx_0.length cwx_0] wx_0, .own 3 (.int .i64) (.slice Al3_0 ml3_0 cl3_0) l3_0] ∧ loopN m (F.ref21_Inverse_b0 n wx_0) (l3_0, v4_0) = some o9) n ⟨([] : List Int), z6, none, 0, 0, rfl, rfl, rfl, rfl, (chk_rng h7), hC.sel [1, 0] (by decide), hl0⟩ ?_
    have hbK0 := hb
    clear hb hC hl0
    rintro m12 E14 w13 ⟨l3_0, v4_0, Al3_0, ml3_0, cl3_0, e0, e2, e3, e4, hrv4_0, hC, hl0⟩ K11 hK11
    obtain ⟨m12', o15, rfl, hb, hl0⟩ := loopN_some hl0
    unfold F.ref21_Inverse_b0 at hb
    obtain ⟨rfl, hll3_0, hcl3_0⟩ := (hC.ow (i := 1) rfl).sl_len
    refine Wc.seq fun K16 hK16 => ?_
    refine Wc.seq fun K17 hK17 => ?_
    refine Wc.region (by decide +kernel) ?_
    refine lex.pure (v := .int .i64 v4_0) (pu_move e4) ?_
    refine lex.pure (v := .bool (decide (0 ≤ v4_0))) (pu_geq (k := .i64) (a := v4_0) (b := 0) rfl rfl) ?_
    refine lex.nil ?_
    refine hK17 _ _ ?_
    refine Wc.cond (t := (decide (0 ≤ v4_0))) (rfl) (fun hq18 => ?_) (fun hq18 => ?_)
    · replace hb := (cT hq18).symm.trans hb
      refine Wc.skip ?_
      refine hK16 _ _ ?_
      refine Wc.seq fun K19 hK19 => ?_
      refine Wc.block ?_
      refine Wc.region (by decide +kernel) ?_
      refine lex.pure (v := .slice Al3_0 l3_0.length cl3_0) (pu_move e3) ?_
      refine lex.pure (v := .slice Awx_0 wx_0.length cwx_0) (pu_move e0) ?_
      refine lex.pure (v := .int .i64 v4_0) (pu_move e4) ?_
      obtain ⟨x20, h21, hb⟩ := bd hb
      obtain ⟨ad22, cs23, hA, hc24, hr25⟩ := hC.elr (i := 0) rfl (get_some h21).2
      subst hA
      refine lex.pure (v := .pointer (some (ad22.add (v4_0.toNat * 1)))) (pu_index (a := v4_0) Try.underlying22 Try.sizeOf3 rfl rfl (get_some h21).1) ?_
      obtain ⟨rfl, hr25'⟩ := hr25
      refine lex.val (v := .int .i64 x20) (ld_one Try.isAgg3 rfl (hc24 0 _ rfl)) ?_
      obtain ⟨z26, h27, hb⟩ := bd hb
      refine lex.pure (v := .int .i64 z26) (pu_negc (a := x20) rfl h27) ?_
      refine lex.op (hC.lit (s := (.int .i64)) (vs := [.int .i64 z26]) (xs := [z26]) Try.underlying22 Try.type3 rfl rfl (Nat.le_of_ble_eq_true rfl) rfl rfl (by simp [Value.cells, Sh.n]) rfl (show Elems _ _ (.int .i64) ([.int .i64 z26] ++ ([])) ([z26] : List Int) from Elems.cons (⟨rfl, I64.wr (chk_rng h27)⟩) (Elems.nil _ _ _))) ?_
      rintro _ w32 ⟨A28, c29, rfl, hl30, hc31, hC, hF, hN⟩
      clear hF hN
      obtain ⟨u34, h35, hb⟩ := bd hb
      refine lex.op (hC.app (i := 2) (s := (.int .i64)) (xs := l3_0) (ys := ([z26] : List Int)) (m := ((([z26] : List Int)).length)) rfl Try.underlying22 Try.underlying22 Try.type3 rfl rfl rfl (hC.srco (i := 0) rfl) rfl rfl (by have := lim_some h35; simp at this ⊢ <;> omega) (by decide)) ?_
      rintro _ w40 ⟨A36, c37, rfl, hl38, hc39, hC, hF, hN⟩
      clear hF hN
      refine lex.pure (v := .slice A36 ((l3_0 ++ ([z26] : List Int)).length) c37) (pu_assign rfl) ?_
      refine lex.nil ?_
      refine hK19 _ _ ?_
      refine Wc.region (by decide +kernel) ?_
      refine lex.pure (v := .int .i64 v4_0) (pu_move e4) ?_
      obtain ⟨z41, h42, hb⟩ := bd hb
      refine lex.pure (v := .int .i64 z41) (pu_subc (a := v4_0) (b := 1) rfl rfl h42) ?_
      refine lex.pure (v := .int .i64 z41) (pu_assign rfl) ?_
      refine lex.nil ?_
      obtain rfl := Option.some.inj hb
      exact hK11 m12' _ _ (Nat.lt_succ_self _) ⟨(l3_0 ++ ([z26] : List Int)), z41, A36, (l3_0 ++ ([z26] : List Int)).length, c37, e0, e2, rfl, rfl, (chk_rng h42), hC.sel [1, 2] (by decide), lN hl0⟩
    · replace hb := (cF hq18).symm.trans hb
      refine Wc.exit rfl ?_
      obtain rfl := Option.some.inj hb
      obtain rfl := (lX hl0).symm
      exact hK10 _ _ ⟨l3_0, v4_0, Al3_0, l3_0.length, cl3_0, e2, e3, hrv4_0, hC.sel [1] (by decide), hbK0⟩
  · clear hb hC hl0
    rintro E44 w43 ⟨l3_0, v4_0, Al3_0, ml3_0, cl3_0, e2, e3, hrv4_0, hC, hb⟩
    obtain ⟨rfl, hll3_0, hcl3_0⟩ := (hC.ow (i := 0) rfl).sl_len
    refine hK4 _ _ ?_
    refine Wc.seq fun K45 hK45 => ?_
    refine Wc.region (by decide +kernel) ?_
    refine lex.pure (v := .slice Al3_0 l3_0.length cl3_0) (pu_move e3) ?_
    obtain ⟨y46, h47, hb⟩ := bd hb
    refine lex.cl (⟨_, _, op_call (vs := [.slice Al3_0 l3_0.length cl3_0]) Try.call36 rfl rfl rfl, ref21_Reduce_ok n (hC.lentLt [.slice Al3_0 l3_0.length cl3_0]) ((hC.ow (i := 0) rfl).lend (vs := [.slice Al3_0 l3_0.length cl3_0]) (by simp)) h47⟩) ?_
    rintro _ w52 ⟨A48, m49, c50, rfl, hK⟩
    replace hC := hC.mergeF hK rfl
    clear hK
    obtain ⟨rfl, hl53, hc54⟩ := (hC.ow (i := 0) rfl).sl_len
    refine lex.pure (v := .slice A48 y46.length c50) (pu_assign rfl) ?_
    refine lex.nil ?_
    refine hK45 _ _ ?_
    obtain rfl := Option.some.inj hb
    refine Wc.ret ?_
    refine hKR _ _ ?_
    refine ⟨_, res1 Try.results58 (show RV _ _ _ (.tmp _) (.slice A48 y46.length c50) from rfl), _, rfl, A48, y46.length, c50, rfl, hC.sel [0] (by decide)⟩

set_option maxRecDepth 100000 in
set_option maxHeartbeats 4000000 in
theorem ref21_Substitute_ok (n : Nat) {w : World} {O0 : List Nat} (hO : ∀ k ∈ O0, k < w.heap.size) {Awx_0 : Option Addr} {mwx_0 cwx_0 : Nat} {wx_0 : List Int} (hwx_0 : Rep O0 w (.sl (.int .i64)) [.slice Awx_0 mwx_0 cwx_0] wx_0) {Aimages_1 : Option Addr} {mimages_1 cimages_1 : Nat} {images_1 : List (List Int)} (himages_1 : Rep O0 w (.sl (.sl (.int .i64))) [.slice Aimages_1 mimages_1 cimages_1] images_1) {r : (List Int)} (hb : F.ref21_Substitute n wx_0 images_1 = some r) :
    Calls Try.prog 37 #[.slice Awx_0 mwx_0 cwx_0, .slice Aimages_1 mimages_1 cimages_1] w fun e w' => ∃ v, e = .returned v ∧ ∃ (A0 : Option Addr) (m0 c0 : Nat), v = .slice A0 m0 c0 ∧ Cx (fun _ => False) O0 w w' [.own 3 (.int .i64) (.slice A0 m0 c0) r] := by
  unfold F.ref21_Substitute at hb
  have hC := Cx.start hO
  replace hC := hC.arg rfl hwx_0
  replace hC := hC.arg rfl himages_1
  clear hO
  obtain ⟨rfl, hlwx_0, hcwx_0⟩ := hwx_0.sl_len
  obtain ⟨rfl, hlimages_1, hcimages_1⟩ := himages_1.sl_len
  refine calls_of_Wc Try.func37 rfl (by rw [Try.ntmps37]; exact Nat.le_of_ble_eq_true rfl) fun KR hKR => ?_
  refine Wc.seq fun K3 hK3 => ?_
  refine Wc.region (by decide +kernel) ?_
  refine lex.pure (v := .slice none 0 0) (pu_assign rfl) ?_
  refine lex.nil ?_
  refine hK3 _ _ ?_
  refine Wc.seq fun K4 hK4 => ?_
  refine Wc.region (by decide +kernel) ?_
  refine lex.pure (v := .slice none 0 0) (pu_assign rfl) ?_
  refine lex.nil ?_
  refine hK4 _ _ ?_
  refine Wc.seq fun K5 hK5 => ?_
  refine Wc.seq fun K6 hK6 => ?_
  refine Wc.region (by decide +kernel) ?_
  refine lex.pure (v := .int .i64 0) (pu_assign rfl) ?_
  refine lex.nil ?_
  refine hK6 _ _ ?_
  replace hC := hC.nil 3 (.int .i64)
  obtain ⟨o8, hl0, hb⟩ := bd hb
  refine Wc.cut (fun E wv => ∃ (l5_0 : List Int) (v6_0 : Int) (Al5_0 : Option Addr) (ml5_0 cl5_0 : Nat), E 4 = .slice none 0 0 ∧ E 5 = .slice Al5_0 ml5_0 cl5_0 ∧ I64 v6_0 ∧ Cx (fun _ => False) O0 w wv [.own 3 (.int .i64) (.slice Al5_0 ml5_0 cl5_0) l5_0] ∧ ((F.ref21_Reduce n l5_0).bind fun y97 => some y97 : Option ((List Int))) = some r) (fun K9 hK9 => ?_) ?_
  · refine Wc.block ?_
    refine Wc.loop (fun m E wv => ∃ (l5_0 : List Int) (v6_0 : Int) (Al5_0 : Option Addr) (ml5_0 cl5_0 : Nat), E 0 = .slice Awx_0 wx_0.length cwx_0 ∧ E 1 = .slice Aimages_1 images_1.length cimages_1 ∧ E 4 = .slice none 0 0 ∧ E 5 = .slice Al5_0 ml5_0 cl5_0 ∧ E 6 = .int .i64 v6_0 ∧ I64 v6_0 ∧ Cx (fun _ => False) O0 w wv [.ro (.sl (.int .i64)) [.slice Awx_0 wx_0.length cwx_0] wx_0, .ro (.sl (.sl (.int .i64))) [.slice Aimages_1 images_1.length cimages_1] images_1, .own 3 (.int .i64) (.slice Al5_0 ml5_0 cl5_0) l5_0] ∧ loopN m (F.ref21_Substitute_b0 n wx_0 images_1) (l5_0, v6_0) = some o8) n ⟨([] : List Int), 0, none, 0, 0, rfl, rfl, rfl, rfl, rfl, (show I64 0 from by unfold I64; omega), hC.sel [2, 1, 0] (by decide), hl0⟩ ?_
    have hbK0 := hb
    clear hb hC hl0
    rintro m11 E13 w12 ⟨l5_0, v6_0, Al5_0, ml5_0, cl5_0, e0, e1, e4, e5, e6, hrv6_0, hC, hl0⟩ K10 hK10
    obtain ⟨m11', o14, rfl, hb, hl0⟩ := loopN_some hl0
    unfold F.ref21_Substitute_b0 at hb
    obtain ⟨rfl, hll5_0, hcl5_0⟩ := (hC.ow (i := 2) rfl).sl_len
    refine Wc.seq fun K15 hK15 => ?_
    refine Wc.seq fun K16 hK16 => ?_
    refine Wc.region (by decide +kernel) ?_
    refine lex.pure (v := .int .i64 v6_0) (pu_move e6) ?_
    refine lex.pure (v := .slice Awx_0 wx_0.length cwx_0) (pu_move e0) ?_
    refine lex.pure (v := .int .i64 (wx_0.length : Int)) (pu_len (A := Awx_0) (n := wx_0.length) (m := cwx_0) Try.underlying22 rfl) ?_
    refine lex.pure (v := .bool (decide (v6_0 < (wx_0.length : Int)))) (pu_lss (k := .i64) (a := v6_0) (b := (wx_0.length : Int)) rfl rfl) ?_
    refine lex.nil ?_
    refine hK16 _ _ ?_
    refine Wc.cond (t := (decide (v6_0 < (wx_0.length : Int)))) (rfl) (fun hq17 => ?_) (fun hq17 => ?_)
    · replace hb := (cT hq17).symm.trans hb
      refine Wc.skip ?_
      refine hK15 _ _ ?_
      refine Wc.seq fun K18 hK18 => ?_
      refine Wc.block ?_
      refine Wc.seq fun K19 hK19 => ?_
      refine Wc.region (by decide +kernel) ?_
      refine lex.pure (v := .slice Awx_0 wx_0.length cwx_0) (pu_move e0) ?_
      refine lex.pure (v := .int .i64 v6_0) (pu_move e6) ?_
      obtain ⟨x20, h21, hb⟩ := bd hb
      obtain ⟨ad22, cs23, hA, hc24, hr25⟩ := hC.elr (i := 0) rfl (get_some h21).2
      subst hA
      refine lex.pure (v := .pointer (some (ad22.add (v6_0.toNat * 1)))) (pu_index (a := v6_0) Try.underlying22 Try.sizeOf3 rfl rfl (get_some h21).1) ?_
      obtain ⟨rfl, hr25'⟩ := hr25
      refine lex.val (v := .int .i64 x20) (ld_one Try.isAgg3 rfl (hc24 0 _ rfl)) ?_
      refine lex.pure (v := .bool (decide (0 < x20))) (pu_gtr (k := .i64) (a := x20) (b := 0) rfl rfl) ?_
      refine lex.nil ?_
      refine hK19 _ _ ?_
      refine Wc.cond (t := (decide (0 < x20))) (rfl) (fun hq26 => ?_) (fun hq26 => ?_)
      · replace hb := (cT hq26).symm.trans hb
        refine Wc.region (by decide +kernel) ?_
        refine lex.pure (v := .slice Al5_0 l5_0.length cl5_0) (pu_move e5) ?_
        refine lex.pure (v := .slice Aimages_1 images_1.length cimages_1) (pu_move e1) ?_
        refine lex.pure (v := .slice (some ad22) wx_0.length cwx_0) (pu_move e0) ?_
        refine lex.pure (v := .int .i64 v6_0) (pu_move e6) ?_
        obtain ⟨x27, h28, hb⟩ := bd hb
        obtain ⟨ad29, cs30, hA, hc31, hr32⟩ := hC.elr (i := 0) rfl (get_some h28).2
        obtain rfl := Option.some.inj hA
        refine lex.pure (v := .pointer (some (ad22.add (v6_0.toNat * 1)))) (pu_index (a := v6_0) Try.underlying22 Try.sizeOf3 rfl rfl (get_some h28).1) ?_
        obtain ⟨rfl, hr32'⟩ := hr32
        refine lex.val (v := .int .i64 x27) (ld_one Try.isAgg3 rfl (hc31 0 _ rfl)) ?_
        obtain ⟨z33, h34, hb⟩ := bd hb
        refine lex.pure (v := .int .i64 z33) (pu_subc (a := x27) (b := 1) rfl rfl h34) ?_
        obtain ⟨x35, h36, hb⟩ := bd hb
        obtain ⟨ad37, cs38, hA, hc39, hr40⟩ := hC.elr (i := 1) rfl (get_some h36).2
        subst hA
        refine lex.pure (v := .pointer (some (ad37.add (z33.toNat * 1)))) (pu_index (a := z33) Try.underlying41 Try.sizeOf22 rfl rfl (get_some h36).1) ?_
        have hR := hr40
        obtain ⟨A41, c42, rfl, hl43, hc44, _⟩ := hr40
        replace hC := hC.ro hR
        clear hR
        refine lex.val (v := .slice A41 x35.length c42) (ld_one Try.isAgg22 rfl (hc39 0 _ rfl)) ?_
        obtain ⟨u46, h47, hb⟩ := bd hb
        refine lex.op (hC.app (i := 3) (s := (.int .i64)) (xs := l5_0) (ys := x35) (m := x35.length) rfl Try.underlying22 Try.underlying22 Try.type3 rfl rfl rfl (hC.srcr (i := 0) rfl) rfl rfl (by have := lim_some h47; simp at this ⊢ <;> omega) (by decide)) ?_
        rintro _ w52 ⟨A48, c49, rfl, hl50, hc51, hC, hF, hN⟩
        clear hF hN
        refine lex.pure (v := .slice A48 ((l5_0 ++ x35).length) c49) (pu_assign rfl) ?_
        refine lex.nil ?_
        refine hK18 _ _ ?_
        refine Wc.region (by decide +kernel) ?_
        refine lex.pure (v := .int .i64 v6_0) (pu_move e6) ?_
        obtain ⟨z53, h54, hb⟩ := bd hb
        refine lex.pure (v := .int .i64 z53) (pu_addc (a := v6_0) (b := 1) rfl rfl h54) ?_
        refine lex.pure (v := .int .i64 z53) (pu_assign rfl) ?_
        refine lex.nil ?_
        obtain rfl := Option.some.inj hb
        exact hK10 m11' _ _ (Nat.lt_succ_self _) ⟨(l5_0 ++ x35), z53, A48, (l5_0 ++ x35).length, c49, e0, e1, e4, rfl, rfl, (chk_rng h54), hC.sel [1, 2, 3] (by decide), lN hl0⟩
      · replace hb := (cF hq26).symm.trans hb
        refine Wc.region (by decide +kernel) ?_
        refine lex.pure (v := .slice Al5_0 l5_0.length cl5_0) (pu_move e5) ?_
        refine lex.pure (v := .slice Aimages_1 images_1.length cimages_1) (pu_move e1) ?_
        refine lex.pure (v := .slice (some ad22) wx_0.length cwx_0) (pu_move e0) ?_
        refine lex.pure (v := .int .i64 v6_0) (pu_move e6) ?_
        obtain ⟨x55, h56, hb⟩ := bd hb
        obtain ⟨ad57, cs58, hA, hc59, hr60⟩ := hC.elr (i := 0) rfl (get_some h56).2
        obtain rfl := Option.some.inj hA
        refine lex.pure (v := .pointer (some (ad22.add (v6_0.toNat * 1)))) (pu_index (a := v6_0) Try.underlying22 Try.sizeOf3 rfl rfl (get_some h56).1) ?_
        obtain ⟨rfl, hr60'⟩ := hr60
        refine lex.val (v := .int .i64 x55) (ld_one Try.isAgg3 rfl (hc59 0 _ rfl)) ?_
        obtain ⟨z61, h62, hb⟩ := bd hb
        refine lex.pure (v := .int .i64 z61) (pu_negc (a := x55) rfl h62) ?_
        obtain ⟨z63, h64, hb⟩ := bd hb
        refine lex.pure (v := .int .i64 z63) (pu_subc (a := z61) (b := 1) rfl rfl h64) ?_
        obtain ⟨x65, h66, hb⟩ := bd hb
        obtain ⟨ad67, cs68, hA, hc69, hr70⟩ := hC.elr (i := 1) rfl (get_some h66).2
        subst hA
        refine lex.pure (v := .pointer (some (ad67.add (z63.toNat * 1)))) (pu_index (a := z63) Try.underlying41 Try.sizeOf22 rfl rfl (get_some h66).1) ?_
        have hR := hr70
        obtain ⟨A71, c72, rfl, hl73, hc74, _⟩ := hr70
        replace hC := hC.ro hR
        clear hR
        refine lex.val (v := .slice A71 x65.length c72) (ld_one Try.isAgg22 rfl (hc69 0 _ rfl)) ?_
        obtain ⟨y76, h77, hb⟩ := bd hb
        refine lex.cl (⟨_, _, op_call (vs := [.slice A71 x65.length c72]) Try.call58 rfl rfl rfl, ref21_Inverse_ok n hC.lt (hC.rd (i := 0) rfl) h77⟩) ?_
        rintro _ w82 ⟨A78, m79, c80, rfl, hK⟩
        replace hC := hC.merge hK
        clear hK
        obtain ⟨rfl, hl83, hc84⟩ := (hC.ow (i := 0) rfl).sl_len
        obtain ⟨u85, h86, hb⟩ := bd hb
        refine lex.op (hC.app (i := 4) (s := (.int .i64)) (xs := l5_0) (ys := y76) (m := y76.length) rfl Try.underlying22 Try.underlying22 Try.type3 rfl rfl rfl (hC.srco (i := 0) rfl) rfl rfl (by have := lim_some h86; simp at this ⊢ <;> omega) (by decide)) ?_
        rintro _ w91 ⟨A87, c88, rfl, hl89, hc90, hC, hF, hN⟩
        clear hF hN
        refine lex.pure (v := .slice A87 ((l5_0 ++ y76).length) c88) (pu_assign rfl) ?_
        refine lex.nil ?_
        refine hK18 _ _ ?_
        refine Wc.region (by decide +kernel) ?_
        refine lex.pure (v := .int .i64 v6_0) (pu_move e6) ?_
        obtain ⟨z92, h93, hb⟩ := bd hb
        refine lex.pure (v := .int .i64 z92) (pu_addc (a := v6_0) (b := 1) rfl rfl h93) ?_
        refine lex.pure (v := .int .i64 z92) (pu_assign rfl) ?_
        refine lex.nil ?_
        obtain rfl := Option.some.inj hb
        exact hK10 m11' _ _ (Nat.lt_succ_self _) ⟨(l5_0 ++ y76), z92, A87, (l5_0 ++ y76).length, c88, e0, e1, e4, rfl, rfl, (chk_rng h93), hC.sel [2, 3, 4] (by decide), lN hl0⟩
    · replace hb := (cF hq17).symm.trans hb
      refine Wc.exit rfl ?_
      obtain rfl := Option.some.inj hb
      obtain rfl := (lX hl0).symm
      exact hK9 _ _ ⟨l5_0, v6_0, Al5_0, l5_0.length, cl5_0, e4, e5, hrv6_0, hC.sel [2] (by decide), hbK0⟩
  · clear hb hC hl0
    rintro E95 w94 ⟨l5_0, v6_0, Al5_0, ml5_0, cl5_0, e4, e5, hrv6_0, hC, hb⟩
    obtain ⟨rfl, hll5_0, hcl5_0⟩ := (hC.ow (i := 0) rfl).sl_len
    refine hK5 _ _ ?_
    refine Wc.seq fun K96 hK96 => ?_
    refine Wc.region (by decide +kernel) ?_
    refine lex.pure (v := .slice Al5_0 l5_0.length cl5_0) (pu_move e5) ?_
    obtain ⟨y97, h98, hb⟩ := bd hb
    refine lex.cl (⟨_, _, op_call (vs := [.slice Al5_0 l5_0.length cl5_0]) Try.call36 rfl rfl rfl, ref21_Reduce_ok n (hC.lentLt [.slice Al5_0 l5_0.length cl5_0]) ((hC.ow (i := 0) rfl).lend (vs := [.slice Al5_0 l5_0.length cl5_0]) (by simp)) h98⟩) ?_
    rintro _ w103 ⟨A99, m100, c101, rfl, hK⟩
    replace hC := hC.mergeF hK rfl
    clear hK
    obtain ⟨rfl, hl104, hc105⟩ := (hC.ow (i := 0) rfl).sl_len
    refine lex.pure (v := .slice A99 y97.length c101) (pu_assign rfl) ?_
    refine lex.nil ?_
    refine hK96 _ _ ?_
    obtain rfl := Option.some.inj hb
    refine Wc.ret ?_
    refine hKR _ _ ?_
    refine ⟨_, res1 Try.results37 (show RV _ _ _ (.tmp _) (.slice A99 y97.length c101) from rfl), _, rfl, A99, y97.length, c101, rfl, hC.sel [0] (by decide)⟩
end Go.Proofs.Ytlkmcbgkohpmiaa
