/- The walks: part 5. -/
import Derived.Test.YtkjpldmelafooaaS
set_option linter.unusedVariables false
set_option linter.unusedSimpArgs false
namespace Go.Proofs.Ytkjpldmelafooaa
open Ev
set_option maxRecDepth 100000 in
set_option maxHeartbeats 4000000 in
theorem ref33_Abs_ok (n : Nat) {w : World} {O0 : List Nat} (hO : ∀ k ∈ O0, k < w.heap.size) {nx_0 : Int} (hnx_0 : I64 nx_0) {r : Int} (hb : F.ref33_Abs n nx_0 = some r) :
    Calls Try.prog 34 #[.int .i64 nx_0] w fun e w' => ∃ v, e = .returned v ∧ v = .int .i64 r ∧ I64 r ∧ Cx (fun _ => False) O0 w w' [] := by
  unfold F.ref33_Abs at hb
  have hC := Cx.start hO
  clear hO
  refine calls_of_Wc Try.func34 rfl (by rw [Try.ntmps34]; exact Nat.le_of_ble_eq_true rfl) fun KR hKR => ?_
  refine Wc.seq fun K1 hK1 => ?_
  refine Wc.region (by decide +kernel) ?_
  refine lex.pure (v := .int .i64 0) (pu_assign rfl) ?_
  refine lex.nil ?_
  refine hK1 _ _ ?_
  refine Wc.seq fun K2 hK2 => ?_
  refine Wc.seq fun K3 hK3 => ?_
  refine Wc.region (by decide +kernel) ?_
  refine lex.pure (v := .int .i64 nx_0) (pu_move rfl) ?_
  refine lex.pure (v := .bool (decide (nx_0 < 0))) (pu_lss (k := .i64) (a := nx_0) (b := 0) rfl rfl) ?_
  refine lex.nil ?_
  refine hK3 _ _ ?_
  refine Wc.cond (t := (decide (nx_0 < 0))) (rfl) (fun hq4 => ?_) (fun hq4 => ?_)
  · replace hb := (cT hq4).symm.trans hb
    refine Wc.seq fun K5 hK5 => ?_
    refine Wc.region (by decide +kernel) ?_
    refine lex.pure (v := .int .i64 nx_0) (pu_move rfl) ?_
    obtain ⟨z6, h7, hb⟩ := bd hb
    refine lex.pure (v := .int .i64 z6) (pu_negc (a := nx_0) rfl h7) ?_
    refine lex.pure (v := .int .i64 z6) (pu_assign rfl) ?_
    refine lex.nil ?_
    refine hK5 _ _ ?_
    obtain rfl := Option.some.inj hb
    refine Wc.ret ?_
    refine hKR _ _ ?_
    refine ⟨_, res1 Try.results34 (show RV _ _ _ (.tmp _) (.int .i64 z6) from rfl), _, rfl, rfl, (chk_rng h7), hC.sel [] (by decide)⟩
  · replace hb := (cF hq4).symm.trans hb
    refine Wc.skip ?_
    refine hK2 _ _ ?_
    refine Wc.seq fun K8 hK8 => ?_
    refine Wc.region (by decide +kernel) ?_
    refine lex.pure (v := .int .i64 nx_0) (pu_move rfl) ?_
    refine lex.pure (v := .int .i64 nx_0) (pu_assign rfl) ?_
    refine lex.nil ?_
    refine hK8 _ _ ?_
    obtain rfl := Option.some.inj hb
    refine Wc.ret ?_
    refine hKR _ _ ?_
    refine ⟨_, res1 Try.results34 (show RV _ _ _ (.tmp _) (.int .i64 nx_0) from rfl), _, rfl, rfl, hnx_0, hC.sel [] (by decide)⟩

set_option maxRecDepth 100000 in
set_option maxHeartbeats 4000000 in
theorem ref36_splice_ok (n : Nat) {w : World} {O0 : List Nat} (hO : ∀ k ∈ O0, k < w.heap.size) {Awx_0 : Option Addr} {mwx_0 cwx_0 : Nat} {wx_0 : List Int} (hwx_0 : Rep O0 w (.sl (.int .i64)) [.slice Awx_0 mwx_0 cwx_0] wx_0) {at_1 : Int} (hat_1 : I64 at_1) {many_2 : Int} (hmany_2 : I64 many_2) {Aby_3 : Option Addr} {mby_3 cby_3 : Nat} {by_3 : List Int} (hby_3 : Rep O0 w (.sl (.int .i64)) [.slice Aby_3 mby_3 cby_3] by_3) {r : (List Int)} (hb : F.ref36_splice n wx_0 at_1 many_2 by_3 = some r) :
    Calls Try.prog 35 #[.slice Awx_0 mwx_0 cwx_0, .int .i64 at_1, .int .i64 many_2, .slice Aby_3 mby_3 cby_3] w fun e w' => ∃ v, e = .returned v ∧ ∃ (A0 : Option Addr) (m0 c0 : Nat), v = .slice A0 m0 c0 ∧ Cx (fun _ => False) O0 w w' [.own 3 (.int .i64) (.slice A0 m0 c0) r] := by
  unfold F.ref36_splice at hb
  have hC := Cx.start hO
  replace hC := hC.arg rfl hwx_0
  replace hC := hC.arg rfl hby_3
  clear hO
  obtain ⟨rfl, hlwx_0, hcwx_0⟩ := hwx_0.sl_len
  obtain ⟨rfl, hlby_3, hcby_3⟩ := hby_3.sl_len
  refine calls_of_Wc Try.func35 rfl (by rw [Try.ntmps35]; exact Nat.le_of_ble_eq_true rfl) fun KR hKR => ?_
  refine Wc.seq fun K3 hK3 => ?_
  refine Wc.region (by decide +kernel) ?_
  refine lex.pure (v := .slice none 0 0) (pu_assign rfl) ?_
  refine lex.nil ?_
  refine hK3 _ _ ?_
  refine Wc.seq fun K4 hK4 => ?_
  refine Wc.regionMix [] (frm [] ([] : List Fact) ([] : List Fact)) (fun _ => rfl) mixed (by decide +kernel) (by decide +kernel) fun w6 hw5 => ?_
  replace hC := hC.step (Fr.of_drew hw5)
  have hM := Fr.refl (fun k => k ∈ blocks ([] : List Fact)) w6
  clear hw5
  have hS := hC
  refine mixE.op hM (hC.lit (s := (.int .i64)) (vs := []) (xs := []) Try.underlying22 Try.type3 rfl rfl (Nat.le_of_ble_eq_true rfl) rfl rfl (by simp [Value.cells, Sh.n]) rfl (show Elems _ _ (.int .i64) ([]) ([] : List Int) from Elems.nil _ _ _)) ?_
  rintro _ w11 ⟨A7, c8, rfl, hl9, hc10, hC, hF, hN⟩
  have hBf12 := Beside.new hM hN
  replace hM := hM.none hF
  refine ⟨hM, ?_⟩
  clear hF hN
  refine mixE.pure (v := .slice Awx_0 wx_0.length cwx_0) (pu_move rfl) ?_
  refine mixE.pure (v := .int .i64 at_1) (pu_move rfl) ?_
  obtain ⟨u13, h14, hb⟩ := bd hb
  obtain ⟨A15, c16, hp19, hR20⟩ := pu_part_h (b := at_1) Try.underlying22 Try.sizeOf3 (hC.rd (i := 2) rfl) rfl (cut_some h14)
  refine mixE.pure (v := .slice A15 (((wx_0.drop (0 : Int).toNat).take (at_1.toNat - (0 : Int).toNat)).length) c16) (hp19 rfl  rfl) ?_
  replace hC := hC.ro hR20
  obtain ⟨-, hl17, hc18⟩ := (hC.rd (i := 0) rfl).sl_len
  obtain ⟨u22, h23, hb⟩ := bd hb
  refine mixE.op hM (hC.app (i := 1) (s := (.int .i64)) (xs := ([] : List Int)) (ys := ((wx_0.drop (0 : Int).toNat).take (at_1.toNat - (0 : Int).toNat))) (m := (((wx_0.drop (0 : Int).toNat).take (at_1.toNat - (0 : Int).toNat)).length)) rfl Try.underlying22 Try.underlying22 Try.type3 rfl rfl rfl (hC.srcr (i := 0) rfl) rfl rfl (by have := lim_some h23; simp at this ⊢; omega) (by decide)) ?_
  rintro _ w28 ⟨A24, c25, rfl, hl26, hc27, hC, hF, hN⟩
  have hB := hBf12
  replace hBf12 := hB.app hM hN
  replace hM := hM.beside hB hF
  clear hB
  refine ⟨hM, ?_⟩
  clear hF hN
  refine mixE.pure (v := .slice Aby_3 by_3.length cby_3) (pu_move rfl) ?_
  obtain ⟨u29, h30, hb⟩ := bd hb
  refine mixE.op hM (hC.app (i := 1) (s := (.int .i64)) (xs := (([] : List Int) ++ ((wx_0.drop (0 : Int).toNat).take (at_1.toNat - (0 : Int).toNat)))) (ys := by_3) (m := by_3.length) rfl Try.underlying22 Try.underlying22 Try.type3 rfl rfl rfl (hC.srcr (i := 2) rfl) rfl rfl (by have := lim_some h30; simp at this ⊢; omega) (by decide)) ?_
  rintro _ w35 ⟨A31, c32, rfl, hl33, hc34, hC, hF, hN⟩
  have hB := hBf12
  replace hBf12 := hB.app hM hN
  replace hM := hM.beside hB hF
  clear hB
  refine ⟨hM, ?_⟩
  clear hF hN
  refine mixE.pure (v := .slice Awx_0 wx_0.length cwx_0) (pu_move rfl) ?_
  refine mixE.pure (v := .int .i64 at_1) (pu_move rfl) ?_
  refine mixE.pure (v := .int .i64 many_2) (pu_move rfl) ?_
  obtain ⟨z36, h37, hb⟩ := bd hb
  refine mixE.pure (v := .int .i64 z36) (pu_addc (a := at_1) (b := many_2) rfl rfl h37) ?_
  obtain ⟨u38, h39, hb⟩ := bd hb
  obtain ⟨A40, c41, hp44, hR45⟩ := pu_part_l (a := z36)  Try.underlying22 Try.sizeOf3 (hC.rd (i := 3) rfl) rfl (cut_some h39)
  refine mixE.pure (v := .slice A40 (((wx_0.drop z36.toNat).take ((wx_0.length : Int).toNat - z36.toNat)).length) c41) (hp44 rfl rfl ) ?_
  replace hC := hC.ro hR45
  obtain ⟨-, hl42, hc43⟩ := (hC.rd (i := 0) rfl).sl_len
  obtain ⟨u47, h48, hb⟩ := bd hb
  refine mixE.op hM (hC.app (i := 2) (s := (.int .i64)) (xs := ((([] : List Int) ++ ((wx_0.drop (0 : Int).toNat).take (at_1.toNat - (0 : Int).toNat))) ++ by_3)) (ys := ((wx_0.drop z36.toNat).take ((wx_0.length : Int).toNat - z36.toNat))) (m := (((wx_0.drop z36.toNat).take ((wx_0.length : Int).toNat - z36.toNat)).length)) rfl Try.underlying22 Try.underlying22 Try.type3 rfl rfl rfl (hC.srcr (i := 0) rfl) rfl rfl (by have := lim_some h48; simp at this ⊢; omega) (by decide)) ?_
  rintro _ w53 ⟨A49, c50, rfl, hl51, hc52, hC, hF, hN⟩
  have hB := hBf12
  replace hBf12 := hB.app hM hN
  replace hM := hM.beside hB hF
  clear hB
  refine ⟨hM, ?_⟩
  clear hF hN
  refine mixE.pure (v := .slice A49 ((((([] : List Int) ++ ((wx_0.drop (0 : Int).toNat).take (at_1.toNat - (0 : Int).toNat))) ++ by_3) ++ ((wx_0.drop z36.toNat).take ((wx_0.length : Int).toNat - z36.toNat))).length) c50) (pu_assign rfl) ?_
  refine mixE.nil ?_
  clear hS hM
  refine hK4 _ _ ?_
  obtain rfl := Option.some.inj hb
  refine Wc.ret ?_
  refine hKR _ _ ?_
  refine ⟨_, res1 Try.results35 (show RV _ _ _ (.tmp _) (.slice A49 ((((([] : List Int) ++ ((wx_0.drop (0 : Int).toNat).take (at_1.toNat - (0 : Int).toNat))) ++ by_3) ++ ((wx_0.drop z36.toNat).take ((wx_0.length : Int).toNat - z36.toNat))).length) c50) from rfl), _, rfl, A49, (((([] : List Int) ++ ((wx_0.drop (0 : Int).toNat).take (at_1.toNat - (0 : Int).toNat))) ++ by_3) ++ ((wx_0.drop z36.toNat).take ((wx_0.length : Int).toNat - z36.toNat))).length, c50, rfl, hC.sel [2] (by decide)⟩
end Go.Proofs.Ytkjpldmelafooaa
