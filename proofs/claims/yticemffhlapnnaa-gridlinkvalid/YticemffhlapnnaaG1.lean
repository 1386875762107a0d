/- The walks: part 1. -/
import Derived.Test.YticemffhlapnnaaS
set_option linter.unusedVariables false
set_option linter.unusedSimpArgs false
namespace Go.Proofs.Yticemffhlapnnaa
open Ev
set_option maxRecDepth 100000 in
set_option maxHeartbeats 4000000 in
theorem gridlink_inverse_ok (n : Nat) {w : World} {O0 : List Nat} (hO : ∀ k ∈ O0, k < w.heap.size) {Arows_0 : Option Addr} {mrows_0 crows_0 : Nat} {rows_0 : List Int} (hrows_0 : Rep O0 w (.sl (.int .i64)) [.slice Arows_0 mrows_0 crows_0] rows_0) {r : (List Int)} (hb : F.gridlink_inverse n rows_0 = some r) :
    Calls Try.prog 38 #[.slice Arows_0 mrows_0 crows_0] w fun e w' => ∃ v, e = .returned v ∧ ∃ (A0 : Option Addr) (m0 c0 : Nat), v = .slice A0 m0 c0 ∧ Cx (fun _ => False) O0 w w' [.own 3 (.int .i64) (.slice A0 m0 c0) r] := by
 unfold F.gridlink_inverse at hb
 have hC := Cx.start hO
 replace hC := hC.arg rfl hrows_0
 clear hO
 obtain ⟨rfl, hlrows_0, hcrows_0⟩ := hrows_0.sl_len
 refine calls_of_Wc Try.func38 rfl (by rw [Try.ntmps38]; exact Nat.le_of_ble_eq_true rfl) fun KR hKR => ?_
 refine Wc.seq fun K2 hK2 => ?_
 refine rg ?_
 refine lp (.slice none 0 0) (pu_assign rfl) ?_
 refine ln ?_
 refine hK2 _ _ ?_
 refine Wc.seq fun K3 hK3 => ?_
 refine rg ?_
 refine lp (.slice Arows_0 rows_0.length crows_0) (pu_move rfl) ?_
 refine lp (.int .i64 (rows_0.length : Int)) (pu_len (A := Arows_0) (n := rows_0.length) (m := crows_0) Try.underlying22 rfl) ?_
 obtain ⟨u4, h5, hb⟩ := bd hb
 refine lex.op (hC.make (s := (.int .i64)) (n := (rows_0.length : Int)) Try.underlying22 Try.type3 rfl rfl rfl rfl rfl (pos_some h5).1 (pos_some h5).2 (by decide)) ?_
 rintro _ w10 ⟨A6, c7, rfl, hl8, hc9, hC, hF, hN⟩
 clear hF hN
 refine lp (.slice A6 (((List.replicate (rows_0.length : Int).toNat (0 : Int))).length) c7) (pu_assign rfl) ?_
 refine ln ?_
 refine hK3 _ _ ?_
 refine Wc.seq fun K12 hK12 => ?_
 refine Wc.seq fun K13 hK13 => ?_
 refine rg ?_
 refine lp (.slice Arows_0 rows_0.length crows_0) (pu_move rfl) ?_
 refine lp (.int .i64 (rows_0.length : Int)) (pu_len (A := Arows_0) (n := rows_0.length) (m := crows_0) Try.underlying22 rfl) ?_
 refine lp (.int .i64 0) (pu_move rfl) ?_
 refine ln ?_
 refine hK13 _ _ ?_
 obtain ⟨o14, hl0, hb⟩ := bd hb
 refine Wc.cut (fun E wv => ∃ (v11_0 : Int) (qf11_0 : List Int), E 2 = .slice none 0 0 ∧ E 3 = .slice A6 (((List.replicate (rows_0.length : Int).toNat (0 : Int))).length) c7 ∧ I64 v11_0 ∧ Cx (fun _ => False) O0 w wv [.own 3 (.int .i64) (.slice A6 (((List.replicate (rows_0.length : Int).toNat (0 : Int))).length) c7) qf11_0] ∧ (some qf11_0 : Option ((List Int))) = some r) (fun K15 hK15 => ?_) ?_
 refine Wc.block ?_
 refine Wc.loop (fun m E wv => ∃ (v11_0 : Int) (qf11_0 : List Int), E 2 = .slice none 0 0 ∧ E 3 = .slice A6 (((List.replicate (rows_0.length : Int).toNat (0 : Int))).length) c7 ∧ E 9 = .slice Arows_0 rows_0.length crows_0 ∧ E 10 = .int .i64 (rows_0.length : Int) ∧ E 11 = .int .i64 v11_0 ∧ I64 v11_0 ∧ Cx (fun _ => False) O0 w wv [.own 3 (.int .i64) (.slice A6 (((List.replicate (rows_0.length : Int).toNat (0 : Int))).length) c7) qf11_0, .ro (.sl (.int .i64)) [.slice Arows_0 rows_0.length crows_0] rows_0] ∧ loopN m (F.gridlink_inverse_b0 n rows_0) (v11_0, qf11_0) = some o14) n ⟨0, (List.replicate (rows_0.length : Int).toNat (0 : Int)), rfl, rfl, rfl, rfl, rfl, (show I64 0 from by unfold I64; omega), hC.sel [0, 1] (by decide), hl0⟩ ?_
 have hbK0 := hb
 clear hb hC hl0
 rintro m17 E19 w18 ⟨v11_0, qf11_0, e2, e3, e9, e10, e11, hrv11_0, hC, hl0⟩ K16 hK16
 obtain ⟨m17', o20, rfl, hb, hl0⟩ := loopN_some hl0
 unfold F.gridlink_inverse_b0 at hb
 refine Wc.seq fun K21 hK21 => ?_
 refine rg ?_
 refine lp (.bool (decide (v11_0 < (rows_0.length : Int)))) (pu_lss (k := .i64) (a := v11_0) (b := (rows_0.length : Int)) e11 e10) ?_
 refine ln ?_
 refine hK21 _ _ ?_
 refine Wc.seq fun K22 hK22 => ?_
 refine Wc.cond (t := (decide (v11_0 < (rows_0.length : Int)))) (rfl) (fun hq23 => ?_) (fun hq23 => ?_)
 replace hb := tt hq23 hb
 refine Wc.skip ?_
 refine hK22 _ _ ?_
 refine Wc.seq fun K24 hK24 => ?_
 refine Wc.block ?_
 refine Wc.seq fun K25 hK25 => ?_
 refine rg ?_
 refine lp (.int .i64 v11_0) (pu_move e11) ?_
 obtain ⟨x26, h27, hb⟩ := bd hb
 obtain ⟨ad28, cs29, hA, hc30, hr31⟩ := hC.elr (i := 1) rfl (get_some h27).2
 subst hA
 refine lp (.pointer (some (ad28.add (v11_0.toNat * 1)))) (pu_index (a := v11_0) Try.underlying22 Try.sizeOf3 e9 e11 (get_some h27).1) ?_
 obtain ⟨rfl, hr31'⟩ := hr31
 refine lv (.int .i64 x26) (ld_one Try.isAgg3 rfl (hc30 0 _ rfl)) ?_
 refine lp (.int .i64 v11_0) (pu_assign rfl) ?_
 refine lp (.int .i64 x26) (pu_assign rfl) ?_
 refine ln ?_
 refine hK25 _ _ ?_
 refine rg ?_
 refine lp (.slice A6 (((List.replicate (rows_0.length : Int).toNat (0 : Int))).length) c7) (pu_move e3) ?_
 refine lp (.int .i64 x26) (pu_move rfl) ?_
 refine lp (.int .i64 v11_0) (pu_move rfl) ?_
 obtain ⟨x32, h33, hb⟩ := bd hb
 obtain ⟨ad34, cs35, hA, hc36, hr37⟩ := hC.elo (i := 0) rfl (get_some h33).2
 subst hA
 refine lp (.pointer (some (ad34.add (x26.toNat * 1)))) (pu_index (a := x26) Try.underlying22 Try.sizeOf3 rfl rfl (by rw [(hC.ow (i := 0) rfl).sl_len.1]; exact (get_some h33).1)) ?_
 refine lex.sk (hC.put (i := 0) rfl rfl Try.sizeOf3 (k := x26.toNat) (a := v11_0) (by have := (get_some h33).1; simp at this ⊢; omega) (⟨rfl, I64.wr hrv11_0⟩) rfl rfl rfl) ?_
 rintro w38 ⟨hC, hF⟩
 refine ln ?_
 refine hK24 _ _ ?_
 refine rg ?_
 obtain ⟨z39, h40, hb⟩ := bd hb
 refine lp (.int .i64 z39) (pu_addc (a := v11_0) (b := 1) e11 rfl h40) ?_
 refine lp (.int .i64 z39) (pu_move rfl) ?_
 refine ln ?_
 obtain rfl := os hb
 exact hK16 m17' _ _ (Nat.lt_succ_self _) ⟨z39, (qf11_0.set x26.toNat v11_0), e2, e3, e9, e10, rfl, (chk_rng h40), hC.sel [0, 1] (by decide), lN hl0⟩
 replace hb := tf hq23 hb
 refine Wc.exit rfl ?_
 obtain rfl := os hb
 obtain rfl := (lX hl0).symm
 exact hK15 _ _ ⟨v11_0, qf11_0, e2, e3, hrv11_0, hC.sel [0] (by decide), hbK0⟩
 clear hb hC hl0
 rintro E42 w41 ⟨v11_0, qf11_0, e2, e3, hrv11_0, hC, hb⟩
 refine hK12 _ _ ?_
 refine Wc.seq fun K43 hK43 => ?_
 refine rg ?_
 refine lp (.slice A6 (((List.replicate (rows_0.length : Int).toNat (0 : Int))).length) c7) (pu_move e3) ?_
 refine lp (.slice A6 (((List.replicate (rows_0.length : Int).toNat (0 : Int))).length) c7) (pu_assign rfl) ?_
 refine ln ?_
 refine hK43 _ _ ?_
 obtain rfl := os hb
 refine Wc.ret ?_
 refine hKR _ _ ?_
 refine ⟨_, res1 Try.results38 (show RV _ _ _ (.tmp _) (.slice A6 (((List.replicate (rows_0.length : Int).toNat (0 : Int))).length) c7) from rfl), _, rfl, A6, ((List.replicate (rows_0.length : Int).toNat (0 : Int))).length, c7, rfl, hC.sel [0] (by decide)⟩

set_option maxRecDepth 100000 in
set_option maxHeartbeats 4000000 in
theorem slices_Reverse_passage_passage_ok (n : Nat) {w : World} {O0 : List Nat} (hO : ∀ k ∈ O0, k < w.heap.size) {As_0 : Option Addr} {ms_0 cs_0 : Nat} {s_0 : List (Int × Int)} (hio : Tk O0 w [.own 58 (.pr (.int .i64) (.int .i64)) (.slice As_0 ms_0 cs_0) s_0]) {r : (List (Int × Int))} (hb : F.slices_Reverse_passage_passage n s_0 = some r) :
    Calls Try.prog 67 #[.slice As_0 ms_0 cs_0] w fun e w' => ∃ v, e = .returned v ∧ v = .tuple #[] ∧ Cx (fun k => k ∈ blocks [.own 58 (.pr (.int .i64) (.int .i64)) (.slice As_0 ms_0 cs_0) s_0]) O0 w w' [.own 58 (.pr (.int .i64) (.int .i64)) (.slice As_0 ms_0 cs_0) r] := by
 unfold F.slices_Reverse_passage_passage at hb
 have hC := Cx.startTk hO hio
 have hsub := hio.2.2
 clear hO
 obtain ⟨rfl, hls_0, hcs_0⟩ := (hC.ow (i := 0) rfl).sl_len
 clear hio hsub
 obtain ⟨I, hI, hC⟩ : ∃ I : Nat → Prop, I = (fun k => k ∈ blocks [.own 58 (.pr (.int .i64) (.int .i64)) (.slice As_0 s_0.length cs_0) s_0]) ∧ Cx I O0 w w ([.own 58 (.pr (.int .i64) (.int .i64)) (.slice As_0 s_0.length cs_0) s_0]) := ⟨_, rfl, hC⟩
 refine calls_of_Wc Try.func67 rfl (by rw [Try.ntmps67]; exact Nat.le_of_ble_eq_true rfl) fun KR hKR => ?_
 refine Wc.seq fun K2 hK2 => ?_
 refine rg ?_
 refine lp (.slice As_0 s_0.length cs_0) (pu_move rfl) ?_
 refine lp (.int .i64 (s_0.length : Int)) (pu_len (A := As_0) (n := s_0.length) (m := cs_0) Try.underlying56 rfl) ?_
 obtain ⟨z3, h4, hb⟩ := bd hb
 refine lp (.int .i64 z3) (pu_subc (a := (s_0.length : Int)) (b := 1) rfl rfl h4) ?_
 refine lp (.int .i64 0) (pu_assign rfl) ?_
 refine lp (.int .i64 z3) (pu_assign rfl) ?_
 refine ln ?_
 refine hK2 _ _ ?_
 obtain ⟨o5, hl0, hb⟩ := bd hb
 refine Wc.cut (fun E wv => ∃ (v2_0 : Int) (v3_0 : Int) (qf1_0 : List (Int × Int)), I64 v2_0 ∧ I64 v3_0 ∧ Cx I O0 w wv [.own 58 (.pr (.int .i64) (.int .i64)) (.slice As_0 s_0.length cs_0) qf1_0] ∧ (some qf1_0 : Option ((List (Int × Int)))) = some r) (fun K6 hK6 => ?_) ?_
 refine Wc.block ?_
 refine Wc.loop (fun m E wv => ∃ (v2_0 : Int) (v3_0 : Int) (qf1_0 : List (Int × Int)), E 0 = .slice As_0 s_0.length cs_0 ∧ E 2 = .int .i64 v2_0 ∧ E 3 = .int .i64 v3_0 ∧ I64 v2_0 ∧ I64 v3_0 ∧ Cx I O0 w wv [.own 58 (.pr (.int .i64) (.int .i64)) (.slice As_0 s_0.length cs_0) qf1_0] ∧ loopN m (F.slices_Reverse_passage_passage_b0 n) (v2_0, v3_0, qf1_0) = some o5) n ⟨0, z3, s_0, rfl, rfl, rfl, (show I64 0 from by unfold I64; omega), (chk_rng h4), hC.sel [0] (by decide), hl0⟩ ?_
 have hbK0 := hb
 clear hb hC hl0
 rintro m8 E10 w9 ⟨v2_0, v3_0, qf1_0, e0, e2, e3, hrv2_0, hrv3_0, hC, hl0⟩ K7 hK7
 obtain ⟨m8', o11, rfl, hb, hl0⟩ := loopN_some hl0
 unfold F.slices_Reverse_passage_passage_b0 at hb
 refine Wc.seq fun K12 hK12 => ?_
 refine Wc.seq fun K13 hK13 => ?_
 refine rg ?_
 refine lp (.int .i64 v2_0) (pu_move e2) ?_
 refine lp (.int .i64 v3_0) (pu_move e3) ?_
 refine lp (.bool (decide (v2_0 < v3_0))) (pu_lss (k := .i64) (a := v2_0) (b := v3_0) rfl rfl) ?_
 refine ln ?_
 refine hK13 _ _ ?_
 refine Wc.cond (t := (decide (v2_0 < v3_0))) (rfl) (fun hq14 => ?_) (fun hq14 => ?_)
 replace hb := tt hq14 hb
 refine Wc.skip ?_
 refine hK12 _ _ ?_
 refine Wc.seq fun K15 hK15 => ?_
 refine Wc.block ?_
 refine Wc.regionMix [] (frm [] ([] : List Fact) [.own 58 (.pr (.int .i64) (.int .i64)) (.slice As_0 s_0.length cs_0) qf1_0]) (fun _ => rfl) mixed (by decide +kernel) (by decide +kernel) fun w17 hw16 => ?_
 replace hC := hC.step (Fr.of_drew hw16)
 have hM := Fr.refl (fun k => k ∈ blocks ([] : List Fact)) w17
 clear hw16
 have hS := hC
 have hD : Fr (fun k => k ∈ blocks (([] : List Fact) ++ [.own 58 (.pr (.int .i64) (.int .i64)) (.slice As_0 s_0.length cs_0) qf1_0])) w17 w17 := hM.wide
 have hUf1 : Beside (([] : List Fact) ++ [.own 58 (.pr (.int .i64) (.int .i64)) (.slice As_0 s_0.length cs_0) qf1_0]) w17 (.slice As_0 s_0.length cs_0) := Beside.of (i := 0) rfl
 refine mp (.slice As_0 s_0.length cs_0) (pu_move e0) ?_
 refine mp (.int .i64 v2_0) (pu_move e2) ?_
 refine mp (.slice As_0 s_0.length cs_0) (pu_move e0) ?_
 refine mp (.int .i64 v3_0) (pu_move e3) ?_
 refine mp (.slice As_0 s_0.length cs_0) (pu_move e0) ?_
 refine mp (.int .i64 v3_0) (pu_move e3) ?_
 obtain ⟨x18, h19, hb⟩ := bd hb
 obtain ⟨ad20, cs21, hA, ho24, hc22, hr23⟩ := hS.elo2 (i := 0) rfl (get_some h19).2 [] (by decide)
 subst hA
 refine mp (.pointer (some (ad20.add (v3_0.toNat * 2)))) (pu_index (a := v3_0) Try.underlying56 Try.sizeOf58 rfl rfl (by rw [(hC.ow (i := 0) rfl).sl_len.1]; exact (get_some h19).1)) ?_
 obtain ⟨k25, k26, rfl, hr27, hr28⟩ := hr23
 obtain ⟨rfl, hr27⟩ := hr27
 obtain ⟨rfl, hr28⟩ := hr28
 refine mixE.load hM (v := .agg #[.int .i64 x18.1, .int .i64 x18.2]) (fun _ hF => ld_agg Try.isAgg58 Try.sizeOf58 rfl rfl (fun j u hu => hF.cell (hc22 j u hu) (off2 ho24))) ?_
 refine mp (.slice (some ad20) s_0.length cs_0) (pu_move e0) ?_
 refine mp (.int .i64 v2_0) (pu_move e2) ?_
 obtain ⟨x29, h30, hb⟩ := bd hb
 obtain ⟨ad31, cs32, hA, ho35, hc33, hr34⟩ := hS.elo2 (i := 0) rfl (get_some h30).2 [] (by decide)
 obtain rfl := Option.some.inj hA
 refine mp (.pointer (some (ad20.add (v2_0.toNat * 2)))) (pu_index (a := v2_0) Try.underlying56 Try.sizeOf58 rfl rfl (by rw [(hC.ow (i := 0) rfl).sl_len.1]; exact (get_some h30).1)) ?_
 obtain ⟨k36, k37, rfl, hr38, hr39⟩ := hr34
 obtain ⟨rfl, hr38⟩ := hr38
 obtain ⟨rfl, hr39⟩ := hr39
 refine mixE.load hM (v := .agg #[.int .i64 x29.1, .int .i64 x29.2]) (fun _ hF => ld_agg Try.isAgg58 Try.sizeOf58 rfl rfl (fun j u hu => hF.cell (hc33 j u hu) (off2 ho35))) ?_
 obtain ⟨x40, h41, hb⟩ := bd hb
 obtain ⟨ad42, cs43, hA, ho46, hc44, hr45⟩ := hS.elo2 (i := 0) rfl (get_some h41).2 [] (by decide)
 obtain rfl := Option.some.inj hA
 refine mp (.pointer (some (ad20.add (v2_0.toNat * 2)))) (pu_index (a := v2_0) Try.underlying56 Try.sizeOf58 rfl rfl (by rw [(hC.ow (i := 0) rfl).sl_len.1]; exact (get_some h41).1)) ?_
 refine mixE.sk hD (hC.putS (P := Try.prog) (i := 0) (e := 58) (ds := [.int .i64 x18.1, .int .i64 x18.2]) rfl Try.type58 rfl (k := v2_0.toNat) (a := (x18.1, x18.2)) (by have := (get_some h41).1; simp at this ⊢; omega) rfl rfl (⟨[.int .i64 x18.1], [.int .i64 x18.2], rfl, ⟨rfl, I64.wr (wrap_I64 hr27)⟩, ⟨rfl, I64.wr (wrap_I64 hr28)⟩⟩) rfl rfl) ?_
 rintro w47 ⟨hC, hF⟩
 replace hD := hD.beside hUf1 hF
 clear hF
 refine ⟨hD, ?_⟩
 obtain ⟨x48, h49, hb⟩ := bd hb
 obtain ⟨ad50, cs51, hA, hc52, hr53⟩ := hC.elo (i := 0) rfl (get_some h49).2
 obtain rfl := Option.some.inj hA
 refine mp (.pointer (some (ad20.add (v3_0.toNat * 2)))) (pu_index (a := v3_0) Try.underlying56 Try.sizeOf58 rfl rfl (by rw [(hC.ow (i := 0) rfl).sl_len.1]; exact (get_some h49).1)) ?_
 refine mixE.sk hD (hC.putS (P := Try.prog) (i := 0) (e := 58) (ds := [.int .i64 x29.1, .int .i64 x29.2]) rfl Try.type58 rfl (k := v3_0.toNat) (a := (x29.1, x29.2)) (by have := (get_some h49).1; simp at this ⊢; omega) rfl rfl (⟨[.int .i64 x29.1], [.int .i64 x29.2], rfl, ⟨rfl, I64.wr (wrap_I64 hr38)⟩, ⟨rfl, I64.wr (wrap_I64 hr39)⟩⟩) rfl rfl) ?_
 rintro w54 ⟨hC, hF⟩
 replace hD := hD.beside hUf1 hF
 clear hF
 refine ⟨hD, ?_⟩
 refine mixE.nil ?_
 clear hS hM
 clear hD
 refine hK15 _ _ ?_
 refine Wc.fresh fun E55 hE => ?_
 have e0 := (congrFun hE 0).trans e0
 have e2 := (congrFun hE 2).trans e2
 have e3 := (congrFun hE 3).trans e3
 have e9 : E55 9 = .bool (decide (v2_0 < v3_0)) := (congrFun hE 9).trans rfl
 clear hE
 refine rg ?_
 refine lp (.int .i64 v2_0) (pu_move e2) ?_
 obtain ⟨z56, h57, hb⟩ := bd hb
 refine lp (.int .i64 z56) (pu_addc (a := v2_0) (b := 1) rfl rfl h57) ?_
 refine lp (.int .i64 v3_0) (pu_move e3) ?_
 obtain ⟨z58, h59, hb⟩ := bd hb
 refine lp (.int .i64 z58) (pu_subc (a := v3_0) (b := 1) rfl rfl h59) ?_
 refine lp (.int .i64 z56) (pu_assign rfl) ?_
 refine lp (.int .i64 z58) (pu_assign rfl) ?_
 refine ln ?_
 obtain rfl := os hb
 exact hK7 m8' _ _ (Nat.lt_succ_self _) ⟨z56, z58, ((qf1_0.set v2_0.toNat (x18.1, x18.2)).set v3_0.toNat (x29.1, x29.2)), e0, rfl, rfl, (chk_rng h57), (chk_rng h59), hC.sel [0] (by decide), lN hl0⟩
 replace hb := tf hq14 hb
 refine Wc.exit rfl ?_
 obtain rfl := os hb
 obtain rfl := (lX hl0).symm
 exact hK6 _ _ ⟨v2_0, v3_0, qf1_0, hrv2_0, hrv3_0, hC.sel [0] (by decide), hbK0⟩
 clear hb hC hl0
 rintro E61 w60 ⟨v2_0, v3_0, qf1_0, hrv2_0, hrv3_0, hC, hb⟩
 obtain rfl := os hb
 subst hI
 refine hKR _ _ ?_
 refine ⟨_, res0 Try.results67, _, rfl, rfl, hC.sel [0] (by decide)⟩

set_option maxRecDepth 100000 in
set_option maxHeartbeats 4000000 in
theorem slices_Grow_passage_passage_nil_ok (n : Nat) {w : World} {O0 : List Nat} (hO : ∀ k ∈ O0, k < w.heap.size) {nx_1 : Int} (hnx_1 : I64 nx_1) {r : (List (Int × Int))} (hb : F.slices_Grow_passage_passage_nil n nx_1 = some r) :
    Calls Try.prog 68 #[.slice none 0 0, .int .i64 nx_1] w fun e w' => ∃ v, e = .returned v ∧ ∃ (A0 : Option Addr) (m0 c0 : Nat), v = .slice A0 m0 c0 ∧ Cx (fun _ => False) O0 w w' [.own 58 (.pr (.int .i64) (.int .i64)) (.slice A0 m0 c0) r] := by
 unfold F.slices_Grow_passage_passage_nil at hb
 have hC := Cx.start hO
 clear hO
 refine calls_of_Wc Try.func68 rfl (by rw [Try.ntmps68]; exact Nat.le_of_ble_eq_true rfl) fun KR hKR => ?_
 refine Wc.seq fun K1 hK1 => ?_
 refine rg ?_
 refine lp (.slice none 0 0) (pu_assign rfl) ?_
 refine ln ?_
 refine hK1 _ _ ?_
 refine Wc.seq fun K2 hK2 => ?_
 refine Wc.seq fun K3 hK3 => ?_
 refine rg ?_
 refine lp (.int .i64 nx_1) (pu_move rfl) ?_
 refine lp (.bool (decide (nx_1 < 0))) (pu_lss (k := .i64) (a := nx_1) (b := 0) rfl rfl) ?_
 refine ln ?_
 refine hK3 _ _ ?_
 refine Wc.cond (t := (decide (nx_1 < 0))) (rfl) (fun hq4 => ?_) (fun hq4 => ?_)
 replace hb := tt hq4 hb
 cases hb
 replace hb := tf hq4 hb
 refine Wc.skip ?_
 refine hK2 _ _ ?_
 refine Wc.seq fun K5 hK5 => ?_
 refine Wc.seq fun K6 hK6 => ?_
 refine rg ?_
 refine lp (.int .i64 nx_1) (pu_move rfl) ?_
 refine lp (.slice none 0 0) (pu_move rfl) ?_
 refine lp (.int .i64 0) (pu_cap (A := none) (n := 0) (m := 0) Try.underlying56 rfl) ?_
 refine lp (.slice none 0 0) (pu_move rfl) ?_
 refine lp (.int .i64 0) (pu_len (A := none) (n := 0) (m := 0) Try.underlying56 rfl) ?_
 obtain ⟨z7, h8, hb⟩ := bd hb
 refine lp (.int .i64 z7) (pu_subc (a := 0) (b := 0) rfl rfl h8) ?_
 obtain ⟨z9, h10, hb⟩ := bd hb
 refine lp (.int .i64 z9) (pu_subc (a := nx_1) (b := z7) rfl rfl h10) ?_
 refine lp (.int .i64 z9) (pu_assign rfl) ?_
 refine ln ?_
 refine hK6 _ _ ?_
 refine Wc.fresh fun E11 hE => ?_
 have e0 : E11 0 = .slice none 0 0 := (congrFun hE 0).trans rfl
 have e1 : E11 1 = .int .i64 z9 := (congrFun hE 1).trans rfl
 have e4 : E11 4 = .slice none 0 0 := (congrFun hE 4).trans rfl
 clear hE
 refine Wc.seq fun K12 hK12 => ?_
 refine rg ?_
 refine lp (.int .i64 z9) (pu_move e1) ?_
 refine lp (.bool (decide (0 < z9))) (pu_gtr (k := .i64) (a := z9) (b := 0) rfl rfl) ?_
 refine ln ?_
 refine hK12 _ _ ?_
 refine Wc.cond (t := (decide (0 < z9))) (rfl) (fun hq13 => ?_) (fun hq13 => ?_)
 replace hb := tt hq13 hb
 refine rg ?_
 refine lp (.slice none 0 0) (pu_move e0) ?_
 refine lp (.slice none 0 0) (pu_move e0) ?_
 refine lp (.int .i64 0) (pu_cap (A := none) (n := 0) (m := 0) Try.underlying56 rfl) ?_
 refine lp (.slice none 0 0) (pu_nilcut Try.underlying56 Try.sizeOf58 rfl rfl) ?_
 refine lp (.int .i64 z9) (pu_move e1) ?_
 obtain ⟨u14, h15, hb⟩ := bd hb
 refine lex.op (hC.appz (s := (.pr (.int .i64) (.int .i64))) (n := z9) Try.underlying56 Try.underlying3 Try.type58 rfl rfl rfl rfl rfl (posz_some h15).1 (posz_some h15).2 (by decide)) ?_
 rintro _ w20 ⟨A16, c17, rfl, hl18, hc19, hC, hF, hN⟩
 clear hF hN
 refine lp (.slice none 0 0) (pu_move e0) ?_
 refine lp (.int .i64 0) (pu_len (A := none) (n := 0) (m := 0) Try.underlying56 rfl) ?_
 obtain ⟨u22, h23, hb⟩ := bd hb
 refine lp (.slice A16 (((List.replicate z9.toNat ((0 : Int), (0 : Int))).take (0 : Int).toNat).length) c17) (pu_cuth (b := 0) Try.underlying56 Try.sizeOf58 rfl rfl (hC.ow (i := 0) rfl).sl_len (cut_some h23)) ?_
 replace hC := hC.cuth (i := 0) rfl (k := (0 : Int).toNat) (by have := cut_some h23; omega)
 obtain ⟨-, hl24, hc25⟩ := (hC.ow (i := 0) rfl).sl_len
 refine lp (.slice A16 (((List.replicate z9.toNat ((0 : Int), (0 : Int))).take (0 : Int).toNat).length) c17) (pu_assign rfl) ?_
 refine ln ?_
 refine hK5 _ _ ?_
 refine Wc.seq fun K26 hK26 => ?_
 refine rg ?_
 refine lp (.slice A16 (((List.replicate z9.toNat ((0 : Int), (0 : Int))).take (0 : Int).toNat).length) c17) (pu_move rfl) ?_
 refine lp (.slice A16 (((List.replicate z9.toNat ((0 : Int), (0 : Int))).take (0 : Int).toNat).length) c17) (pu_assign rfl) ?_
 refine ln ?_
 refine hK26 _ _ ?_
 obtain rfl := os hb
 refine Wc.ret ?_
 refine hKR _ _ ?_
 refine ⟨_, res1 Try.results68 (show RV _ _ _ (.tmp _) (.slice A16 (((List.replicate z9.toNat ((0 : Int), (0 : Int))).take (0 : Int).toNat).length) c17) from rfl), _, rfl, A16, ((List.replicate z9.toNat ((0 : Int), (0 : Int))).take (0 : Int).toNat).length, c17, rfl, hC.sel [0] (by decide)⟩
 replace hb := tf hq13 hb
 refine Wc.skip ?_
 refine hK5 _ _ ?_
 refine Wc.seq fun K27 hK27 => ?_
 refine rg ?_
 refine lp (.slice none 0 0) (pu_move e0) ?_
 refine lp (.slice none 0 0) (pu_assign rfl) ?_
 refine ln ?_
 refine hK27 _ _ ?_
 replace hC := hC.nil 58 (.pr (.int .i64) (.int .i64))
 obtain rfl := os hb
 refine Wc.ret ?_
 refine hKR _ _ ?_
 refine ⟨_, res1 Try.results68 (show RV _ _ _ (.tmp _) (.slice none 0 0) from rfl), _, rfl, none, 0, 0, rfl, hC.sel [0] (by decide)⟩

set_option maxRecDepth 100000 in
set_option maxHeartbeats 4000000 in
theorem slices_Concat_passage_passage_ok (n : Nat) {w : World} {O0 : List Nat} (hO : ∀ k ∈ O0, k < w.heap.size) {Aslices_0 : Option Addr} {mslices_0 cslices_0 : Nat} {slices_0 : List (List (Int × Int))} (hslices_0 : Rep O0 w (.sl (.sl (.pr (.int .i64) (.int .i64)))) [.slice Aslices_0 mslices_0 cslices_0] slices_0) {r : (List (Int × Int))} (hb : F.slices_Concat_passage_passage n slices_0 = some r) :
    Calls Try.prog 40 #[.slice Aslices_0 mslices_0 cslices_0] w fun e w' => ∃ v, e = .returned v ∧ ∃ (A0 : Option Addr) (m0 c0 : Nat), v = .slice A0 m0 c0 ∧ Cx (fun _ => False) O0 w w' [.own 58 (.pr (.int .i64) (.int .i64)) (.slice A0 m0 c0) r] := by
 unfold F.slices_Concat_passage_passage at hb
 have hC := Cx.start hO
 replace hC := hC.arg rfl hslices_0
 clear hO
 obtain ⟨rfl, hlslices_0, hcslices_0⟩ := hslices_0.sl_len
 refine calls_of_Wc Try.func40 rfl (by rw [Try.ntmps40]; exact Nat.le_of_ble_eq_true rfl) fun KR hKR => ?_
 refine Wc.seq fun K2 hK2 => ?_
 refine rg ?_
 refine lp (.slice none 0 0) (pu_assign rfl) ?_
 refine ln ?_
 refine hK2 _ _ ?_
 refine Wc.seq fun K3 hK3 => ?_
 refine rg ?_
 refine lp (.int .i64 0) (pu_assign rfl) ?_
 refine ln ?_
 refine hK3 _ _ ?_
 refine Wc.seq fun K4 hK4 => ?_
 refine Wc.seq fun K5 hK5 => ?_
 refine rg ?_
 refine lp (.slice Aslices_0 slices_0.length cslices_0) (pu_move rfl) ?_
 refine lp (.int .i64 (slices_0.length : Int)) (pu_len (A := Aslices_0) (n := slices_0.length) (m := cslices_0) Try.underlying51 rfl) ?_
 refine lp (.int .i64 0) (pu_move rfl) ?_
 refine ln ?_
 refine hK5 _ _ ?_
 obtain ⟨o6, hl0, hb⟩ := bd hb
 refine Wc.cut (fun E wv => ∃ (v3_0 : Int) (v11_0 : Int), E 0 = .slice Aslices_0 slices_0.length cslices_0 ∧ E 2 = .slice none 0 0 ∧ E 3 = .int .i64 v3_0 ∧ I64 v3_0 ∧ I64 v11_0 ∧ Cx (fun _ => False) O0 w wv [.ro (.sl (.sl (.pr (.int .i64) (.int .i64)))) [.slice Aslices_0 slices_0.length cslices_0] slices_0] ∧ ((F.slices_Grow_passage_passage_nil n v3_0).bind fun y40 => ((loopN n (F.slices_Concat_passage_passage_b1 n slices_0) (y40, 0)).bind fun o51 => match o51 with     | (l6_1, v27_1) => some l6_1) : Option ((List (Int × Int)))) = some r) (fun K7 hK7 => ?_) ?_
 refine Wc.block ?_
 refine Wc.loop (fun m E wv => ∃ (v3_0 : Int) (v11_0 : Int), E 0 = .slice Aslices_0 slices_0.length cslices_0 ∧ E 2 = .slice none 0 0 ∧ E 3 = .int .i64 v3_0 ∧ E 9 = .slice Aslices_0 slices_0.length cslices_0 ∧ E 10 = .int .i64 (slices_0.length : Int) ∧ E 11 = .int .i64 v11_0 ∧ I64 v3_0 ∧ I64 v11_0 ∧ Cx (fun _ => False) O0 w wv [.ro (.sl (.sl (.pr (.int .i64) (.int .i64)))) [.slice Aslices_0 slices_0.length cslices_0] slices_0] ∧ loopN m (F.slices_Concat_passage_passage_b0 n slices_0) (v3_0, v11_0) = some o6) n ⟨0, 0, rfl, rfl, rfl, rfl, rfl, rfl, (show I64 0 from by unfold I64; omega), (show I64 0 from by unfold I64; omega), hC.sel [0] (by decide), hl0⟩ ?_
 have hbK0 := hb
 clear hb hC hl0
 rintro m9 E11 w10 ⟨v3_0, v11_0, e0, e2, e3, e9, e10, e11, hrv3_0, hrv11_0, hC, hl0⟩ K8 hK8
 obtain ⟨m9', o12, rfl, hb, hl0⟩ := loopN_some hl0
 unfold F.slices_Concat_passage_passage_b0 at hb
 refine Wc.seq fun K13 hK13 => ?_
 refine rg ?_
 refine lp (.bool (decide (v11_0 < (slices_0.length : Int)))) (pu_lss (k := .i64) (a := v11_0) (b := (slices_0.length : Int)) e11 e10) ?_
 refine ln ?_
 refine hK13 _ _ ?_
 refine Wc.seq fun K14 hK14 => ?_
 refine Wc.cond (t := (decide (v11_0 < (slices_0.length : Int)))) (rfl) (fun hq15 => ?_) (fun hq15 => ?_)
 replace hb := tt hq15 hb
 refine Wc.skip ?_
 refine hK14 _ _ ?_
 refine Wc.seq fun K16 hK16 => ?_
 refine Wc.block ?_
 refine Wc.seq fun K17 hK17 => ?_
 refine rg ?_
 obtain ⟨x18, h19, hb⟩ := bd hb
 obtain ⟨ad20, cs21, hA, hc22, hr23⟩ := hC.elr (i := 0) rfl (get_some h19).2
 subst hA
 refine lp (.pointer (some (ad20.add (v11_0.toNat * 1)))) (pu_index (a := v11_0) Try.underlying51 Try.sizeOf56 e9 e11 (get_some h19).1) ?_
 have hR := hr23
 obtain ⟨A24, c25, rfl, hl26, hc27, _⟩ := hr23
 replace hC := hC.ro hR
 clear hR
 refine lv (.slice A24 x18.length c25) (ld_one Try.isAgg56 rfl (hc22 0 _ rfl)) ?_
 refine lp (.slice A24 x18.length c25) (pu_assign rfl) ?_
 refine ln ?_
 refine hK17 _ _ ?_
 refine Wc.seq fun K29 hK29 => ?_
 refine rg ?_
 refine lp (.int .i64 v3_0) (pu_move e3) ?_
 refine lp (.slice A24 x18.length c25) (pu_move rfl) ?_
 refine lp (.int .i64 (x18.length : Int)) (pu_len (A := A24) (n := x18.length) (m := c25) Try.underlying56 rfl) ?_
 obtain ⟨z30, h31, hb⟩ := bd hb
 refine lp (.int .i64 z30) (pu_addc (a := v3_0) (b := (x18.length : Int)) rfl rfl h31) ?_
 refine lp (.int .i64 z30) (pu_assign rfl) ?_
 refine ln ?_
 refine hK29 _ _ ?_
 refine Wc.seq fun K32 hK32 => ?_
 refine rg ?_
 refine lp (.int .i64 z30) (pu_move rfl) ?_
 refine lp (.bool (decide (z30 < 0))) (pu_lss (k := .i64) (a := z30) (b := 0) rfl rfl) ?_
 refine ln ?_
 refine hK32 _ _ ?_
 refine Wc.fresh fun E33 hE => ?_
 have e0 := (congrFun hE 0).trans e0
 have e2 := (congrFun hE 2).trans e2
 have e3 : E33 3 = .int .i64 z30 := (congrFun hE 3).trans rfl
 have e5 : E33 5 = .slice A24 x18.length c25 := (congrFun hE 5).trans rfl
 have e9 := (congrFun hE 9).trans e9
 have e10 := (congrFun hE 10).trans e10
 have e11 := (congrFun hE 11).trans e11
 have e12 : E33 12 = .bool (decide (v11_0 < (slices_0.length : Int))) := (congrFun hE 12).trans rfl
 have e20 : E33 20 = .bool (decide (z30 < 0)) := (congrFun hE 20).trans rfl
 clear hE
 refine Wc.cond (t := (decide (z30 < 0))) (e20) (fun hq34 => ?_) (fun hq34 => ?_)
 replace hb := tt hq34 hb
 cases hb
 replace hb := tf hq34 hb
 refine Wc.skip ?_
 refine hK16 _ _ ?_
 refine rg ?_
 obtain ⟨z35, h36, hb⟩ := bd hb
 refine lp (.int .i64 z35) (pu_addc (a := v11_0) (b := 1) e11 rfl h36) ?_
 refine lp (.int .i64 z35) (pu_move rfl) ?_
 refine ln ?_
 obtain rfl := os hb
 exact hK8 m9' _ _ (Nat.lt_succ_self _) ⟨z30, z35, e0, e2, e3, e9, e10, rfl, (chk_rng h31), (chk_rng h36), hC.sel [1] (by decide), lN hl0⟩
 replace hb := tf hq15 hb
 refine Wc.exit rfl ?_
 obtain rfl := os hb
 obtain rfl := (lX hl0).symm
 exact hK7 _ _ ⟨v3_0, v11_0, e0, e2, e3, hrv3_0, hrv11_0, hC.sel [0] (by decide), hbK0⟩
 clear hb hC hl0
 rintro E38 w37 ⟨v3_0, v11_0, e0, e2, e3, hrv3_0, hrv11_0, hC, hb⟩
 refine hK4 _ _ ?_
 refine Wc.seq fun K39 hK39 => ?_
 refine rg ?_
 refine lp (.int .i64 v3_0) (pu_move e3) ?_
 obtain ⟨y40, h41, hb⟩ := bd hb
 refine lex.cl (⟨_, _, op_call (vs := [.slice none 0 0, .int .i64 v3_0]) Try.call68 rfl rfl rfl, slices_Grow_passage_passage_nil_ok n hC.lt hrv3_0 h41⟩) ?_
 rintro _ w46 ⟨A42, m43, c44, rfl, hK⟩
 replace hC := hC.merge hK
 clear hK
 obtain ⟨rfl, hl47, hc48⟩ := (hC.ow (i := 0) rfl).sl_len
 refine lp (.slice A42 y40.length c44) (pu_assign rfl) ?_
 refine ln ?_
 refine hK39 _ _ ?_
 refine Wc.seq fun K49 hK49 => ?_
 refine Wc.seq fun K50 hK50 => ?_
 refine rg ?_
 refine lp (.slice Aslices_0 slices_0.length cslices_0) (pu_move e0) ?_
 refine lp (.int .i64 (slices_0.length : Int)) (pu_len (A := Aslices_0) (n := slices_0.length) (m := cslices_0) Try.underlying51 rfl) ?_
 refine lp (.int .i64 0) (pu_move rfl) ?_
 refine ln ?_
 refine hK50 _ _ ?_
 obtain ⟨o51, hl1, hb⟩ := bd hb
 refine Wc.cut (fun E wv => ∃ (l6_1 : List (Int × Int)) (v27_1 : Int) (Al6_1 : Option Addr) (ml6_1 cl6_1 : Nat), E 2 = .slice none 0 0 ∧ E 6 = .slice Al6_1 ml6_1 cl6_1 ∧ I64 v27_1 ∧ Cx (fun _ => False) O0 w wv [.own 58 (.pr (.int .i64) (.int .i64)) (.slice Al6_1 ml6_1 cl6_1) l6_1] ∧ (some l6_1 : Option ((List (Int × Int)))) = some r) (fun K52 hK52 => ?_) ?_
 refine Wc.block ?_
 refine Wc.loop (fun m E wv => ∃ (l6_1 : List (Int × Int)) (v27_1 : Int) (Al6_1 : Option Addr) (ml6_1 cl6_1 : Nat), E 2 = .slice none 0 0 ∧ E 6 = .slice Al6_1 ml6_1 cl6_1 ∧ E 25 = .slice Aslices_0 slices_0.length cslices_0 ∧ E 26 = .int .i64 (slices_0.length : Int) ∧ E 27 = .int .i64 v27_1 ∧ I64 v27_1 ∧ Cx (fun _ => False) O0 w wv [.own 58 (.pr (.int .i64) (.int .i64)) (.slice Al6_1 ml6_1 cl6_1) l6_1, .ro (.sl (.sl (.pr (.int .i64) (.int .i64)))) [.slice Aslices_0 slices_0.length cslices_0] slices_0] ∧ loopN m (F.slices_Concat_passage_passage_b1 n slices_0) (l6_1, v27_1) = some o51) n ⟨y40, 0, A42, y40.length, c44, e2, rfl, rfl, rfl, rfl, (show I64 0 from by unfold I64; omega), hC.sel [0, 1] (by decide), hl1⟩ ?_
 have hbK1 := hb
 clear hb hC hl1
 rintro m54 E56 w55 ⟨l6_1, v27_1, Al6_1, ml6_1, cl6_1, e2, e6, e25, e26, e27, hrv27_1, hC, hl1⟩ K53 hK53
 obtain ⟨m54', o57, rfl, hb, hl1⟩ := loopN_some hl1
 unfold F.slices_Concat_passage_passage_b1 at hb
 obtain ⟨rfl, hll6_1, hcl6_1⟩ := (hC.ow (i := 0) rfl).sl_len
 refine Wc.seq fun K58 hK58 => ?_
 refine rg ?_
 refine lp (.bool (decide (v27_1 < (slices_0.length : Int)))) (pu_lss (k := .i64) (a := v27_1) (b := (slices_0.length : Int)) e27 e26) ?_
 refine ln ?_
 refine hK58 _ _ ?_
 refine Wc.seq fun K59 hK59 => ?_
 refine Wc.cond (t := (decide (v27_1 < (slices_0.length : Int)))) (rfl) (fun hq60 => ?_) (fun hq60 => ?_)
 replace hb := tt hq60 hb
 refine Wc.skip ?_
 refine hK59 _ _ ?_
 refine Wc.seq fun K61 hK61 => ?_
 refine Wc.block ?_
 refine Wc.seq fun K62 hK62 => ?_
 refine rg ?_
 obtain ⟨x63, h64, hb⟩ := bd hb
 obtain ⟨ad65, cs66, hA, hc67, hr68⟩ := hC.elr (i := 1) rfl (get_some h64).2
 subst hA
 refine lp (.pointer (some (ad65.add (v27_1.toNat * 1)))) (pu_index (a := v27_1) Try.underlying51 Try.sizeOf56 e25 e27 (get_some h64).1) ?_
 have hR := hr68
 obtain ⟨A69, c70, rfl, hl71, hc72, _⟩ := hr68
 replace hC := hC.ro hR
 clear hR
 refine lv (.slice A69 x63.length c70) (ld_one Try.isAgg56 rfl (hc67 0 _ rfl)) ?_
 refine lp (.slice A69 x63.length c70) (pu_assign rfl) ?_
 refine ln ?_
 refine hK62 _ _ ?_
 refine rg ?_
 refine lp (.slice Al6_1 l6_1.length cl6_1) (pu_move e6) ?_
 refine lp (.slice A69 x63.length c70) (pu_move rfl) ?_
 obtain ⟨u74, h75, hb⟩ := bd hb
 refine lex.op (hC.app (i := 1) (s := (.pr (.int .i64) (.int .i64))) (xs := l6_1) (ys := x63) (m := x63.length) rfl Try.underlying56 Try.underlying56 Try.type58 rfl rfl rfl (hC.srcr (i := 0) rfl) rfl rfl (by have := lim_some h75; simp at this ⊢ <;> omega) (by decide)) ?_
 rintro _ w80 ⟨A76, c77, rfl, hl78, hc79, hC, hF, hN⟩
 clear hF hN
 refine lp (.slice A76 ((l6_1 ++ x63).length) c77) (pu_assign rfl) ?_
 refine ln ?_
 refine hK61 _ _ ?_
 refine rg ?_
 obtain ⟨z81, h82, hb⟩ := bd hb
 refine lp (.int .i64 z81) (pu_addc (a := v27_1) (b := 1) e27 rfl h82) ?_
 refine lp (.int .i64 z81) (pu_move rfl) ?_
 refine ln ?_
 obtain rfl := os hb
 exact hK53 m54' _ _ (Nat.lt_succ_self _) ⟨(l6_1 ++ x63), z81, A76, (l6_1 ++ x63).length, c77, e2, rfl, e25, e26, rfl, (chk_rng h82), hC.sel [1, 2] (by decide), lN hl1⟩
 replace hb := tf hq60 hb
 refine Wc.exit rfl ?_
 obtain rfl := os hb
 obtain rfl := (lX hl1).symm
 exact hK52 _ _ ⟨l6_1, v27_1, Al6_1, l6_1.length, cl6_1, e2, e6, hrv27_1, hC.sel [0] (by decide), hbK1⟩
 clear hb hC hl1
 rintro E84 w83 ⟨l6_1, v27_1, Al6_1, ml6_1, cl6_1, e2, e6, hrv27_1, hC, hb⟩
 obtain ⟨rfl, hll6_1, hcl6_1⟩ := (hC.ow (i := 0) rfl).sl_len
 refine hK49 _ _ ?_
 refine Wc.seq fun K85 hK85 => ?_
 refine rg ?_
 refine lp (.slice Al6_1 l6_1.length cl6_1) (pu_move e6) ?_
 refine lp (.slice Al6_1 l6_1.length cl6_1) (pu_assign rfl) ?_
 refine ln ?_
 refine hK85 _ _ ?_
 obtain rfl := os hb
 refine Wc.ret ?_
 refine hKR _ _ ?_
 refine ⟨_, res1 Try.results40 (show RV _ _ _ (.tmp _) (.slice Al6_1 l6_1.length cl6_1) from rfl), _, rfl, Al6_1, l6_1.length, cl6_1, rfl, hC.sel [0] (by decide)⟩

set_option maxRecDepth 100000 in
set_option maxHeartbeats 4000000 in
theorem gridlink_Diagram_c1_ok (n : Nat) {w : World} {O0 : List Nat} (hO : ∀ k ∈ O0, k < w.heap.size) {gu_0 : Nat} {Au_0_0 : Option Addr} {mu_0_0 cu_0_0 : Nat} {u_0_0 : List (Int × Int)} (hu_0_0 : Rep O0 w (.sl (.pr (.int .i64) (.int .i64))) [.slice Au_0_0 mu_0_0 cu_0_0] u_0_0) {gu_1 : Nat} {Au_1_0 : Option Addr} {mu_1_0 cu_1_0 : Nat} {u_1_0 : List Bool} {gu_2 : Nat} {u_2_0 : Int} (hu_2_0 : I64 u_2_0) {gu_3 : Nat} {Au_3_0 : Option Addr} {mu_3_0 cu_3_0 : Nat} {u_3_0 : List Int} (hu_3_0 : Rep O0 w (.sl (.int .i64)) [.slice Au_3_0 mu_3_0 cu_3_0] u_3_0) {Au_3_1 : Option Addr} {mu_3_1 cu_3_1 : Nat} {u_3_1 : List Int} (hu_3_1 : Rep O0 w (.sl (.int .i64)) [.slice Au_3_1 mu_3_1 cu_3_1] u_3_1) {gu_4 : Nat} {Au_4_0 : Option Addr} {mu_4_0 cu_4_0 : Nat} {u_4_0 : List (List (Int × Int))} (hu_4_0 : Rep O0 w (.sl (.sl (.pr (.int .i64) (.int .i64)))) [.slice Au_4_0 mu_4_0 cu_4_0] u_4_0) {gu_5 : Nat} {Au_5_0 : Option Addr} {mu_5_0 cu_5_0 : Nat} {u_5_0 : List (List (Int × Int))} (hu_5_0 : Rep O0 w (.sl (.sl (.pr (.int .i64) (.int .i64)))) [.slice Au_5_0 mu_5_0 cu_5_0] u_5_0) {gu_6 : Nat} {Au_6_0 : Option Addr} {mu_6_0 cu_6_0 : Nat} {u_6_0 : List Int} (hu_6_0 : Rep O0 w (.sl (.int .i64)) [.slice Au_6_0 mu_6_0 cu_6_0] u_6_0) (hio : Tk O0 w [.own 4 .bool (.slice Au_1_0 mu_1_0 cu_1_0) u_1_0, .box gu_0 56 [.slice Au_0_0 mu_0_0 cu_0_0], .box gu_1 55 [.slice Au_1_0 mu_1_0 cu_1_0], .box gu_2 3 [.int .i64 u_2_0], .box gu_3 24 [.slice Au_3_0 mu_3_0 cu_3_0, .slice Au_3_1 mu_3_1 cu_3_1], .box gu_4 51 [.slice Au_4_0 mu_4_0 cu_4_0], .box gu_5 51 [.slice Au_5_0 mu_5_0 cu_5_0], .box gu_6 22 [.slice Au_6_0 mu_6_0 cu_6_0]]) {r : Int × Int × Bool × (List Bool) × (List (Int × Int)) × Int} (hb : F.gridlink_Diagram_c1 n u_0_0 u_1_0 u_2_0 u_3_0 u_3_1 u_4_0 u_5_0 u_6_0 = some r) :
    Calls Try.prog 39 #[.pointer (some ⟨gu_0, 0, none⟩), .pointer (some ⟨gu_1, 0, none⟩), .pointer (some ⟨gu_2, 0, none⟩), .pointer (some ⟨gu_3, 0, none⟩), .pointer (some ⟨gu_4, 0, none⟩), .pointer (some ⟨gu_5, 0, none⟩), .pointer (some ⟨gu_6, 0, none⟩)] w fun e w' => ∃ v, e = .returned v ∧ ∃ (A4 : Option Addr) (m4 c4 : Nat), v = .tuple #[.agg #[.int .i64 r.1, .int .i64 r.2.1], .bool r.2.2.1] ∧ I64 r.1 ∧ I64 r.2.1 ∧ I64 r.2.2.2.2.2 ∧ Cx (fun k => k ∈ blocks [.own 4 .bool (.slice Au_1_0 mu_1_0 cu_1_0) u_1_0, .box gu_0 56 [.slice Au_0_0 mu_0_0 cu_0_0], .box gu_1 55 [.slice Au_1_0 mu_1_0 cu_1_0], .box gu_2 3 [.int .i64 u_2_0], .box gu_3 24 [.slice Au_3_0 mu_3_0 cu_3_0, .slice Au_3_1 mu_3_1 cu_3_1], .box gu_4 51 [.slice Au_4_0 mu_4_0 cu_4_0], .box gu_5 51 [.slice Au_5_0 mu_5_0 cu_5_0], .box gu_6 22 [.slice Au_6_0 mu_6_0 cu_6_0]]) O0 w w' [.own 4 .bool (.slice Au_1_0 mu_1_0 cu_1_0) r.2.2.2.1, .ro (.sl (.pr (.int .i64) (.int .i64))) [.slice A4 m4 c4] r.2.2.2.2.1, .box gu_0 56 [.slice A4 m4 c4], .box gu_1 55 [.slice Au_1_0 mu_1_0 cu_1_0], .box gu_2 3 [.int .i64 r.2.2.2.2.2], .box gu_3 24 [.slice Au_3_0 mu_3_0 cu_3_0, .slice Au_3_1 mu_3_1 cu_3_1], .box gu_4 51 [.slice Au_4_0 mu_4_0 cu_4_0], .box gu_5 51 [.slice Au_5_0 mu_5_0 cu_5_0], .box gu_6 22 [.slice Au_6_0 mu_6_0 cu_6_0]] := by
 unfold F.gridlink_Diagram_c1 at hb
 have hC := Cx.startTk hO hio
 have hsub := hio.2.2
 replace hC := hC.argTk (by first | exact hsub | exact fun k hk => hsub k (by simpa [blocks, Fact.blk] using hk)) hu_0_0
 replace hC := hC.argTk (by first | exact hsub | exact fun k hk => hsub k (by simpa [blocks, Fact.blk] using hk)) hu_3_0
 replace hC := hC.argTk (by first | exact hsub | exact fun k hk => hsub k (by simpa [blocks, Fact.blk] using hk)) hu_3_1
 replace hC := hC.argTk (by first | exact hsub | exact fun k hk => hsub k (by simpa [blocks, Fact.blk] using hk)) hu_4_0
 replace hC := hC.argTk (by first | exact hsub | exact fun k hk => hsub k (by simpa [blocks, Fact.blk] using hk)) hu_5_0
 replace hC := hC.argTk (by first | exact hsub | exact fun k hk => hsub k (by simpa [blocks, Fact.blk] using hk)) hu_6_0
 clear hO
 obtain ⟨rfl, hlu_0_0, hcu_0_0⟩ := hu_0_0.sl_len
 obtain ⟨rfl, hlu_3_0, hcu_3_0⟩ := hu_3_0.sl_len
 obtain ⟨rfl, hlu_3_1, hcu_3_1⟩ := hu_3_1.sl_len
 obtain ⟨rfl, hlu_4_0, hcu_4_0⟩ := hu_4_0.sl_len
 obtain ⟨rfl, hlu_5_0, hcu_5_0⟩ := hu_5_0.sl_len
 obtain ⟨rfl, hlu_6_0, hcu_6_0⟩ := hu_6_0.sl_len
 obtain ⟨rfl, hlu_1_0, hcu_1_0⟩ := (hC.ow (i := 6) rfl).sl_len
 clear hio hsub
 obtain ⟨I, hI, hC⟩ : ∃ I : Nat → Prop, I = (fun k => k ∈ blocks [.own 4 .bool (.slice Au_1_0 u_1_0.length cu_1_0) u_1_0, .box gu_0 56 [.slice Au_0_0 u_0_0.length cu_0_0], .box gu_1 55 [.slice Au_1_0 u_1_0.length cu_1_0], .box gu_2 3 [.int .i64 u_2_0], .box gu_3 24 [.slice Au_3_0 u_3_0.length cu_3_0, .slice Au_3_1 u_3_1.length cu_3_1], .box gu_4 51 [.slice Au_4_0 u_4_0.length cu_4_0], .box gu_5 51 [.slice Au_5_0 u_5_0.length cu_5_0], .box gu_6 22 [.slice Au_6_0 u_6_0.length cu_6_0]]) ∧ Cx I O0 w w ([.ro (.sl (.int .i64)) [.slice Au_6_0 u_6_0.length cu_6_0] u_6_0, .ro (.sl (.sl (.pr (.int .i64) (.int .i64)))) [.slice Au_5_0 u_5_0.length cu_5_0] u_5_0, .ro (.sl (.sl (.pr (.int .i64) (.int .i64)))) [.slice Au_4_0 u_4_0.length cu_4_0] u_4_0, .ro (.sl (.int .i64)) [.slice Au_3_1 u_3_1.length cu_3_1] u_3_1, .ro (.sl (.int .i64)) [.slice Au_3_0 u_3_0.length cu_3_0] u_3_0, .ro (.sl (.pr (.int .i64) (.int .i64))) [.slice Au_0_0 u_0_0.length cu_0_0] u_0_0, .own 4 .bool (.slice Au_1_0 u_1_0.length cu_1_0) u_1_0, .box gu_0 56 [.slice Au_0_0 u_0_0.length cu_0_0], .box gu_1 55 [.slice Au_1_0 u_1_0.length cu_1_0], .box gu_2 3 [.int .i64 u_2_0], .box gu_3 24 [.slice Au_3_0 u_3_0.length cu_3_0, .slice Au_3_1 u_3_1.length cu_3_1], .box gu_4 51 [.slice Au_4_0 u_4_0.length cu_4_0], .box gu_5 51 [.slice Au_5_0 u_5_0.length cu_5_0], .box gu_6 22 [.slice Au_6_0 u_6_0.length cu_6_0]]) := ⟨_, rfl, hC⟩
 refine calls_of_Wc Try.func39 rfl (by rw [Try.ntmps39]; exact Nat.le_of_ble_eq_true rfl) fun KR hKR => ?_
 refine Wc.seq fun K15 hK15 => ?_
 refine rg ?_
 refine lex.op (hC.alloc (cs := [.int .i64 0, .int .i64 0]) Try.zeroValue58 rfl) ?_
 rintro _ w17 ⟨g16, rfl, hC, hF, hG⟩
 clear hG
 refine lp (.bool false) (pu_assign rfl) ?_
 refine ln ?_
 refine hK15 _ _ ?_
 refine Wc.seq fun K19 hK19 => ?_
 obtain ⟨o20, hl0, hb⟩ := bd hb
 refine Wc.cut (fun E wv => ∃ (kf1_0_0 : List (Int × Int)) (qf4_0 : List Bool) (bf5_0_0 : Int) (Akf1_0_0 : Option Addr) (mkf1_0_0 ckf1_0_0 : Nat), E 0 = .pointer (some ⟨gu_0, 0, none⟩) ∧ E 7 = .pointer (some ⟨g16, 0, none⟩) ∧ E 8 = .bool false ∧ I64 bf5_0_0 ∧ Cx I O0 w wv [.box gu_0 56 [.slice Akf1_0_0 mkf1_0_0 ckf1_0_0], .ro (.sl (.pr (.int .i64) (.int .i64))) [.slice Akf1_0_0 mkf1_0_0 ckf1_0_0] kf1_0_0, .box g16 58 [.int .i64 0, .int .i64 0], .own 4 .bool (.slice Au_1_0 u_1_0.length cu_1_0) qf4_0, .box gu_1 55 [.slice Au_1_0 u_1_0.length cu_1_0], .box gu_2 3 [.int .i64 bf5_0_0], .box gu_3 24 [.slice Au_3_0 u_3_0.length cu_3_0, .slice Au_3_1 u_3_1.length cu_3_1], .box gu_4 51 [.slice Au_4_0 u_4_0.length cu_4_0], .box gu_5 51 [.slice Au_5_0 u_5_0.length cu_5_0], .box gu_6 22 [.slice Au_6_0 u_6_0.length cu_6_0], .ro (.sl (.int .i64)) [.slice Au_3_0 u_3_0.length cu_3_0] u_3_0, .ro (.sl (.int .i64)) [.slice Au_3_1 u_3_1.length cu_3_1] u_3_1, .ro (.sl (.sl (.pr (.int .i64) (.int .i64)))) [.slice Au_4_0 u_4_0.length cu_4_0] u_4_0, .ro (.sl (.sl (.pr (.int .i64) (.int .i64)))) [.slice Au_5_0 u_5_0.length cu_5_0] u_5_0, .ro (.sl (.int .i64)) [.slice Au_6_0 u_6_0.length cu_6_0] u_6_0] ∧ ((get kf1_0_0 0).bind fun x111 => (cut 1 (kf1_0_0.length : Int) kf1_0_0.length).bind fun u126 => some (x111.1, x111.2, true, qf4_0, ((kf1_0_0.drop (1 : Int).toNat).take ((kf1_0_0.length : Int).toNat - (1 : Int).toNat)), bf5_0_0) : Option (Int × Int × Bool × (List Bool) × (List (Int × Int)) × Int)) = some r) (fun K21 hK21 => ?_) ?_
 refine Wc.block ?_
 refine Wc.loop (fun m E wv => ∃ (kf1_0_0 : List (Int × Int)) (qf4_0 : List Bool) (bf5_0_0 : Int) (Akf1_0_0 : Option Addr) (mkf1_0_0 ckf1_0_0 : Nat), E 0 = .pointer (some ⟨gu_0, 0, none⟩) ∧ E 1 = .pointer (some ⟨gu_1, 0, none⟩) ∧ E 2 = .pointer (some ⟨gu_2, 0, none⟩) ∧ E 3 = .pointer (some ⟨gu_3, 0, none⟩) ∧ E 4 = .pointer (some ⟨gu_4, 0, none⟩) ∧ E 5 = .pointer (some ⟨gu_5, 0, none⟩) ∧ E 6 = .pointer (some ⟨gu_6, 0, none⟩) ∧ E 7 = .pointer (some ⟨g16, 0, none⟩) ∧ E 8 = .bool false ∧ I64 bf5_0_0 ∧ Cx I O0 w wv [.box gu_0 56 [.slice Akf1_0_0 mkf1_0_0 ckf1_0_0], .ro (.sl (.pr (.int .i64) (.int .i64))) [.slice Akf1_0_0 mkf1_0_0 ckf1_0_0] kf1_0_0, .box gu_1 55 [.slice Au_1_0 u_1_0.length cu_1_0], .own 4 .bool (.slice Au_1_0 u_1_0.length cu_1_0) qf4_0, .box gu_2 3 [.int .i64 bf5_0_0], .box gu_3 24 [.slice Au_3_0 u_3_0.length cu_3_0, .slice Au_3_1 u_3_1.length cu_3_1], .ro (.sl (.int .i64)) [.slice Au_3_0 u_3_0.length cu_3_0] u_3_0, .ro (.sl (.int .i64)) [.slice Au_3_1 u_3_1.length cu_3_1] u_3_1, .box gu_4 51 [.slice Au_4_0 u_4_0.length cu_4_0], .ro (.sl (.sl (.pr (.int .i64) (.int .i64)))) [.slice Au_4_0 u_4_0.length cu_4_0] u_4_0, .box gu_5 51 [.slice Au_5_0 u_5_0.length cu_5_0], .ro (.sl (.sl (.pr (.int .i64) (.int .i64)))) [.slice Au_5_0 u_5_0.length cu_5_0] u_5_0, .box gu_6 22 [.slice Au_6_0 u_6_0.length cu_6_0], .ro (.sl (.int .i64)) [.slice Au_6_0 u_6_0.length cu_6_0] u_6_0, .box g16 58 [.int .i64 0, .int .i64 0]] ∧ loopN m (F.gridlink_Diagram_c1_b0 n u_3_1 u_4_0 u_5_0 u_6_0) (kf1_0_0, qf4_0, bf5_0_0) = some o20) n ⟨u_0_0, u_1_0, u_2_0, Au_0_0, u_0_0.length, cu_0_0, rfl, rfl, rfl, rfl, rfl, rfl, rfl, rfl, rfl, hu_2_0, hC.sel [8, 6, 9, 7, 10, 11, 5, 4, 12, 3, 13, 2, 14, 1, 0] (by decide), hl0⟩ ?_
 have hbK0 := hb
 clear hb hC hl0
 rintro m23 E25 w24 ⟨kf1_0_0, qf4_0, bf5_0_0, Akf1_0_0, mkf1_0_0, ckf1_0_0, e0, e1, e2, e3, e4, e5, e6, e7, e8, hrbf5_0_0, hC, hl0⟩ K22 hK22
 obtain ⟨m23', o26, rfl, hb, hl0⟩ := loopN_some hl0
 unfold F.gridlink_Diagram_c1_b0 at hb
 obtain ⟨rfl, hlkf1_0_0, hckf1_0_0⟩ := (hC.rd (i := 1) rfl).sl_len
 refine Wc.seq fun K27 hK27 => ?_
 refine Wc.seq fun K28 hK28 => ?_
 refine rg ?_
 refine lv (.slice Akf1_0_0 kf1_0_0.length ckf1_0_0) (ld_one Try.isAgg56 e0 ((hC.bx (i := 0) rfl).cell (j := 0) rfl)) ?_
 refine lp (.int .i64 (kf1_0_0.length : Int)) (pu_len (A := Akf1_0_0) (n := kf1_0_0.length) (m := ckf1_0_0) Try.underlying56 rfl) ?_
 refine lp (.bool (decide ((kf1_0_0.length : Int) = 0))) (pu_eql (k := .i64) (a := (kf1_0_0.length : Int)) (b := 0) rfl rfl) ?_
 refine ln ?_
 refine hK28 _ _ ?_
 refine Wc.cond (t := (decide ((kf1_0_0.length : Int) = 0))) (rfl) (fun hq29 => ?_) (fun hq29 => ?_)
 replace hb := tt hq29 hb
 refine Wc.skip ?_
 refine hK27 _ _ ?_
 refine Wc.block ?_
 refine Wc.seq fun K30 hK30 => ?_
 refine Wc.seq fun K31 hK31 => ?_
 refine rg ?_
 refine lv (.slice Au_1_0 u_1_0.length cu_1_0) (ld_one Try.isAgg55 e1 ((hC.bx (i := 2) rfl).cell (j := 0) rfl)) ?_
 refine lv (.int .i64 bf5_0_0) (ld_one Try.isAgg3 e2 ((hC.bx (i := 4) rfl).cell (j := 0) rfl)) ?_
 obtain ⟨x32, h33, hb⟩ := bd hb
 obtain ⟨ad34, cs35, hA, hc36, hr37⟩ := hC.elo (i := 3) rfl (get_some h33).2
 subst hA
 refine lp (.pointer (some (ad34.add (bf5_0_0.toNat * 1)))) (pu_index (a := bf5_0_0) Try.underlying55 Try.sizeOf4 rfl rfl (by rw [(hC.ow (i := 3) rfl).sl_len.1]; exact (get_some h33).1)) ?_
 obtain rfl := (show _ = _ from hr37)
 refine lv (.bool x32) (ld_one Try.isAgg4 rfl (hc36 0 _ rfl)) ?_
 refine ln ?_
 refine hK31 _ _ ?_
 refine Wc.cond (t := x32) (rfl) (fun hq38 => ?_) (fun hq38 => ?_)
 replace hb := tt hq38 hb
 refine Wc.seq fun K39 hK39 => ?_
 refine rg ?_
 refine lp (.agg #[.int .i64 0, .int .i64 0]) (pu_builds (places := [(0, 1), (1, 1)]) (pv := []) Try.type58 Try.underlying58 rfl (mp_cons Try.type3 (mp_cons Try.type3 mp_nil rfl rfl) rfl rfl) rfl (by simp [Instr.fill, Value.cells])) ?_
 refine lex.sk (hC.seta (i := 14) (ds := [.int .i64 0, .int .i64 0]) rfl Try.type58 rfl rfl rfl e7 rfl) ?_
 rintro w40 ⟨hC, hF⟩
 refine lp (.bool false) (pu_assign rfl) ?_
 refine ln ?_
 refine hK39 _ _ ?_
 obtain rfl := os hb
 obtain rfl := (lX hl0).symm
 replace hb := hbK0
 obtain rfl := os hb
 subst hI
 refine Wc.ret ?_
 refine hKR _ _ ?_
 refine ⟨_, res2 Try.results39 ⟨_, e7, loadVar_blk (hC.bx (i := 14) rfl) Try.isAgg58 Try.sizeOf58⟩ (show RV _ _ _ (.tmp _) (.bool false) from rfl), _, rfl, Akf1_0_0, kf1_0_0.length, ckf1_0_0, rfl, (show I64 0 from by unfold I64; omega), (show I64 0 from by unfold I64; omega), hrbf5_0_0, hC.sel [3, 1, 0, 2, 4, 5, 8, 10, 12] (by decide)⟩
 replace hb := tf hq38 hb
 refine Wc.skip ?_
 refine hK30 _ _ ?_
 refine Wc.seq fun K41 hK41 => ?_
 refine rg ?_
 refine lv (.slice (some ad34) u_1_0.length cu_1_0) (ld_one Try.isAgg55 e1 ((hC.bx (i := 2) rfl).cell (j := 0) rfl)) ?_
 refine lv (.int .i64 bf5_0_0) (ld_one Try.isAgg3 e2 ((hC.bx (i := 4) rfl).cell (j := 0) rfl)) ?_
 obtain ⟨x42, h43, hb⟩ := bd hb
 obtain ⟨ad44, cs45, hA, hc46, hr47⟩ := hC.elo (i := 3) rfl (get_some h43).2
 obtain rfl := Option.some.inj hA
 refine lp (.pointer (some (ad34.add (bf5_0_0.toNat * 1)))) (pu_index (a := bf5_0_0) Try.underlying55 Try.sizeOf4 rfl rfl (by rw [(hC.ow (i := 3) rfl).sl_len.1]; exact (get_some h43).1)) ?_
 refine lex.sk (hC.put (i := 3) rfl rfl Try.sizeOf4 (k := bf5_0_0.toNat) (a := true) (by have := (get_some h43).1; simp at this ⊢; omega) (show Rep _ _ .bool _ _ from rfl) rfl rfl rfl) ?_
 rintro w48 ⟨hC, hF⟩
 refine ln ?_
 refine hK41 _ _ ?_
 refine Wc.fresh fun E49 hE => ?_
 have e0 := (congrFun hE 0).trans e0
 have e1 := (congrFun hE 1).trans e1
 have e2 := (congrFun hE 2).trans e2
 have e3 := (congrFun hE 3).trans e3
 have e4 := (congrFun hE 4).trans e4
 have e5 := (congrFun hE 5).trans e5
 have e6 := (congrFun hE 6).trans e6
 have e7 := (congrFun hE 7).trans e7
 have e8 := (congrFun hE 8).trans e8
 have e13 : E49 13 = .bool (decide ((kf1_0_0.length : Int) = 0)) := (congrFun hE 13).trans rfl
 have e17 : E49 17 = .bool x32 := (congrFun hE 17).trans rfl
 clear hE
 refine Wc.seq fun K50 hK50 => ?_
 refine rg ?_
 refine lp (.pointer (some ((⟨gu_3, 0, none⟩ : Addr).add 1))) (pu_field (sz := 1) Try.underlying24 rfl Try.sizeOf22 (by decide) rfl e3) ?_
 refine lv (.slice Au_3_1 u_3_1.length cu_3_1) (ld_fld (hC.bx (i := 5) rfl) Try.isAgg22 rfl rfl) ?_
 refine lv (.int .i64 bf5_0_0) (ld_one Try.isAgg3 e2 ((hC.bx (i := 4) rfl).cell (j := 0) rfl)) ?_
 obtain ⟨x51, h52, hb⟩ := bd hb
 obtain ⟨ad53, cs54, hA, hc55, hr56⟩ := hC.elr (i := 7) rfl (get_some h52).2
 subst hA
 refine lp (.pointer (some (ad53.add (bf5_0_0.toNat * 1)))) (pu_index (a := bf5_0_0) Try.underlying22 Try.sizeOf3 rfl rfl (get_some h52).1) ?_
 obtain ⟨rfl, hr56'⟩ := hr56
 refine lv (.int .i64 x51) (ld_one Try.isAgg3 rfl (hc55 0 _ rfl)) ?_
 refine lp (.int .i64 x51) (pu_assign rfl) ?_
 refine ln ?_
 refine hK50 _ _ ?_
 refine Wc.seq fun K57 hK57 => ?_
 refine Wc.regionMix [27, 28, 30, 31, 34] (frm [27, 28, 30, 31, 34] ([] : List Fact) [.box gu_0 56 [.slice Akf1_0_0 kf1_0_0.length ckf1_0_0]]) (fun _ => rfl) mixed (by decide +kernel) (by decide +kernel) fun w59 hw58 => ?_
 replace hC := hC.step (Fr.of_drew hw58)
 have hM := Fr.refl (fun k => k ∈ blocks ([] : List Fact)) w59
 clear hw58
 have hS := hC
 have hD : Fr (fun k => k ∈ blocks (([] : List Fact) ++ [.box gu_0 56 [.slice Akf1_0_0 kf1_0_0.length ckf1_0_0]])) w59 w59 := hM.wide
 have hUf1 : gu_0 < w59.heap.size → gu_0 ∈ blocks (([] : List Fact) ++ [.box gu_0 56 [.slice Akf1_0_0 kf1_0_0.length ckf1_0_0]]) := fun _ => box_in (i := 0) rfl
 refine mixE.steady hD (v := .slice Au_4_0 u_4_0.length cu_4_0) (fun _ hF => ld_one Try.isAgg51 e4 ((hS.bx2 (i := 8) rfl [0] (by decide) hF).cell (j := 0) rfl)) ?_
 refine mixE.steady hD (v := .int .i64 bf5_0_0) (fun _ hF => ld_one Try.isAgg3 e2 ((hS.bx2 (i := 4) rfl [0] (by decide) hF).cell (j := 0) rfl)) ?_
 obtain ⟨x60, h61, hb⟩ := bd hb
 obtain ⟨ad62, cs63, hA, ho66, hc64, hr65⟩ := hS.elr2 (i := 9) rfl (get_some h61).2 [0]
 subst hA
 refine mp (.pointer (some (ad62.add (bf5_0_0.toNat * 1)))) (pu_index (a := bf5_0_0) Try.underlying51 Try.sizeOf56 rfl rfl (get_some h61).1) ?_
 have hR := hr65
 obtain ⟨A67, c68, rfl, hl69, hc70, _⟩ := hr65
 replace hS := hS.ro hR
 replace hC := hC.ro hR
 clear hR
 refine mixE.steady hD (v := .slice A67 x60.length c68) (fun _ hF => ld_one Try.isAgg56 rfl (hF.cell (hc64 0 _ rfl) (off1 ho66))) ?_
 refine mixE.steady hD (v := .slice Au_5_0 u_5_0.length cu_5_0) (fun _ hF => ld_one Try.isAgg51 e5 ((hS.bx2 (i := 11) rfl [1] (by decide) hF).cell (j := 0) rfl)) ?_
 refine mp (.int .i64 x51) (pu_move rfl) ?_
 obtain ⟨x72, h73, hb⟩ := bd hb
 obtain ⟨ad74, cs75, hA, ho78, hc76, hr77⟩ := hS.elr2 (i := 12) rfl (get_some h73).2 [1]
 subst hA
 refine mp (.pointer (some (ad74.add (x51.toNat * 1)))) (pu_index (a := x51) Try.underlying51 Try.sizeOf56 rfl rfl (get_some h73).1) ?_
 have hR := hr77
 obtain ⟨A79, c80, rfl, hl81, hc82, _⟩ := hr77
 replace hS := hS.ro hR
 replace hC := hC.ro hR
 clear hR
 refine mixE.steady hD (v := .slice A79 x72.length c80) (fun _ hF => ld_one Try.isAgg56 rfl (hF.cell (hc76 0 _ rfl) (off1 ho78))) ?_
 refine mixE.op hM (hC.lit (s := (.sl (.pr (.int .i64) (.int .i64)))) (vs := [.slice A67 x60.length c68, .slice A79 x72.length c80]) (xs := [x60, x72]) Try.underlying51 Try.type56 rfl rfl (Nat.le_of_ble_eq_true rfl) rfl rfl (by simp [Value.cells, Sh.n]) rfl (show Elems _ _ (.sl (.pr (.int .i64) (.int .i64))) ([.slice A67 x60.length c68] ++ ([.slice A79 x72.length c80] ++ ([]))) ([x60, x72] : List (List (Int × Int))) from Elems.cons (hC.rd (i := 1) rfl) (Elems.cons (hC.rd (i := 0) rfl) (Elems.nil _ _ _)))) ?_
 rintro _ w88 ⟨A84, c85, rfl, hl86, hc87, hC, hF, hN⟩
 have hBf89 := Beside.new hM hN
 have hUf89 := Beside.new (hM.wide (H := [.box gu_0 56 [.slice Akf1_0_0 kf1_0_0.length ckf1_0_0]])) hN
 replace hM := hM.none hF
 replace hD := hM.wide (H := [.box gu_0 56 [.slice Akf1_0_0 kf1_0_0.length ckf1_0_0]])
 refine ⟨hM, ?_⟩
 clear hF hN
 obtain ⟨y90, h91, hb⟩ := bd hb
 refine mixE.cl hM (⟨_, _, op_call (vs := [.slice A84 ((([x60, x72] : List (List (Int × Int)))).length) c85]) Try.call40 rfl rfl rfl, slices_Concat_passage_passage_ok n (hC.lentLt [.slice A84 ((([x60, x72] : List (List (Int × Int)))).length) c85]) ((hC.ow (i := 0) rfl).lend (vs := [.slice A84 ((([x60, x72] : List (List (Int × Int)))).length) c85]) (by simp)) h91⟩) ?_
 rintro _ w96 ⟨A92, m93, c94, rfl, hK⟩
 have hBf95 := Beside.cl (i := 0) hM hK rfl
 have hUf95 := hBf95.wide (H := [.box gu_0 56 [.slice Akf1_0_0 kf1_0_0.length ckf1_0_0]])
 replace hM := hM.none hK.fr
 replace hD := hM.wide (H := [.box gu_0 56 [.slice Akf1_0_0 kf1_0_0.length ckf1_0_0]])
 refine ⟨hM, ?_⟩
 replace hC := hC.mergeF hK rfl
 clear hK
 obtain ⟨rfl, hl97, hc98⟩ := (hC.ow (i := 0) rfl).sl_len
 refine mixE.sk hD (hC.setf (i := 4) (k := 0) (v := .slice A92 y90.length c94) rfl Try.sizeOf56 rfl (by rw [Addr.add_zero']; exact e0) rfl rfl) ?_
 rintro w99 ⟨hC, hF⟩
 replace hD := hD.besideG hUf1 hF
 clear hF
 refine ⟨hD, ?_⟩
 refine mixE.nil ?_
 clear hS hM
 clear hD
 refine hK57 _ _ ?_
 refine Wc.fresh fun E100 hE => ?_
 have e0 := (congrFun hE 0).trans e0
 have e1 := (congrFun hE 1).trans e1
 have e2 := (congrFun hE 2).trans e2
 have e3 := (congrFun hE 3).trans e3
 have e4 := (congrFun hE 4).trans e4
 have e5 := (congrFun hE 5).trans e5
 have e6 := (congrFun hE 6).trans e6
 have e7 := (congrFun hE 7).trans e7
 have e8 := (congrFun hE 8).trans e8
 have e9 : E100 9 = .int .i64 x51 := (congrFun hE 9).trans rfl
 have e13 := (congrFun hE 13).trans e13
 have e17 := (congrFun hE 17).trans e17
 clear hE
 refine rg ?_
 refine lv (.slice Au_6_0 u_6_0.length cu_6_0) (ld_one Try.isAgg22 e6 ((hC.bx (i := 16) rfl).cell (j := 0) rfl)) ?_
 refine lp (.int .i64 x51) (pu_move e9) ?_
 obtain ⟨x101, h102, hb⟩ := bd hb
 obtain ⟨ad103, cs104, hA, hc105, hr106⟩ := hC.elr (i := 17) rfl (get_some h102).2
 subst hA
 refine lp (.pointer (some (ad103.add (x51.toNat * 1)))) (pu_index (a := x51) Try.underlying22 Try.sizeOf3 rfl rfl (get_some h102).1) ?_
 obtain ⟨rfl, hr106'⟩ := hr106
 refine lv (.int .i64 x101) (ld_one Try.isAgg3 rfl (hc105 0 _ rfl)) ?_
 refine lex.sk (hC.setf (i := 8) (k := 0) (v := .int .i64 x101) rfl Try.sizeOf3 rfl (by rw [Addr.add_zero']; exact e2) rfl rfl) ?_
 rintro w107 ⟨hC, hF⟩
 refine ln ?_
 replace hC := hC.freeze (i := 0) rfl (hC.own_newI hI (i := 0) rfl (List.forall_mem_cons.2 ⟨fun g hg => ⟨7, _, rfl, by decide, blk_own hg⟩, List.forall_mem_cons.2 ⟨fun g hg => ⟨4, _, rfl, by decide, hg⟩, List.forall_mem_cons.2 ⟨fun g hg => ⟨6, _, rfl, by decide, hg⟩, List.forall_mem_cons.2 ⟨fun g hg => ⟨8, _, rfl, by decide, hg⟩, List.forall_mem_cons.2 ⟨fun g hg => ⟨9, _, rfl, by decide, hg⟩, List.forall_mem_cons.2 ⟨fun g hg => ⟨12, _, rfl, by decide, hg⟩, List.forall_mem_cons.2 ⟨fun g hg => ⟨14, _, rfl, by decide, hg⟩, List.forall_mem_cons.2 ⟨fun g hg => ⟨16, _, rfl, by decide, hg⟩, fun _ h => absurd h List.not_mem_nil⟩⟩⟩⟩⟩⟩⟩⟩))
 obtain rfl := os hb
 exact hK22 m23' _ _ (Nat.lt_succ_self _) ⟨y90, (qf4_0.set bf5_0_0.toNat true), x101, A92, y90.length, c94, e0, e1, e2, e3, e4, e5, e6, e7, e8, (wrap_I64 hr106'), hC.sel [4, 0, 6, 7, 8, 9, 10, 11, 12, 13, 14, 15, 16, 17, 18] (by decide), lN hl0⟩
 replace hb := tf hq29 hb
 refine Wc.exit rfl ?_
 obtain rfl := os hb
 obtain rfl := (lX hl0).symm
 exact hK21 _ _ ⟨kf1_0_0, qf4_0, bf5_0_0, Akf1_0_0, kf1_0_0.length, ckf1_0_0, e0, e7, e8, hrbf5_0_0, hC.sel [0, 1, 14, 3, 2, 4, 5, 8, 10, 12, 6, 7, 9, 11, 13] (by decide), hbK0⟩
 clear hb hC hl0
 rintro E109 w108 ⟨kf1_0_0, qf4_0, bf5_0_0, Akf1_0_0, mkf1_0_0, ckf1_0_0, e0, e7, e8, hrbf5_0_0, hC, hb⟩
 obtain ⟨rfl, hlkf1_0_0, hckf1_0_0⟩ := (hC.rd (i := 1) rfl).sl_len
 refine hK19 _ _ ?_
 refine Wc.seq fun K110 hK110 => ?_
 refine rg ?_
 refine lv (.slice Akf1_0_0 kf1_0_0.length ckf1_0_0) (ld_one Try.isAgg56 e0 ((hC.bx (i := 0) rfl).cell (j := 0) rfl)) ?_
 obtain ⟨x111, h112, hb⟩ := bd hb
 obtain ⟨ad113, cs114, hA, hc115, hr116⟩ := hC.elr (i := 1) rfl (get_some h112).2
 subst hA
 refine lp (.pointer (some (ad113.add ((0 : Int).toNat * 2)))) (pu_index (a := 0) Try.underlying56 Try.sizeOf58 rfl rfl (get_some h112).1) ?_
 obtain ⟨k117, k118, rfl, hr119, hr120⟩ := hr116
 obtain ⟨rfl, hr119⟩ := hr119
 obtain ⟨rfl, hr120⟩ := hr120
 refine lv (.agg #[.int .i64 x111.1, .int .i64 x111.2]) (ld_agg Try.isAgg58 Try.sizeOf58 rfl rfl hc115) ?_
 refine lex.op (hC.alloc (cs := [.int .i64 0, .int .i64 0]) Try.zeroValue58 rfl) ?_
 rintro _ w122 ⟨g121, rfl, hC, hF, hG⟩
 clear hG
 refine lex.sk (hC.seta (i := 0) (ds := [.int .i64 x111.1, .int .i64 x111.2]) rfl Try.type58 rfl rfl rfl rfl rfl) ?_
 rintro w124 ⟨hC, hF⟩
 refine ln ?_
 refine hK110 _ _ ?_
 refine Wc.seq fun K125 hK125 => ?_
 refine rg ?_
 refine lv (.slice (some ad113) kf1_0_0.length ckf1_0_0) (ld_one Try.isAgg56 e0 ((hC.bx (i := 1) rfl).cell (j := 0) rfl)) ?_
 obtain ⟨u126, h127, hb⟩ := bd hb
 obtain ⟨A128, c129, hp132, hR133⟩ := pu_part_l (a := 1)  Try.underlying56 Try.sizeOf58 (hC.rd (i := 2) rfl) rfl (cut_some h127)
 refine lp (.slice A128 (((kf1_0_0.drop (1 : Int).toNat).take ((kf1_0_0.length : Int).toNat - (1 : Int).toNat)).length) c129) (hp132 rfl rfl ) ?_
 replace hC := hC.ro hR133
 obtain ⟨-, hl130, hc131⟩ := (hC.rd (i := 0) rfl).sl_len
 refine lex.sk (hC.setf (i := 2) (k := 0) (v := .slice A128 (((kf1_0_0.drop (1 : Int).toNat).take ((kf1_0_0.length : Int).toNat - (1 : Int).toNat)).length) c129) rfl Try.sizeOf56 rfl (by rw [Addr.add_zero']; exact e0) rfl rfl) ?_
 rintro w135 ⟨hC, hF⟩
 refine ln ?_
 refine hK125 _ _ ?_
 refine Wc.seq fun K136 hK136 => ?_
 refine rg ?_
 refine lv (.agg #[.int .i64 x111.1, .int .i64 x111.2]) (ld_blk (hC.bx (i := 1) rfl) Try.isAgg58 Try.sizeOf58 rfl) ?_
 refine lex.sk (hC.seta (i := 4) (ds := [.int .i64 x111.1, .int .i64 x111.2]) rfl Try.type58 rfl rfl rfl e7 rfl) ?_
 rintro w137 ⟨hC, hF⟩
 refine lp (.bool true) (pu_assign rfl) ?_
 refine ln ?_
 refine hK136 _ _ ?_
 obtain rfl := os hb
 subst hI
 refine Wc.ret ?_
 refine hKR _ _ ?_
 refine ⟨_, res2 Try.results39 ⟨_, e7, loadVar_blk (hC.bx (i := 4) rfl) Try.isAgg58 Try.sizeOf58⟩ (show RV _ _ _ (.tmp _) (.bool true) from rfl), _, rfl, A128, ((kf1_0_0.drop (1 : Int).toNat).take ((kf1_0_0.length : Int).toNat - (1 : Int).toNat)).length, c129, rfl, (wrap_I64 hr119), (wrap_I64 hr120), hrbf5_0_0, hC.sel [5, 0, 2, 6, 7, 8, 9, 10, 11] (by decide)⟩
end Go.Proofs.Yticemffhlapnnaa
