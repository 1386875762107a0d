/- The walks: part 7. -/
import Derived.Test.YticemffhlapnnaaS
set_option linter.unusedVariables false
set_option linter.unusedSimpArgs false
namespace Go.Proofs.Yticemffhlapnnaa
open Ev
set_option maxRecDepth 100000 in
set_option maxHeartbeats 4000000 in
theorem ref44_Braid_ok (n : Nat) {w : World} {O0 : List Nat} (hO : ∀ k ∈ O0, k < w.heap.size) {strands_0 : Int} (hstrands_0 : I64 strands_0) {Aword_1 : Option Addr} {mword_1 cword_1 : Nat} {word_1 : List Int} (hword_1 : Rep O0 w (.sl (.int .i64)) [.slice Aword_1 mword_1 cword_1] word_1) {r : (List Int) × (List Int)} (hb : F.ref44_Braid n strands_0 word_1 = some r) :
    Calls Try.prog 21 #[.int .i64 strands_0, .slice Aword_1 mword_1 cword_1] w fun e w' => ∃ v, e = .returned v ∧ ∃ (A0 : Option Addr) (m0 c0 : Nat) (A1 : Option Addr) (m1 c1 : Nat), v = .agg #[.slice A0 m0 c0, .slice A1 m1 c1] ∧ Cx (fun _ => False) O0 w w' [.own 3 (.int .i64) (.slice A0 m0 c0) r.1, .own 3 (.int .i64) (.slice A1 m1 c1) r.2] := by
 unfold F.ref44_Braid at hb
 have hC := Cx.start hO
 replace hC := hC.arg rfl hword_1
 clear hO
 obtain ⟨rfl, hlword_1, hcword_1⟩ := hword_1.sl_len
 refine calls_of_Wc Try.func21 rfl (by rw [Try.ntmps21]; exact Nat.le_of_ble_eq_true rfl) fun KR hKR => ?_
 refine Wc.seq fun K2 hK2 => ?_
 refine rg ?_
 refine lex.op (hC.alloc (cs := [.slice none 0 0, .slice none 0 0]) Try.zeroValue24 rfl) ?_
 rintro _ w4 ⟨g3, rfl, hC, hF, hG⟩
 clear hG
 refine ln ?_
 refine hK2 _ _ ?_
 refine Wc.seq fun K6 hK6 => ?_
 refine rg ?_
 refine lp (.slice Aword_1 word_1.length cword_1) (pu_move rfl) ?_
 refine lp (.int .i64 (word_1.length : Int)) (pu_len (A := Aword_1) (n := word_1.length) (m := cword_1) Try.underlying22 rfl) ?_
 refine lp (.int .i64 (word_1.length : Int)) (pu_assign rfl) ?_
 refine ln ?_
 refine hK6 _ _ ?_
 refine Wc.seq fun K7 hK7 => ?_
 refine rg ?_
 refine lp (.slice none 0 0) (pu_assign rfl) ?_
 refine lp (.slice none 0 0) (pu_assign rfl) ?_
 refine lp (.slice none 0 0) (pu_assign rfl) ?_
 refine lp (.slice none 0 0) (pu_assign rfl) ?_
 refine ln ?_
 refine hK7 _ _ ?_
 refine Wc.seq fun K8 hK8 => ?_
 refine Wc.seq fun K9 hK9 => ?_
 refine rg ?_
 refine lp (.int .i64 0) (pu_assign rfl) ?_
 refine ln ?_
 refine hK9 _ _ ?_
 replace hC := hC.nil 3 (.int .i64)
 replace hC := hC.nil 3 (.int .i64)
 replace hC := hC.nil 3 (.int .i64)
 replace hC := hC.nil 3 (.int .i64)
 obtain ⟨o14, hl0, hb⟩ := bd hb
 refine Wc.cut (fun E wv => ∃ (l6_0 : List Int) (l7_0 : List Int) (l8_0 : List Int) (l9_0 : List Int) (v10_0 : Int) (Al6_0 : Option Addr) (ml6_0 cl6_0 : Nat) (Al7_0 : Option Addr) (ml7_0 cl7_0 : Nat) (Al8_0 : Option Addr) (ml8_0 cl8_0 : Nat) (Al9_0 : Option Addr) (ml9_0 cl9_0 : Nat), E 0 = .int .i64 strands_0 ∧ E 1 = .slice Aword_1 word_1.length cword_1 ∧ E 4 = .pointer (some ⟨g3, 0, none⟩) ∧ E 5 = .int .i64 (word_1.length : Int) ∧ E 6 = .slice Al6_0 ml6_0 cl6_0 ∧ E 7 = .slice Al7_0 ml7_0 cl7_0 ∧ E 8 = .slice Al8_0 ml8_0 cl8_0 ∧ E 9 = .slice Al9_0 ml9_0 cl9_0 ∧ I64 v10_0 ∧ Cx (fun _ => False) O0 w wv [.ro (.sl (.int .i64)) [.slice Aword_1 word_1.length cword_1] word_1, .box g3 24 [.slice none 0 0, .slice none 0 0], .own 3 (.int .i64) (.slice Al6_0 ml6_0 cl6_0) l6_0, .own 3 (.int .i64) (.slice Al7_0 ml7_0 cl7_0) l7_0, .own 3 (.int .i64) (.slice Al8_0 ml8_0 cl8_0) l8_0, .own 3 (.int .i64) (.slice Al9_0 ml9_0 cl9_0) l9_0] ∧ (((loopN n (F.ref44_Braid_b1 n strands_0 word_1) (l6_0, l7_0, l8_0, 0, l9_0)).bind fun o87 => match o87 with     | (l6_1, l7_1, l8_1, v11_1, qF9_0_1) => ((loopN n (F.ref44_Braid_b5 n strands_0 word_1 qF9_0_1) (0, l8_1)).bind fun o314 => match o314 with     | (v20_5, qF8_1_5) => ((loopN n (F.ref44_Braid_b6 n l6_1 l7_1 qF8_1_5) (0, ([] : List Int), ([] : List Int))).bind fun o354 => match o354 with     | (v21_6, kf311_0_6, kf311_1_6) => (chk (strands_0 - 1)).bind fun z433 => ((loopN n (F.ref44_Braid_b7 n strands_0 word_1) (z433, kf311_0_6, kf311_1_6)).bind fun o435 => match o435 with     | (v22_7, kf311_0_7, kf311_1_7) => some (kf311_0_7, kf311_1_7))))) : Option ((List Int) × (List Int))) = some r) (fun K15 hK15 => ?_) ?_
 refine Wc.block ?_
 refine Wc.loop (fun m E wv => ∃ (l6_0 : List Int) (l7_0 : List Int) (l8_0 : List Int) (l9_0 : List Int) (v10_0 : Int) (Al6_0 : Option Addr) (ml6_0 cl6_0 : Nat) (Al7_0 : Option Addr) (ml7_0 cl7_0 : Nat) (Al8_0 : Option Addr) (ml8_0 cl8_0 : Nat) (Al9_0 : Option Addr) (ml9_0 cl9_0 : Nat), E 0 = .int .i64 strands_0 ∧ E 1 = .slice Aword_1 word_1.length cword_1 ∧ E 4 = .pointer (some ⟨g3, 0, none⟩) ∧ E 5 = .int .i64 (word_1.length : Int) ∧ E 6 = .slice Al6_0 ml6_0 cl6_0 ∧ E 7 = .slice Al7_0 ml7_0 cl7_0 ∧ E 8 = .slice Al8_0 ml8_0 cl8_0 ∧ E 9 = .slice Al9_0 ml9_0 cl9_0 ∧ E 10 = .int .i64 v10_0 ∧ I64 v10_0 ∧ Cx (fun _ => False) O0 w wv [.ro (.sl (.int .i64)) [.slice Aword_1 word_1.length cword_1] word_1, .box g3 24 [.slice none 0 0, .slice none 0 0], .own 3 (.int .i64) (.slice Al6_0 ml6_0 cl6_0) l6_0, .own 3 (.int .i64) (.slice Al7_0 ml7_0 cl7_0) l7_0, .own 3 (.int .i64) (.slice Al8_0 ml8_0 cl8_0) l8_0, .own 3 (.int .i64) (.slice Al9_0 ml9_0 cl9_0) l9_0] ∧ loopN m (F.ref44_Braid_b0 n strands_0) (l6_0, l7_0, l8_0, l9_0, v10_0) = some o14) n ⟨([] : List Int), ([] : List Int), ([] : List Int), ([] : List Int), 0, none, 0, 0, none, 0, 0, none, 0, 0, none, 0, 0, rfl, rfl, rfl, rfl, rfl, rfl, rfl, rfl, rfl, (show I64 0 from by unfold I64; omega), hC.sel [5, 4, 3, 2, 1, 0] (by decide), hl0⟩ ?_
 have hbK0 := hb
 clear hb hC hl0
 rintro m17 E19 w18 ⟨l6_0, l7_0, l8_0, l9_0, v10_0, Al6_0, ml6_0, cl6_0, Al7_0, ml7_0, cl7_0, Al8_0, ml8_0, cl8_0, Al9_0, ml9_0, cl9_0, e0, e1, e4, e5, e6, e7, e8, e9, e10, hrv10_0, hC, hl0⟩ K16 hK16
 obtain ⟨m17', o20, rfl, hb, hl0⟩ := loopN_some hl0
 unfold F.ref44_Braid_b0 at hb
 obtain ⟨rfl, hll6_0, hcl6_0⟩ := (hC.ow (i := 2) rfl).sl_len
 obtain ⟨rfl, hll7_0, hcl7_0⟩ := (hC.ow (i := 3) rfl).sl_len
 obtain ⟨rfl, hll8_0, hcl8_0⟩ := (hC.ow (i := 4) rfl).sl_len
 obtain ⟨rfl, hll9_0, hcl9_0⟩ := (hC.ow (i := 5) rfl).sl_len
 refine Wc.seq fun K21 hK21 => ?_
 refine Wc.seq fun K22 hK22 => ?_
 refine rg ?_
 refine lp (.int .i64 v10_0) (pu_move e10) ?_
 refine lp (.int .i64 strands_0) (pu_move e0) ?_
 refine lp (.bool (decide (v10_0 < strands_0))) (pu_lss (k := .i64) (a := v10_0) (b := strands_0) rfl rfl) ?_
 refine ln ?_
 refine hK22 _ _ ?_
 refine Wc.cond (t := (decide (v10_0 < strands_0))) (rfl) (fun hq23 => ?_) (fun hq23 => ?_)
 replace hb := tt hq23 hb
 refine Wc.skip ?_
 refine hK21 _ _ ?_
 refine Wc.seq fun K24 hK24 => ?_
 refine Wc.block ?_
 refine Wc.seq fun K25 hK25 => ?_
 refine rg ?_
 refine lp (.slice Al6_0 l6_0.length cl6_0) (pu_move e6) ?_
 refine lp (.int .i64 v10_0) (pu_move e10) ?_
 refine lex.op (hC.lit (s := (.int .i64)) (vs := [.int .i64 v10_0]) (xs := [v10_0]) Try.underlying22 Try.type3 rfl rfl (Nat.le_of_ble_eq_true rfl) rfl rfl (by simp [Value.cells, Sh.n]) rfl (show Elems _ _ (.int .i64) ([.int .i64 v10_0] ++ ([])) ([v10_0] : List Int) from Elems.cons (⟨rfl, I64.wr hrv10_0⟩) (Elems.nil _ _ _))) ?_
 rintro _ w30 ⟨A26, c27, rfl, hl28, hc29, hC, hF, hN⟩
 clear hF hN
 obtain ⟨u32, h33, hb⟩ := bd hb
 refine lex.op (hC.app (i := 3) (s := (.int .i64)) (xs := l6_0) (ys := ([v10_0] : List Int)) (m := ((([v10_0] : List Int)).length)) rfl Try.underlying22 Try.underlying22 Try.type3 rfl rfl rfl (hC.srco (i := 0) rfl) rfl rfl (by have := lim_some h33; simp at this ⊢ <;> omega) (by decide)) ?_
 rintro _ w38 ⟨A34, c35, rfl, hl36, hc37, hC, hF, hN⟩
 clear hF hN
 refine lp (.slice A34 ((l6_0 ++ ([v10_0] : List Int)).length) c35) (pu_assign rfl) ?_
 refine ln ?_
 refine hK25 _ _ ?_
 refine Wc.seq fun K39 hK39 => ?_
 refine rg ?_
 refine lp (.slice Al7_0 l7_0.length cl7_0) (pu_move e7) ?_
 refine lp (.int .i64 v10_0) (pu_move e10) ?_
 refine lex.op (hC.lit (s := (.int .i64)) (vs := [.int .i64 v10_0]) (xs := [v10_0]) Try.underlying22 Try.type3 rfl rfl (Nat.le_of_ble_eq_true rfl) rfl rfl (by simp [Value.cells, Sh.n]) rfl (show Elems _ _ (.int .i64) ([.int .i64 v10_0] ++ ([])) ([v10_0] : List Int) from Elems.cons (⟨rfl, I64.wr hrv10_0⟩) (Elems.nil _ _ _))) ?_
 rintro _ w44 ⟨A40, c41, rfl, hl42, hc43, hC, hF, hN⟩
 clear hF hN
 obtain ⟨u46, h47, hb⟩ := bd hb
 refine lex.op (hC.app (i := 5) (s := (.int .i64)) (xs := l7_0) (ys := ([v10_0] : List Int)) (m := ((([v10_0] : List Int)).length)) rfl Try.underlying22 Try.underlying22 Try.type3 rfl rfl rfl (hC.srco (i := 0) rfl) rfl rfl (by have := lim_some h47; simp at this ⊢ <;> omega) (by decide)) ?_
 rintro _ w52 ⟨A48, c49, rfl, hl50, hc51, hC, hF, hN⟩
 clear hF hN
 refine lp (.slice A48 ((l7_0 ++ ([v10_0] : List Int)).length) c49) (pu_assign rfl) ?_
 refine ln ?_
 refine hK39 _ _ ?_
 refine Wc.fresh fun E53 hE => ?_
 have e0 := (congrFun hE 0).trans e0
 have e1 := (congrFun hE 1).trans e1
 have e4 := (congrFun hE 4).trans e4
 have e5 := (congrFun hE 5).trans e5
 have e6 : E53 6 = .slice A34 ((l6_0 ++ ([v10_0] : List Int)).length) c35 := (congrFun hE 6).trans rfl
 have e7 : E53 7 = .slice A48 ((l7_0 ++ ([v10_0] : List Int)).length) c49 := (congrFun hE 7).trans rfl
 have e8 := (congrFun hE 8).trans e8
 have e9 := (congrFun hE 9).trans e9
 have e10 := (congrFun hE 10).trans e10
 have e27 : E53 27 = .bool (decide (v10_0 < strands_0)) := (congrFun hE 27).trans rfl
 clear hE
 refine Wc.seq fun K54 hK54 => ?_
 refine rg ?_
 refine lp (.slice Al8_0 l8_0.length cl8_0) (pu_move e8) ?_
 refine lex.op (hC.lit (s := (.int .i64)) (vs := [.int .i64 (-1)]) (xs := [(-1)]) Try.underlying22 Try.type3 rfl rfl (Nat.le_of_ble_eq_true rfl) rfl rfl (by simp [Value.cells, Sh.n]) rfl (show Elems _ _ (.int .i64) ([.int .i64 (-1)] ++ ([])) ([(-1)] : List Int) from Elems.cons (⟨rfl, I64.wr (show I64 (-1) from by unfold I64; omega)⟩) (Elems.nil _ _ _))) ?_
 rintro _ w59 ⟨A55, c56, rfl, hl57, hc58, hC, hF, hN⟩
 clear hF hN
 obtain ⟨u61, h62, hb⟩ := bd hb
 refine lex.op (hC.app (i := 7) (s := (.int .i64)) (xs := l8_0) (ys := ([(-1)] : List Int)) (m := ((([(-1)] : List Int)).length)) rfl Try.underlying22 Try.underlying22 Try.type3 rfl rfl rfl (hC.srco (i := 0) rfl) rfl rfl (by have := lim_some h62; simp at this ⊢ <;> omega) (by decide)) ?_
 rintro _ w67 ⟨A63, c64, rfl, hl65, hc66, hC, hF, hN⟩
 clear hF hN
 refine lp (.slice A63 ((l8_0 ++ ([(-1)] : List Int)).length) c64) (pu_assign rfl) ?_
 refine ln ?_
 refine hK54 _ _ ?_
 refine rg ?_
 refine lp (.slice Al9_0 l9_0.length cl9_0) (pu_move e9) ?_
 refine lp (.int .i64 v10_0) (pu_move e10) ?_
 refine lex.op (hC.lit (s := (.int .i64)) (vs := [.int .i64 v10_0]) (xs := [v10_0]) Try.underlying22 Try.type3 rfl rfl (Nat.le_of_ble_eq_true rfl) rfl rfl (by simp [Value.cells, Sh.n]) rfl (show Elems _ _ (.int .i64) ([.int .i64 v10_0] ++ ([])) ([v10_0] : List Int) from Elems.cons (⟨rfl, I64.wr hrv10_0⟩) (Elems.nil _ _ _))) ?_
 rintro _ w72 ⟨A68, c69, rfl, hl70, hc71, hC, hF, hN⟩
 clear hF hN
 obtain ⟨u74, h75, hb⟩ := bd hb
 refine lex.op (hC.app (i := 9) (s := (.int .i64)) (xs := l9_0) (ys := ([v10_0] : List Int)) (m := ((([v10_0] : List Int)).length)) rfl Try.underlying22 Try.underlying22 Try.type3 rfl rfl rfl (hC.srco (i := 0) rfl) rfl rfl (by have := lim_some h75; simp at this ⊢ <;> omega) (by decide)) ?_
 rintro _ w80 ⟨A76, c77, rfl, hl78, hc79, hC, hF, hN⟩
 clear hF hN
 refine lp (.slice A76 ((l9_0 ++ ([v10_0] : List Int)).length) c77) (pu_assign rfl) ?_
 refine ln ?_
 refine hK24 _ _ ?_
 refine rg ?_
 refine lp (.int .i64 v10_0) (pu_move e10) ?_
 obtain ⟨z81, h82, hb⟩ := bd hb
 refine lp (.int .i64 z81) (pu_addc (a := v10_0) (b := 1) rfl rfl h82) ?_
 refine lp (.int .i64 z81) (pu_assign rfl) ?_
 refine ln ?_
 obtain rfl := os hb
 exact hK16 m17' _ _ (Nat.lt_succ_self _) ⟨(l6_0 ++ ([v10_0] : List Int)), (l7_0 ++ ([v10_0] : List Int)), (l8_0 ++ ([(-1)] : List Int)), (l9_0 ++ ([v10_0] : List Int)), z81, A34, (l6_0 ++ ([v10_0] : List Int)).length, c35, A48, (l7_0 ++ ([v10_0] : List Int)).length, c49, A63, (l8_0 ++ ([(-1)] : List Int)).length, c64, A76, (l9_0 ++ ([v10_0] : List Int)).length, c77, e0, e1, e4, e5, e6, e7, rfl, rfl, rfl, (chk_rng h82), hC.sel [4, 5, 6, 7, 8, 9] (by decide), lN hl0⟩
 replace hb := tf hq23 hb
 refine Wc.exit rfl ?_
 obtain rfl := os hb
 obtain rfl := (lX hl0).symm
 exact hK15 _ _ ⟨l6_0, l7_0, l8_0, l9_0, v10_0, Al6_0, l6_0.length, cl6_0, Al7_0, l7_0.length, cl7_0, Al8_0, l8_0.length, cl8_0, Al9_0, l9_0.length, cl9_0, e0, e1, e4, e5, e6, e7, e8, e9, hrv10_0, hC.sel [0, 1, 2, 3, 4, 5] (by decide), hbK0⟩
 clear hb hC hl0
 rintro E84 w83 ⟨l6_0, l7_0, l8_0, l9_0, v10_0, Al6_0, ml6_0, cl6_0, Al7_0, ml7_0, cl7_0, Al8_0, ml8_0, cl8_0, Al9_0, ml9_0, cl9_0, e0, e1, e4, e5, e6, e7, e8, e9, hrv10_0, hC, hb⟩
 obtain ⟨rfl, hll6_0, hcl6_0⟩ := (hC.ow (i := 2) rfl).sl_len
 obtain ⟨rfl, hll7_0, hcl7_0⟩ := (hC.ow (i := 3) rfl).sl_len
 obtain ⟨rfl, hll8_0, hcl8_0⟩ := (hC.ow (i := 4) rfl).sl_len
 obtain ⟨rfl, hll9_0, hcl9_0⟩ := (hC.ow (i := 5) rfl).sl_len
 refine hK8 _ _ ?_
 refine Wc.seq fun K85 hK85 => ?_
 refine Wc.seq fun K86 hK86 => ?_
 refine rg ?_
 refine lp (.int .i64 0) (pu_assign rfl) ?_
 refine ln ?_
 refine hK86 _ _ ?_
 obtain ⟨o87, hl1, hb⟩ := bd hb
 refine Wc.cut (fun E wv => ∃ (l6_1 : List Int) (l7_1 : List Int) (l8_1 : List Int) (v11_1 : Int) (qF9_0_1 : List Int) (Al6_1 : Option Addr) (ml6_1 cl6_1 : Nat) (Al7_1 : Option Addr) (ml7_1 cl7_1 : Nat) (Al8_1 : Option Addr) (ml8_1 cl8_1 : Nat), E 0 = .int .i64 strands_0 ∧ E 4 = .pointer (some ⟨g3, 0, none⟩) ∧ E 5 = .int .i64 (word_1.length : Int) ∧ E 6 = .slice Al6_1 ml6_1 cl6_1 ∧ E 7 = .slice Al7_1 ml7_1 cl7_1 ∧ E 8 = .slice Al8_1 ml8_1 cl8_1 ∧ E 9 = .slice Al9_0 l9_0.length cl9_0 ∧ I64 v11_1 ∧ Cx (fun _ => False) O0 w wv [.box g3 24 [.slice none 0 0, .slice none 0 0], .own 3 (.int .i64) (.slice Al6_1 ml6_1 cl6_1) l6_1, .own 3 (.int .i64) (.slice Al7_1 ml7_1 cl7_1) l7_1, .own 3 (.int .i64) (.slice Al8_1 ml8_1 cl8_1) l8_1, .own 3 (.int .i64) (.slice Al9_0 l9_0.length cl9_0) qF9_0_1] ∧ (((loopN n (F.ref44_Braid_b5 n strands_0 word_1 qF9_0_1) (0, l8_1)).bind fun o314 => match o314 with     | (v20_5, qF8_1_5) => ((loopN n (F.ref44_Braid_b6 n l6_1 l7_1 qF8_1_5) (0, ([] : List Int), ([] : List Int))).bind fun o354 => match o354 with     | (v21_6, kf311_0_6, kf311_1_6) => (chk (strands_0 - 1)).bind fun z433 => ((loopN n (F.ref44_Braid_b7 n strands_0 word_1) (z433, kf311_0_6, kf311_1_6)).bind fun o435 => match o435 with     | (v22_7, kf311_0_7, kf311_1_7) => some (kf311_0_7, kf311_1_7)))) : Option ((List Int) × (List Int))) = some r) (fun K88 hK88 => ?_) ?_
 refine Wc.block ?_
 refine Wc.loop (fun m E wv => ∃ (l6_1 : List Int) (l7_1 : List Int) (l8_1 : List Int) (v11_1 : Int) (qF9_0_1 : List Int) (Al6_1 : Option Addr) (ml6_1 cl6_1 : Nat) (Al7_1 : Option Addr) (ml7_1 cl7_1 : Nat) (Al8_1 : Option Addr) (ml8_1 cl8_1 : Nat), E 0 = .int .i64 strands_0 ∧ E 1 = .slice Aword_1 word_1.length cword_1 ∧ E 4 = .pointer (some ⟨g3, 0, none⟩) ∧ E 5 = .int .i64 (word_1.length : Int) ∧ E 6 = .slice Al6_1 ml6_1 cl6_1 ∧ E 7 = .slice Al7_1 ml7_1 cl7_1 ∧ E 8 = .slice Al8_1 ml8_1 cl8_1 ∧ E 9 = .slice Al9_0 l9_0.length cl9_0 ∧ E 11 = .int .i64 v11_1 ∧ I64 v11_1 ∧ Cx (fun _ => False) O0 w wv [.ro (.sl (.int .i64)) [.slice Aword_1 word_1.length cword_1] word_1, .box g3 24 [.slice none 0 0, .slice none 0 0], .own 3 (.int .i64) (.slice Al6_1 ml6_1 cl6_1) l6_1, .own 3 (.int .i64) (.slice Al7_1 ml7_1 cl7_1) l7_1, .own 3 (.int .i64) (.slice Al8_1 ml8_1 cl8_1) l8_1, .own 3 (.int .i64) (.slice Al9_0 l9_0.length cl9_0) qF9_0_1] ∧ loopN m (F.ref44_Braid_b1 n strands_0 word_1) (l6_1, l7_1, l8_1, v11_1, qF9_0_1) = some o87) n ⟨l6_0, l7_0, l8_0, 0, l9_0, Al6_0, l6_0.length, cl6_0, Al7_0, l7_0.length, cl7_0, Al8_0, l8_0.length, cl8_0, e0, e1, e4, e5, e6, e7, e8, e9, rfl, (show I64 0 from by unfold I64; omega), hC.sel [0, 1, 2, 3, 4, 5] (by decide), hl1⟩ ?_
 have hbK1 := hb
 clear hb hC hl1
 rintro m90 E92 w91 ⟨l6_1, l7_1, l8_1, v11_1, qF9_0_1, Al6_1, ml6_1, cl6_1, Al7_1, ml7_1, cl7_1, Al8_1, ml8_1, cl8_1, e0, e1, e4, e5, e6, e7, e8, e9, e11, hrv11_1, hC, hl1⟩ K89 hK89
 obtain ⟨m90', o93, rfl, hb, hl1⟩ := loopN_some hl1
 unfold F.ref44_Braid_b1 at hb
 obtain ⟨rfl, hll6_1, hcl6_1⟩ := (hC.ow (i := 2) rfl).sl_len
 obtain ⟨rfl, hll7_1, hcl7_1⟩ := (hC.ow (i := 3) rfl).sl_len
 obtain ⟨rfl, hll8_1, hcl8_1⟩ := (hC.ow (i := 4) rfl).sl_len
 refine Wc.seq fun K94 hK94 => ?_
 refine Wc.seq fun K95 hK95 => ?_
 refine rg ?_
 refine lp (.int .i64 v11_1) (pu_move e11) ?_
 refine lp (.int .i64 (word_1.length : Int)) (pu_move e5) ?_
 refine lp (.bool (decide (v11_1 < (word_1.length : Int)))) (pu_lss (k := .i64) (a := v11_1) (b := (word_1.length : Int)) rfl rfl) ?_
 refine ln ?_
 refine hK95 _ _ ?_
 refine Wc.cond (t := (decide (v11_1 < (word_1.length : Int)))) (rfl) (fun hq96 => ?_) (fun hq96 => ?_)
 replace hb := tt hq96 hb
 refine Wc.skip ?_
 refine hK94 _ _ ?_
 refine Wc.seq fun K97 hK97 => ?_
 refine Wc.block ?_
 refine Wc.seq fun K98 hK98 => ?_
 refine rg ?_
 refine lp (.slice Aword_1 word_1.length cword_1) (pu_move e1) ?_
 refine lp (.int .i64 v11_1) (pu_move e11) ?_
 obtain ⟨x99, h100, hb⟩ := bd hb
 obtain ⟨ad101, cs102, hA, hc103, hr104⟩ := hC.elr (i := 0) rfl (get_some h100).2
 subst hA
 refine lp (.pointer (some (ad101.add (v11_1.toNat * 1)))) (pu_index (a := v11_1) Try.underlying22 Try.sizeOf3 rfl rfl (get_some h100).1) ?_
 obtain ⟨rfl, hr104'⟩ := hr104
 refine lv (.int .i64 x99) (ld_one Try.isAgg3 rfl (hc103 0 _ rfl)) ?_
 refine lp (.int .i64 x99) (pu_assign rfl) ?_
 refine ln ?_
 refine hK98 _ _ ?_
 refine Wc.seq fun K105 hK105 => ?_
 refine rg ?_
 refine lp (.int .i64 x99) (pu_move rfl) ?_
 refine lp (.int .i64 x99) (pu_move rfl) ?_
 obtain ⟨z106, h107, hb⟩ := bd hb
 refine lp (.int .i64 z106) (pu_subc (a := x99) (b := 1) rfl rfl h107) ?_
 refine lp (.int .i64 x99) (pu_assign rfl) ?_
 refine lp (.int .i64 z106) (pu_assign rfl) ?_
 refine lp (.int .i64 0) (pu_assign rfl) ?_
 refine ln ?_
 refine hK105 _ _ ?_
 refine Wc.fresh fun E108 hE => ?_
 have e0 := (congrFun hE 0).trans e0
 have e1 := (congrFun hE 1).trans e1
 have e4 := (congrFun hE 4).trans e4
 have e5 := (congrFun hE 5).trans e5
 have e6 := (congrFun hE 6).trans e6
 have e7 := (congrFun hE 7).trans e7
 have e8 := (congrFun hE 8).trans e8
 have e9 := (congrFun hE 9).trans e9
 have e11 := (congrFun hE 11).trans e11
 have e12 : E108 12 = .int .i64 x99 := (congrFun hE 12).trans rfl
 have e13 : E108 13 = .int .i64 x99 := (congrFun hE 13).trans rfl
 have e14 : E108 14 = .int .i64 z106 := (congrFun hE 14).trans rfl
 have e15 : E108 15 = .int .i64 0 := (congrFun hE 15).trans rfl
 have e47 : E108 47 = .bool (decide (v11_1 < (word_1.length : Int))) := (congrFun hE 47).trans rfl
 clear hE
 refine Wc.seqJ (fun E wv => ∃ (v13_2 : Int) (v14_2 : Int) (v15_2 : Int) (v58_2 : Bool), E 0 = .int .i64 strands_0 ∧ E 1 = .slice (some ad101) word_1.length cword_1 ∧ E 4 = .pointer (some ⟨g3, 0, none⟩) ∧ E 5 = .int .i64 (word_1.length : Int) ∧ E 6 = .slice Al6_1 l6_1.length cl6_1 ∧ E 7 = .slice Al7_1 l7_1.length cl7_1 ∧ E 8 = .slice Al8_1 l8_1.length cl8_1 ∧ E 9 = .slice Al9_0 l9_0.length cl9_0 ∧ E 11 = .int .i64 v11_1 ∧ E 12 = .int .i64 x99 ∧ E 13 = .int .i64 v13_2 ∧ E 14 = .int .i64 v14_2 ∧ E 15 = .int .i64 v15_2 ∧ E 47 = .bool (decide (v11_1 < (word_1.length : Int))) ∧ E 58 = .bool v58_2 ∧ I64 v13_2 ∧ I64 v14_2 ∧ I64 v15_2 ∧ Cx (fun _ => False) O0 w wv [.ro (.sl (.int .i64)) [.slice (some ad101) word_1.length cword_1] word_1, .box g3 24 [.slice none 0 0, .slice none 0 0], .own 3 (.int .i64) (.slice Al6_1 l6_1.length cl6_1) l6_1, .own 3 (.int .i64) (.slice Al7_1 l7_1.length cl7_1) l7_1, .own 3 (.int .i64) (.slice Al8_1 l8_1.length cl8_1) l8_1, .own 3 (.int .i64) (.slice Al9_0 l9_0.length cl9_0) qF9_0_1] ∧ F.ref44_Braid_j2 n strands_0 l6_1 l7_1 l8_1 v11_1 qF9_0_1 v13_2 v14_2 v15_2 v58_2 = some o93) (fun K109 hK109 => ?_) ?_
 refine Wc.seq fun K110 hK110 => ?_
 refine rg ?_
 refine lp (.int .i64 x99) (pu_move e12) ?_
 refine lp (.bool (decide (x99 < 0))) (pu_lss (k := .i64) (a := x99) (b := 0) rfl rfl) ?_
 refine ln ?_
 refine hK110 _ _ ?_
 refine Wc.cond (t := (decide (x99 < 0))) (rfl) (fun hq111 => ?_) (fun hq111 => ?_)
 replace hb := tt hq111 hb
 refine rg ?_
 refine lp (.int .i64 x99) (pu_move e12) ?_
 obtain ⟨z112, h113, hb⟩ := bd hb
 refine lp (.int .i64 z112) (pu_negc (a := x99) rfl h113) ?_
 obtain ⟨z114, h115, hb⟩ := bd hb
 refine lp (.int .i64 z114) (pu_subc (a := z112) (b := 1) rfl rfl h115) ?_
 refine lp (.int .i64 x99) (pu_move e12) ?_
 obtain ⟨z116, h117, hb⟩ := bd hb
 refine lp (.int .i64 z116) (pu_negc (a := x99) rfl h117) ?_
 refine lp (.int .i64 z114) (pu_assign rfl) ?_
 refine lp (.int .i64 z116) (pu_assign rfl) ?_
 refine lp (.int .i64 1) (pu_assign rfl) ?_
 refine ln ?_
 exact hK109 _ _ ⟨z114, z116, 1, (decide (x99 < 0)), e0, e1, e4, e5, e6, e7, e8, e9, e11, e12, rfl, rfl, rfl, e47, rfl, (chk_rng h115), (chk_rng h117), (show I64 1 from by unfold I64; omega), hC.sel [0, 1, 2, 3, 4, 5] (by decide), hb⟩
 replace hb := tf hq111 hb
 refine Wc.skip ?_
 exact hK109 _ _ ⟨x99, z106, 0, (decide (x99 < 0)), e0, e1, e4, e5, e6, e7, e8, e9, e11, e12, e13, e14, e15, e47, rfl, (wrap_I64 hr104'), (chk_rng h107), (show I64 0 from by unfold I64; omega), hC.sel [0, 1, 2, 3, 4, 5] (by decide), hb⟩
 clear hb hC
 rintro E119 w118 ⟨v13_2, v14_2, v15_2, v58_2, e0, e1, e4, e5, e6, e7, e8, e9, e11, e12, e13, e14, e15, e47, e58, hrv13_2, hrv14_2, hrv15_2, hC, hb⟩
 unfold F.ref44_Braid_j2 at hb
 refine Wc.seq fun K120 hK120 => ?_
 refine rg ?_
 refine lp (.slice Al7_1 l7_1.length cl7_1) (pu_move e7) ?_
 refine lp (.int .i64 (l7_1.length : Int)) (pu_len (A := Al7_1) (n := l7_1.length) (m := cl7_1) Try.underlying22 rfl) ?_
 refine lp (.int .i64 (l7_1.length : Int)) (pu_assign rfl) ?_
 refine ln ?_
 refine hK120 _ _ ?_
 refine Wc.seq fun K121 hK121 => ?_
 refine rg ?_
 refine lp (.slice Al8_1 l8_1.length cl8_1) (pu_move e8) ?_
 refine lp (.slice Al9_0 l9_0.length cl9_0) (pu_move e9) ?_
 refine lp (.int .i64 v13_2) (pu_move e13) ?_
 obtain ⟨x122, h123, hb⟩ := bd hb
 obtain ⟨ad124, cs125, hA, hc126, hr127⟩ := hC.elo (i := 5) rfl (get_some h123).2
 subst hA
 refine lp (.pointer (some (ad124.add (v13_2.toNat * 1)))) (pu_index (a := v13_2) Try.underlying22 Try.sizeOf3 rfl rfl (by rw [(hC.ow (i := 5) rfl).sl_len.1]; exact (get_some h123).1)) ?_
 obtain ⟨rfl, hr127'⟩ := hr127
 refine lv (.int .i64 x122) (ld_one Try.isAgg3 rfl (hc126 0 _ rfl)) ?_
 refine lp (.int .i64 strands_0) (pu_move e0) ?_
 refine lp (.int .i64 v11_1) (pu_move e11) ?_
 obtain ⟨z128, h129, hb⟩ := bd hb
 refine lp (.int .i64 z128) (pu_addc (a := strands_0) (b := v11_1) rfl rfl h129) ?_
 obtain ⟨x130, h131, hb⟩ := bd hb
 obtain ⟨ad132, cs133, hA, hc134, hr135⟩ := hC.elo (i := 4) rfl (get_some h131).2
 subst hA
 refine lp (.pointer (some (ad132.add (x122.toNat * 1)))) (pu_index (a := x122) Try.underlying22 Try.sizeOf3 rfl rfl (get_some h131).1) ?_
 refine lex.sk (hC.put (i := 4) rfl rfl Try.sizeOf3 (k := x122.toNat) (a := z128) (by have := (get_some h131).1; simp at this ⊢; omega) (⟨rfl, I64.wr (chk_rng h129)⟩) rfl rfl rfl) ?_
 rintro w136 ⟨hC, hF⟩
 refine ln ?_
 refine hK121 _ _ ?_
 refine Wc.fresh fun E137 hE => ?_
 have e0 := (congrFun hE 0).trans e0
 have e1 := (congrFun hE 1).trans e1
 have e4 := (congrFun hE 4).trans e4
 have e5 := (congrFun hE 5).trans e5
 have e6 := (congrFun hE 6).trans e6
 have e7 := (congrFun hE 7).trans e7
 have e8 := (congrFun hE 8).trans e8
 have e9 := (congrFun hE 9).trans e9
 have e11 := (congrFun hE 11).trans e11
 have e12 := (congrFun hE 12).trans e12
 have e13 := (congrFun hE 13).trans e13
 have e14 := (congrFun hE 14).trans e14
 have e15 := (congrFun hE 15).trans e15
 have e16 : E137 16 = .int .i64 (l7_1.length : Int) := (congrFun hE 16).trans rfl
 have e47 := (congrFun hE 47).trans e47
 have e58 := (congrFun hE 58).trans e58
 clear hE
 refine Wc.seq fun K138 hK138 => ?_
 refine rg ?_
 refine lp (.slice Al7_1 l7_1.length cl7_1) (pu_move e7) ?_
 refine lp (.int .i64 strands_0) (pu_move e0) ?_
 refine lp (.int .i64 v11_1) (pu_move e11) ?_
 obtain ⟨z139, h140, hb⟩ := bd hb
 refine lp (.int .i64 z139) (pu_addc (a := strands_0) (b := v11_1) rfl rfl h140) ?_
 refine lex.op (hC.lit (s := (.int .i64)) (vs := [.int .i64 z139]) (xs := [z139]) Try.underlying22 Try.type3 rfl rfl (Nat.le_of_ble_eq_true rfl) rfl rfl (by simp [Value.cells, Sh.n]) rfl (show Elems _ _ (.int .i64) ([.int .i64 z139] ++ ([])) ([z139] : List Int) from Elems.cons (⟨rfl, I64.wr (chk_rng h140)⟩) (Elems.nil _ _ _))) ?_
 rintro _ w145 ⟨A141, c142, rfl, hl143, hc144, hC, hF, hN⟩
 clear hF hN
 obtain ⟨u147, h148, hb⟩ := bd hb
 refine lex.op (hC.app (i := 4) (s := (.int .i64)) (xs := l7_1) (ys := ([z139] : List Int)) (m := ((([z139] : List Int)).length)) rfl Try.underlying22 Try.underlying22 Try.type3 rfl rfl rfl (hC.srco (i := 0) rfl) rfl rfl (by have := lim_some h148; simp at this ⊢ <;> omega) (by decide)) ?_
 rintro _ w153 ⟨A149, c150, rfl, hl151, hc152, hC, hF, hN⟩
 clear hF hN
 refine lp (.slice A149 ((l7_1 ++ ([z139] : List Int)).length) c150) (pu_assign rfl) ?_
 refine ln ?_
 refine hK138 _ _ ?_
 refine Wc.seq fun K154 hK154 => ?_
 refine rg ?_
 refine lp (.slice (some ad132) l8_1.length cl8_1) (pu_move e8) ?_
 refine lex.op (hC.lit (s := (.int .i64)) (vs := [.int .i64 (-1)]) (xs := [(-1)]) Try.underlying22 Try.type3 rfl rfl (Nat.le_of_ble_eq_true rfl) rfl rfl (by simp [Value.cells, Sh.n]) rfl (show Elems _ _ (.int .i64) ([.int .i64 (-1)] ++ ([])) ([(-1)] : List Int) from Elems.cons (⟨rfl, I64.wr (show I64 (-1) from by unfold I64; omega)⟩) (Elems.nil _ _ _))) ?_
 rintro _ w159 ⟨A155, c156, rfl, hl157, hc158, hC, hF, hN⟩
 clear hF hN
 obtain ⟨u161, h162, hb⟩ := bd hb
 refine lex.op (hC.app (i := 6) (s := (.int .i64)) (xs := (l8_1.set x122.toNat z128)) (ys := ([(-1)] : List Int)) (m := ((([(-1)] : List Int)).length)) rfl Try.underlying22 Try.underlying22 Try.type3 rfl rfl rfl (hC.srco (i := 0) rfl) rfl rfl (by have := lim_some h162; simp at this ⊢ <;> omega) (by decide)) ?_
 rintro _ w167 ⟨A163, c164, rfl, hl165, hc166, hC, hF, hN⟩
 clear hF hN
 refine lp (.slice A163 (((l8_1.set x122.toNat z128) ++ ([(-1)] : List Int)).length) c164) (pu_assign rfl) ?_
 refine ln ?_
 refine hK154 _ _ ?_
 refine Wc.fresh fun E168 hE => ?_
 have e0 := (congrFun hE 0).trans e0
 have e1 := (congrFun hE 1).trans e1
 have e4 := (congrFun hE 4).trans e4
 have e5 := (congrFun hE 5).trans e5
 have e6 := (congrFun hE 6).trans e6
 have e7 : E168 7 = .slice A149 ((l7_1 ++ ([z139] : List Int)).length) c150 := (congrFun hE 7).trans rfl
 have e8 : E168 8 = .slice A163 (((l8_1.set x122.toNat z128) ++ ([(-1)] : List Int)).length) c164 := (congrFun hE 8).trans rfl
 have e9 := (congrFun hE 9).trans e9
 have e11 := (congrFun hE 11).trans e11
 have e12 := (congrFun hE 12).trans e12
 have e13 := (congrFun hE 13).trans e13
 have e14 := (congrFun hE 14).trans e14
 have e15 := (congrFun hE 15).trans e15
 have e16 := (congrFun hE 16).trans e16
 have e47 := (congrFun hE 47).trans e47
 have e58 := (congrFun hE 58).trans e58
 clear hE
 refine Wc.seq fun K169 hK169 => ?_
 refine rg ?_
 refine lp (.slice none 0 0) (pu_assign rfl) ?_
 refine ln ?_
 refine hK169 _ _ ?_
 refine Wc.seq fun K170 hK170 => ?_
 refine Wc.seq fun K171 hK171 => ?_
 refine rg ?_
 refine lp (.int .i64 0) (pu_assign rfl) ?_
 refine ln ?_
 refine hK171 _ _ ?_
 replace hC := hC.nil 3 (.int .i64)
 obtain ⟨o173, hl3, hb⟩ := bd hb
 refine Wc.cut (fun E wv => ∃ (l17_3 : List Int) (v18_3 : Int) (Al17_3 : Option Addr) (ml17_3 cl17_3 : Nat), E 0 = .int .i64 strands_0 ∧ E 1 = .slice (some ad101) word_1.length cword_1 ∧ E 4 = .pointer (some ⟨g3, 0, none⟩) ∧ E 5 = .int .i64 (word_1.length : Int) ∧ E 6 = .slice Al6_1 l6_1.length cl6_1 ∧ E 7 = .slice A149 ((l7_1 ++ ([z139] : List Int)).length) c150 ∧ E 8 = .slice A163 (((l8_1.set x122.toNat z128) ++ ([(-1)] : List Int)).length) c164 ∧ E 9 = .slice (some ad124) l9_0.length cl9_0 ∧ E 11 = .int .i64 v11_1 ∧ E 12 = .int .i64 x99 ∧ E 13 = .int .i64 v13_2 ∧ E 14 = .int .i64 v14_2 ∧ E 15 = .int .i64 v15_2 ∧ E 16 = .int .i64 (l7_1.length : Int) ∧ E 17 = .slice Al17_3 ml17_3 cl17_3 ∧ E 18 = .int .i64 v18_3 ∧ E 47 = .bool (decide (v11_1 < (word_1.length : Int))) ∧ E 58 = .bool v58_2 ∧ I64 v18_3 ∧ Cx (fun _ => False) O0 w wv [.ro (.sl (.int .i64)) [.slice (some ad101) word_1.length cword_1] word_1, .box g3 24 [.slice none 0 0, .slice none 0 0], .own 3 (.int .i64) (.slice Al6_1 l6_1.length cl6_1) l6_1, .own 3 (.int .i64) (.slice A149 ((l7_1 ++ ([z139] : List Int)).length) c150) (l7_1 ++ ([z139] : List Int)), .own 3 (.int .i64) (.slice A163 (((l8_1.set x122.toNat z128) ++ ([(-1)] : List Int)).length) c164) ((l8_1.set x122.toNat z128) ++ ([(-1)] : List Int)), .own 3 (.int .i64) (.slice (some ad124) l9_0.length cl9_0) qF9_0_1, .own 3 (.int .i64) (.slice Al17_3 ml17_3 cl17_3) l17_3] ∧ ((get qF9_0_1 v14_2).bind fun x284 => (get qF9_0_1 v13_2).bind fun x290 => (get (qF9_0_1.set v13_2.toNat x284) v14_2).bind fun x297 => (chk (v11_1 + 1)).bind fun z304 => some (.inl (l17_3, (l7_1 ++ ([z139] : List Int)), ((l8_1.set x122.toNat z128) ++ ([(-1)] : List Int)), z304, ((qF9_0_1.set v13_2.toNat x284).set v14_2.toNat (l7_1.length : Int)))) : Option (((List Int) × (List Int) × (List Int) × Int × (List Int)) ⊕ (((List Int) × (List Int) × (List Int) × Int × (List Int))))) = some o93) (fun K174 hK174 => ?_) ?_
 refine Wc.block ?_
 refine Wc.loop (fun m E wv => ∃ (l17_3 : List Int) (v18_3 : Int) (Al17_3 : Option Addr) (ml17_3 cl17_3 : Nat), E 0 = .int .i64 strands_0 ∧ E 1 = .slice (some ad101) word_1.length cword_1 ∧ E 4 = .pointer (some ⟨g3, 0, none⟩) ∧ E 5 = .int .i64 (word_1.length : Int) ∧ E 6 = .slice Al6_1 l6_1.length cl6_1 ∧ E 7 = .slice A149 ((l7_1 ++ ([z139] : List Int)).length) c150 ∧ E 8 = .slice A163 (((l8_1.set x122.toNat z128) ++ ([(-1)] : List Int)).length) c164 ∧ E 9 = .slice (some ad124) l9_0.length cl9_0 ∧ E 11 = .int .i64 v11_1 ∧ E 12 = .int .i64 x99 ∧ E 13 = .int .i64 v13_2 ∧ E 14 = .int .i64 v14_2 ∧ E 15 = .int .i64 v15_2 ∧ E 16 = .int .i64 (l7_1.length : Int) ∧ E 17 = .slice Al17_3 ml17_3 cl17_3 ∧ E 18 = .int .i64 v18_3 ∧ E 47 = .bool (decide (v11_1 < (word_1.length : Int))) ∧ E 58 = .bool v58_2 ∧ I64 v18_3 ∧ Cx (fun _ => False) O0 w wv [.ro (.sl (.int .i64)) [.slice (some ad101) word_1.length cword_1] word_1, .box g3 24 [.slice none 0 0, .slice none 0 0], .own 3 (.int .i64) (.slice Al6_1 l6_1.length cl6_1) l6_1, .own 3 (.int .i64) (.slice A149 ((l7_1 ++ ([z139] : List Int)).length) c150) (l7_1 ++ ([z139] : List Int)), .own 3 (.int .i64) (.slice A163 (((l8_1.set x122.toNat z128) ++ ([(-1)] : List Int)).length) c164) ((l8_1.set x122.toNat z128) ++ ([(-1)] : List Int)), .own 3 (.int .i64) (.slice (some ad124) l9_0.length cl9_0) qF9_0_1, .own 3 (.int .i64) (.slice Al17_3 ml17_3 cl17_3) l17_3] ∧ loopN m (F.ref44_Braid_b3 n l6_1 l7_1 qF9_0_1 v14_2 v15_2) (l17_3, v18_3) = some o173) n ⟨([] : List Int), 0, none, 0, 0, e0, e1, e4, e5, e6, e7, e8, e9, e11, e12, e13, e14, e15, e16, rfl, rfl, e47, e58, (show I64 0 from by unfold I64; omega), hC.sel [3, 4, 5, 6, 7, 8, 0] (by decide), hl3⟩ ?_
 have hbK3 := hb
 clear hb hC hl3
 rintro m176 E178 w177 ⟨l17_3, v18_3, Al17_3, ml17_3, cl17_3, e0, e1, e4, e5, e6, e7, e8, e9, e11, e12, e13, e14, e15, e16, e17, e18, e47, e58, hrv18_3, hC, hl3⟩ K175 hK175
 obtain ⟨m176', o179, rfl, hb, hl3⟩ := loopN_some hl3
 unfold F.ref44_Braid_b3 at hb
 obtain ⟨rfl, hll17_3, hcl17_3⟩ := (hC.ow (i := 6) rfl).sl_len
 refine Wc.seq fun K180 hK180 => ?_
 refine Wc.seq fun K181 hK181 => ?_
 refine rg ?_
 refine lp (.int .i64 v18_3) (pu_move e18) ?_
 refine lp (.slice Al6_1 l6_1.length cl6_1) (pu_move e6) ?_
 refine lp (.int .i64 (l6_1.length : Int)) (pu_len (A := Al6_1) (n := l6_1.length) (m := cl6_1) Try.underlying22 rfl) ?_
 refine lp (.bool (decide (v18_3 < (l6_1.length : Int)))) (pu_lss (k := .i64) (a := v18_3) (b := (l6_1.length : Int)) rfl rfl) ?_
 refine ln ?_
 refine hK181 _ _ ?_
 refine Wc.cond (t := (decide (v18_3 < (l6_1.length : Int)))) (rfl) (fun hq182 => ?_) (fun hq182 => ?_)
 replace hb := tt hq182 hb
 refine Wc.skip ?_
 refine hK180 _ _ ?_
 refine Wc.seq fun K183 hK183 => ?_
 refine Wc.block ?_
 refine Wc.seqJ (fun E wv => ∃ (l17_4 : List Int) (v102_4 : Bool) (Al17_4 : Option Addr) (ml17_4 cl17_4 : Nat), E 0 = .int .i64 strands_0 ∧ E 1 = .slice (some ad101) word_1.length cword_1 ∧ E 4 = .pointer (some ⟨g3, 0, none⟩) ∧ E 5 = .int .i64 (word_1.length : Int) ∧ E 6 = .slice Al6_1 l6_1.length cl6_1 ∧ E 7 = .slice A149 ((l7_1 ++ ([z139] : List Int)).length) c150 ∧ E 8 = .slice A163 (((l8_1.set x122.toNat z128) ++ ([(-1)] : List Int)).length) c164 ∧ E 9 = .slice (some ad124) l9_0.length cl9_0 ∧ E 11 = .int .i64 v11_1 ∧ E 12 = .int .i64 x99 ∧ E 13 = .int .i64 v13_2 ∧ E 14 = .int .i64 v14_2 ∧ E 15 = .int .i64 v15_2 ∧ E 16 = .int .i64 (l7_1.length : Int) ∧ E 17 = .slice Al17_4 ml17_4 cl17_4 ∧ E 18 = .int .i64 v18_3 ∧ E 47 = .bool (decide (v11_1 < (word_1.length : Int))) ∧ E 58 = .bool v58_2 ∧ E 87 = .bool (decide (v18_3 < (l6_1.length : Int))) ∧ E 102 = .bool v102_4 ∧ Cx (fun _ => False) O0 w wv [.ro (.sl (.int .i64)) [.slice (some ad101) word_1.length cword_1] word_1, .box g3 24 [.slice none 0 0, .slice none 0 0], .own 3 (.int .i64) (.slice Al6_1 l6_1.length cl6_1) l6_1, .own 3 (.int .i64) (.slice A149 ((l7_1 ++ ([z139] : List Int)).length) c150) (l7_1 ++ ([z139] : List Int)), .own 3 (.int .i64) (.slice A163 (((l8_1.set x122.toNat z128) ++ ([(-1)] : List Int)).length) c164) ((l8_1.set x122.toNat z128) ++ ([(-1)] : List Int)), .own 3 (.int .i64) (.slice (some ad124) l9_0.length cl9_0) qF9_0_1, .own 3 (.int .i64) (.slice Al17_4 ml17_4 cl17_4) l17_4] ∧ F.ref44_Braid_j4 n l6_1 l7_1 qF9_0_1 v14_2 v15_2 v18_3 l17_4 v102_4 = some o179) (fun K184 hK184 => ?_) ?_
 refine Wc.seq fun K185 hK185 => ?_
 refine Wc.regionMix [] (frm [] ([] : List Fact) ([] : List Fact)) (fun _ => rfl) mixed (by decide +kernel) (by decide +kernel) fun w187 hw186 => ?_
 replace hC := hC.step (Fr.of_drew hw186)
 have hM := Fr.refl (fun k => k ∈ blocks ([] : List Fact)) w187
 clear hw186
 have hS := hC
 refine mp (.slice Al6_1 l6_1.length cl6_1) (pu_move e6) ?_
 refine mp (.int .i64 v18_3) (pu_move e18) ?_
 obtain ⟨x188, h189, hb⟩ := bd hb
 obtain ⟨ad190, cs191, hA, ho194, hc192, hr193⟩ := hS.elo2 (i := 2) rfl (get_some h189).2 [] (by decide)
 subst hA
 refine mp (.pointer (some (ad190.add (v18_3.toNat * 1)))) (pu_index (a := v18_3) Try.underlying22 Try.sizeOf3 rfl rfl (get_some h189).1) ?_
 obtain ⟨rfl, hr193'⟩ := hr193
 refine mixE.load hM (v := .int .i64 x188) (fun _ hF => ld_one Try.isAgg3 rfl (hF.cell (hc192 0 _ rfl) (off1 ho194))) ?_
 refine mp (.slice (some ad124) l9_0.length cl9_0) (pu_move e9) ?_
 refine mp (.int .i64 v14_2) (pu_move e14) ?_
 obtain ⟨x195, h196, hb⟩ := bd hb
 obtain ⟨ad197, cs198, hA, ho201, hc199, hr200⟩ := hS.elo2 (i := 5) rfl (get_some h196).2 [] (by decide)
 obtain rfl := Option.some.inj hA
 refine mp (.pointer (some (ad124.add (v14_2.toNat * 1)))) (pu_index (a := v14_2) Try.underlying22 Try.sizeOf3 rfl rfl (by rw [(hC.ow (i := 5) rfl).sl_len.1]; exact (get_some h196).1)) ?_
 obtain ⟨rfl, hr200'⟩ := hr200
 refine mixE.load hM (v := .int .i64 x195) (fun _ hF => ld_one Try.isAgg3 rfl (hF.cell (hc199 0 _ rfl) (off1 ho201))) ?_
 refine mp (.bool (decide (x188 = x195))) (pu_eql (k := .i64) (a := x188) (b := x195) rfl rfl) ?_
 refine mp (.bool (decide (x188 = x195))) (pu_move rfl) ?_
 rcases bS (decide (x188 = x195)) with hq202 | hq202
 replace hb := tt hq202 hb
 refine mixE.gpure rfl (want_t rfl rfl (show _ = Value.bool (decide (x188 = x195)) from rfl) hq202) (v := .int .i64 v15_2) (pu_move e15) ?_
 refine mixE.gpure rfl (want_t rfl rfl (show _ = Value.bool (decide (x188 = x195)) from rfl) hq202) (v := .bool (decide (v15_2 = 0))) (pu_eql (k := .i64) (a := v15_2) (b := 0) rfl rfl) ?_
 refine mp (.bool (decide (v15_2 = 0))) (pu_pickT (q := (decide (x188 = x195))) rfl hq202 rfl) ?_
 refine mixE.nil ?_
 clear hS hM
 refine hK185 _ _ ?_
 refine Wc.fresh fun E203 hE => ?_
 have e0 := (congrFun hE 0).trans e0
 have e1 := (congrFun hE 1).trans e1
 have e4 := (congrFun hE 4).trans e4
 have e5 := (congrFun hE 5).trans e5
 have e6 := (congrFun hE 6).trans e6
 have e7 := (congrFun hE 7).trans e7
 have e8 := (congrFun hE 8).trans e8
 have e9 := (congrFun hE 9).trans e9
 have e11 := (congrFun hE 11).trans e11
 have e12 := (congrFun hE 12).trans e12
 have e13 := (congrFun hE 13).trans e13
 have e14 := (congrFun hE 14).trans e14
 have e15 := (congrFun hE 15).trans e15
 have e16 := (congrFun hE 16).trans e16
 have e17 := (congrFun hE 17).trans e17
 have e18 := (congrFun hE 18).trans e18
 have e47 := (congrFun hE 47).trans e47
 have e58 := (congrFun hE 58).trans e58
 have e87 : E203 87 = .bool (decide (v18_3 < (l6_1.length : Int))) := (congrFun hE 87).trans rfl
 have e102 : E203 102 = .bool (decide (v15_2 = 0)) := (congrFun hE 102).trans rfl
 clear hE
 refine Wc.cond (t := (decide (v15_2 = 0))) (e102) (fun hq204 => ?_) (fun hq204 => ?_)
 replace hb := tt hq204 hb
 refine rg ?_
 refine lp (.slice Al17_3 l17_3.length cl17_3) (pu_move e17) ?_
 refine lp (.int .i64 (l7_1.length : Int)) (pu_move e16) ?_
 refine lex.op (hC.lit (s := (.int .i64)) (vs := [.int .i64 (l7_1.length : Int)]) (xs := [(l7_1.length : Int)]) Try.underlying22 Try.type3 rfl rfl (Nat.le_of_ble_eq_true rfl) rfl rfl (by simp [Value.cells, Sh.n]) rfl (show Elems _ _ (.int .i64) ([.int .i64 (l7_1.length : Int)] ++ ([])) ([(l7_1.length : Int)] : List Int) from Elems.cons (⟨rfl, I64.wr (I64.len hll7_1 hcl7_1)⟩) (Elems.nil _ _ _))) ?_
 rintro _ w209 ⟨A205, c206, rfl, hl207, hc208, hC, hF, hN⟩
 clear hF hN
 obtain ⟨u211, h212, hb⟩ := bd hb
 refine lex.op (hC.app (i := 7) (s := (.int .i64)) (xs := l17_3) (ys := ([(l7_1.length : Int)] : List Int)) (m := ((([(l7_1.length : Int)] : List Int)).length)) rfl Try.underlying22 Try.underlying22 Try.type3 rfl rfl rfl (hC.srco (i := 0) rfl) rfl rfl (by have := lim_some h212; simp at this ⊢ <;> omega) (by decide)) ?_
 rintro _ w217 ⟨A213, c214, rfl, hl215, hc216, hC, hF, hN⟩
 clear hF hN
 refine lp (.slice A213 ((l17_3 ++ ([(l7_1.length : Int)] : List Int)).length) c214) (pu_assign rfl) ?_
 refine ln ?_
 exact hK184 _ _ ⟨(l17_3 ++ ([(l7_1.length : Int)] : List Int)), (decide (v15_2 = 0)), A213, (l17_3 ++ ([(l7_1.length : Int)] : List Int)).length, c214, e0, e1, e4, e5, e6, e7, e8, e9, e11, e12, e13, e14, e15, e16, rfl, e18, e47, e58, e87, e102, hC.sel [1, 2, 3, 4, 5, 6, 7] (by decide), hb⟩
 replace hb := tf hq204 hb
 refine Wc.skip ?_
 exact hK184 _ _ ⟨l17_3, (decide (v15_2 = 0)), Al17_3, l17_3.length, cl17_3, e0, e1, e4, e5, e6, e7, e8, e9, e11, e12, e13, e14, e15, e16, e17, e18, e47, e58, e87, e102, hC.sel [0, 1, 2, 3, 4, 5, 6] (by decide), hb⟩
 replace hb := tf hq202 hb
 refine mixE.gskip (want_f rfl rfl (show _ = Value.bool (decide (x188 = x195)) from rfl) hq202) ?_
 refine mixE.gskip (want_f rfl rfl (show _ = Value.bool (decide (x188 = x195)) from rfl) hq202) ?_
 refine mp (.bool false) (pu_pickF (q := (decide (x188 = x195))) rfl hq202 rfl) ?_
 refine mixE.nil ?_
 clear hS hM
 refine hK185 _ _ ?_
 refine Wc.fresh fun E218 hE => ?_
 have e0 := (congrFun hE 0).trans e0
 have e1 := (congrFun hE 1).trans e1
 have e4 := (congrFun hE 4).trans e4
 have e5 := (congrFun hE 5).trans e5
 have e6 := (congrFun hE 6).trans e6
 have e7 := (congrFun hE 7).trans e7
 have e8 := (congrFun hE 8).trans e8
 have e9 := (congrFun hE 9).trans e9
 have e11 := (congrFun hE 11).trans e11
 have e12 := (congrFun hE 12).trans e12
 have e13 := (congrFun hE 13).trans e13
 have e14 := (congrFun hE 14).trans e14
 have e15 := (congrFun hE 15).trans e15
 have e16 := (congrFun hE 16).trans e16
 have e17 := (congrFun hE 17).trans e17
 have e18 := (congrFun hE 18).trans e18
 have e47 := (congrFun hE 47).trans e47
 have e58 := (congrFun hE 58).trans e58
 have e87 : E218 87 = .bool (decide (v18_3 < (l6_1.length : Int))) := (congrFun hE 87).trans rfl
 have e102 : E218 102 = .bool false := (congrFun hE 102).trans rfl
 clear hE
 refine Wc.cond_false (e102) ?_
 refine Wc.skip ?_
 exact hK184 _ _ ⟨l17_3, false, Al17_3, l17_3.length, cl17_3, e0, e1, e4, e5, e6, e7, e8, e9, e11, e12, e13, e14, e15, e16, e17, e18, e47, e58, e87, e102, hC.sel [0, 1, 2, 3, 4, 5, 6] (by decide), hb⟩
 clear hb hC
 rintro E220 w219 ⟨l17_4, v102_4, Al17_4, ml17_4, cl17_4, e0, e1, e4, e5, e6, e7, e8, e9, e11, e12, e13, e14, e15, e16, e17, e18, e47, e58, e87, e102, hC, hb⟩
 unfold F.ref44_Braid_j4 at hb
 obtain ⟨rfl, hll17_4, hcl17_4⟩ := (hC.ow (i := 6) rfl).sl_len
 refine Wc.seq fun K221 hK221 => ?_
 refine rg ?_
 refine lp (.slice Al17_4 l17_4.length cl17_4) (pu_move e17) ?_
 refine lp (.slice Al6_1 l6_1.length cl6_1) (pu_move e6) ?_
 refine lp (.int .i64 v18_3) (pu_move e18) ?_
 obtain ⟨x222, h223, hb⟩ := bd hb
 obtain ⟨ad224, cs225, hA, hc226, hr227⟩ := hC.elo (i := 2) rfl (get_some h223).2
 subst hA
 refine lp (.pointer (some (ad224.add (v18_3.toNat * 1)))) (pu_index (a := v18_3) Try.underlying22 Try.sizeOf3 rfl rfl (get_some h223).1) ?_
 obtain ⟨rfl, hr227'⟩ := hr227
 refine lv (.int .i64 x222) (ld_one Try.isAgg3 rfl (hc226 0 _ rfl)) ?_
 refine lex.op (hC.lit (s := (.int .i64)) (vs := [.int .i64 x222]) (xs := [x222]) Try.underlying22 Try.type3 rfl rfl (Nat.le_of_ble_eq_true rfl) rfl rfl (by simp [Value.cells, Sh.n]) rfl (show Elems _ _ (.int .i64) ([.int .i64 x222] ++ ([])) ([x222] : List Int) from Elems.cons (⟨rfl, I64.wr (wrap_I64 hr227')⟩) (Elems.nil _ _ _))) ?_
 rintro _ w232 ⟨A228, c229, rfl, hl230, hc231, hC, hF, hN⟩
 clear hF hN
 obtain ⟨u234, h235, hb⟩ := bd hb
 refine lex.op (hC.app (i := 7) (s := (.int .i64)) (xs := l17_4) (ys := ([x222] : List Int)) (m := ((([x222] : List Int)).length)) rfl Try.underlying22 Try.underlying22 Try.type3 rfl rfl rfl (hC.srco (i := 0) rfl) rfl rfl (by have := lim_some h235; simp at this ⊢ <;> omega) (by decide)) ?_
 rintro _ w240 ⟨A236, c237, rfl, hl238, hc239, hC, hF, hN⟩
 clear hF hN
 refine lp (.slice A236 ((l17_4 ++ ([x222] : List Int)).length) c237) (pu_assign rfl) ?_
 refine ln ?_
 refine hK221 _ _ ?_
 refine Wc.seq fun K241 hK241 => ?_
 refine Wc.regionMix [] (frm [] ([] : List Fact) ([] : List Fact)) (fun _ => rfl) mixed (by decide +kernel) (by decide +kernel) fun w243 hw242 => ?_
 replace hC := hC.step (Fr.of_drew hw242)
 have hM := Fr.refl (fun k => k ∈ blocks ([] : List Fact)) w243
 clear hw242
 have hS := hC
 refine mp (.slice (some ad224) l6_1.length cl6_1) (pu_move e6) ?_
 refine mp (.int .i64 v18_3) (pu_move e18) ?_
 obtain ⟨x244, h245, hb⟩ := bd hb
 obtain ⟨ad246, cs247, hA, ho250, hc248, hr249⟩ := hS.elo2 (i := 3) rfl (get_some h245).2 [] (by decide)
 obtain rfl := Option.some.inj hA
 refine mp (.pointer (some (ad224.add (v18_3.toNat * 1)))) (pu_index (a := v18_3) Try.underlying22 Try.sizeOf3 rfl rfl (get_some h245).1) ?_
 obtain ⟨rfl, hr249'⟩ := hr249
 refine mixE.load hM (v := .int .i64 x244) (fun _ hF => ld_one Try.isAgg3 rfl (hF.cell (hc248 0 _ rfl) (off1 ho250))) ?_
 refine mp (.slice (some ad124) l9_0.length cl9_0) (pu_move e9) ?_
 refine mp (.int .i64 v14_2) (pu_move e14) ?_
 obtain ⟨x251, h252, hb⟩ := bd hb
 obtain ⟨ad253, cs254, hA, ho257, hc255, hr256⟩ := hS.elo2 (i := 6) rfl (get_some h252).2 [] (by decide)
 obtain rfl := Option.some.inj hA
 refine mp (.pointer (some (ad124.add (v14_2.toNat * 1)))) (pu_index (a := v14_2) Try.underlying22 Try.sizeOf3 rfl rfl (by rw [(hC.ow (i := 6) rfl).sl_len.1]; exact (get_some h252).1)) ?_
 obtain ⟨rfl, hr256'⟩ := hr256
 refine mixE.load hM (v := .int .i64 x251) (fun _ hF => ld_one Try.isAgg3 rfl (hF.cell (hc255 0 _ rfl) (off1 ho257))) ?_
 refine mp (.bool (decide (x244 = x251))) (pu_eql (k := .i64) (a := x244) (b := x251) rfl rfl) ?_
 refine mp (.bool (decide (x244 = x251))) (pu_move rfl) ?_
 rcases bS (decide (x244 = x251)) with hq258 | hq258
 replace hb := tt hq258 hb
 refine mixE.gpure rfl (want_t rfl rfl (show _ = Value.bool (decide (x244 = x251)) from rfl) hq258) (v := .int .i64 v15_2) (pu_move e15) ?_
 refine mixE.gpure rfl (want_t rfl rfl (show _ = Value.bool (decide (x244 = x251)) from rfl) hq258) (v := .bool (decide (v15_2 = 1))) (pu_eql (k := .i64) (a := v15_2) (b := 1) rfl rfl) ?_
 refine mp (.bool (decide (v15_2 = 1))) (pu_pickT (q := (decide (x244 = x251))) rfl hq258 rfl) ?_
 refine mixE.nil ?_
 clear hS hM
 refine hK241 _ _ ?_
 refine Wc.fresh fun E259 hE => ?_
 have e0 := (congrFun hE 0).trans e0
 have e1 := (congrFun hE 1).trans e1
 have e4 := (congrFun hE 4).trans e4
 have e5 := (congrFun hE 5).trans e5
 have e6 := (congrFun hE 6).trans e6
 have e7 := (congrFun hE 7).trans e7
 have e8 := (congrFun hE 8).trans e8
 have e9 := (congrFun hE 9).trans e9
 have e11 := (congrFun hE 11).trans e11
 have e12 := (congrFun hE 12).trans e12
 have e13 := (congrFun hE 13).trans e13
 have e14 := (congrFun hE 14).trans e14
 have e15 := (congrFun hE 15).trans e15
 have e16 := (congrFun hE 16).trans e16
 have e17 : E259 17 = .slice A236 ((l17_4 ++ ([x222] : List Int)).length) c237 := (congrFun hE 17).trans rfl
 have e18 := (congrFun hE 18).trans e18
 have e47 := (congrFun hE 47).trans e47
 have e58 := (congrFun hE 58).trans e58
 have e87 := (congrFun hE 87).trans e87
 have e102 := (congrFun hE 102).trans e102
 have e126 : E259 126 = .bool (decide (v15_2 = 1)) := (congrFun hE 126).trans rfl
 clear hE
 refine Wc.cond (t := (decide (v15_2 = 1))) (e126) (fun hq260 => ?_) (fun hq260 => ?_)
 replace hb := tt hq260 hb
 refine rg ?_
 refine lp (.slice A236 ((l17_4 ++ ([x222] : List Int)).length) c237) (pu_move e17) ?_
 refine lp (.int .i64 (l7_1.length : Int)) (pu_move e16) ?_
 refine lex.op (hC.lit (s := (.int .i64)) (vs := [.int .i64 (l7_1.length : Int)]) (xs := [(l7_1.length : Int)]) Try.underlying22 Try.type3 rfl rfl (Nat.le_of_ble_eq_true rfl) rfl rfl (by simp [Value.cells, Sh.n]) rfl (show Elems _ _ (.int .i64) ([.int .i64 (l7_1.length : Int)] ++ ([])) ([(l7_1.length : Int)] : List Int) from Elems.cons (⟨rfl, I64.wr (I64.len hll7_1 hcl7_1)⟩) (Elems.nil _ _ _))) ?_
 rintro _ w265 ⟨A261, c262, rfl, hl263, hc264, hC, hF, hN⟩
 clear hF hN
 obtain ⟨u267, h268, hb⟩ := bd hb
 refine lex.op (hC.app (i := 8) (s := (.int .i64)) (xs := (l17_4 ++ ([x222] : List Int))) (ys := ([(l7_1.length : Int)] : List Int)) (m := ((([(l7_1.length : Int)] : List Int)).length)) rfl Try.underlying22 Try.underlying22 Try.type3 rfl rfl rfl (hC.srco (i := 0) rfl) rfl rfl (by have := lim_some h268; simp at this ⊢ <;> omega) (by decide)) ?_
 rintro _ w273 ⟨A269, c270, rfl, hl271, hc272, hC, hF, hN⟩
 clear hF hN
 refine lp (.slice A269 (((l17_4 ++ ([x222] : List Int)) ++ ([(l7_1.length : Int)] : List Int)).length) c270) (pu_assign rfl) ?_
 refine ln ?_
 refine hK183 _ _ ?_
 refine rg ?_
 refine lp (.int .i64 v18_3) (pu_move e18) ?_
 obtain ⟨z274, h275, hb⟩ := bd hb
 refine lp (.int .i64 z274) (pu_addc (a := v18_3) (b := 1) rfl rfl h275) ?_
 refine lp (.int .i64 z274) (pu_assign rfl) ?_
 refine ln ?_
 obtain rfl := os hb
 exact hK175 m176' _ _ (Nat.lt_succ_self _) ⟨((l17_4 ++ ([x222] : List Int)) ++ ([(l7_1.length : Int)] : List Int)), z274, A269, ((l17_4 ++ ([x222] : List Int)) ++ ([(l7_1.length : Int)] : List Int)).length, c270, e0, e1, e4, e5, e6, e7, e8, e9, e11, e12, e13, e14, e15, e16, rfl, rfl, e47, e58, (chk_rng h275), hC.sel [2, 3, 4, 5, 6, 7, 8] (by decide), lN hl3⟩
 replace hb := tf hq260 hb
 refine Wc.skip ?_
 refine hK183 _ _ ?_
 refine rg ?_
 refine lp (.int .i64 v18_3) (pu_move e18) ?_
 obtain ⟨z276, h277, hb⟩ := bd hb
 refine lp (.int .i64 z276) (pu_addc (a := v18_3) (b := 1) rfl rfl h277) ?_
 refine lp (.int .i64 z276) (pu_assign rfl) ?_
 refine ln ?_
 obtain rfl := os hb
 exact hK175 m176' _ _ (Nat.lt_succ_self _) ⟨(l17_4 ++ ([x222] : List Int)), z276, A236, (l17_4 ++ ([x222] : List Int)).length, c237, e0, e1, e4, e5, e6, e7, e8, e9, e11, e12, e13, e14, e15, e16, e17, rfl, e47, e58, (chk_rng h277), hC.sel [1, 2, 3, 4, 5, 6, 7] (by decide), lN hl3⟩
 replace hb := tf hq258 hb
 refine mixE.gskip (want_f rfl rfl (show _ = Value.bool (decide (x244 = x251)) from rfl) hq258) ?_
 refine mixE.gskip (want_f rfl rfl (show _ = Value.bool (decide (x244 = x251)) from rfl) hq258) ?_
 refine mp (.bool false) (pu_pickF (q := (decide (x244 = x251))) rfl hq258 rfl) ?_
 refine mixE.nil ?_
 clear hS hM
 refine hK241 _ _ ?_
 refine Wc.fresh fun E278 hE => ?_
 have e0 := (congrFun hE 0).trans e0
 have e1 := (congrFun hE 1).trans e1
 have e4 := (congrFun hE 4).trans e4
 have e5 := (congrFun hE 5).trans e5
 have e6 := (congrFun hE 6).trans e6
 have e7 := (congrFun hE 7).trans e7
 have e8 := (congrFun hE 8).trans e8
 have e9 := (congrFun hE 9).trans e9
 have e11 := (congrFun hE 11).trans e11
 have e12 := (congrFun hE 12).trans e12
 have e13 := (congrFun hE 13).trans e13
 have e14 := (congrFun hE 14).trans e14
 have e15 := (congrFun hE 15).trans e15
 have e16 := (congrFun hE 16).trans e16
 have e17 : E278 17 = .slice A236 ((l17_4 ++ ([x222] : List Int)).length) c237 := (congrFun hE 17).trans rfl
 have e18 := (congrFun hE 18).trans e18
 have e47 := (congrFun hE 47).trans e47
 have e58 := (congrFun hE 58).trans e58
 have e87 := (congrFun hE 87).trans e87
 have e102 := (congrFun hE 102).trans e102
 have e126 : E278 126 = .bool false := (congrFun hE 126).trans rfl
 clear hE
 refine Wc.cond_false (e126) ?_
 refine Wc.skip ?_
 refine hK183 _ _ ?_
 refine rg ?_
 refine lp (.int .i64 v18_3) (pu_move e18) ?_
 obtain ⟨z279, h280, hb⟩ := bd hb
 refine lp (.int .i64 z279) (pu_addc (a := v18_3) (b := 1) rfl rfl h280) ?_
 refine lp (.int .i64 z279) (pu_assign rfl) ?_
 refine ln ?_
 obtain rfl := os hb
 exact hK175 m176' _ _ (Nat.lt_succ_self _) ⟨(l17_4 ++ ([x222] : List Int)), z279, A236, (l17_4 ++ ([x222] : List Int)).length, c237, e0, e1, e4, e5, e6, e7, e8, e9, e11, e12, e13, e14, e15, e16, e17, rfl, e47, e58, (chk_rng h280), hC.sel [1, 2, 3, 4, 5, 6, 7] (by decide), lN hl3⟩
 replace hb := tf hq182 hb
 refine Wc.exit rfl ?_
 obtain rfl := os hb
 obtain rfl := (lX hl3).symm
 exact hK174 _ _ ⟨l17_3, v18_3, Al17_3, l17_3.length, cl17_3, e0, e1, e4, e5, e6, e7, e8, e9, e11, e12, e13, e14, e15, e16, e17, e18, e47, e58, hrv18_3, hC.sel [0, 1, 2, 3, 4, 5, 6] (by decide), hbK3⟩
 clear hb hC hl3
 rintro E282 w281 ⟨l17_3, v18_3, Al17_3, ml17_3, cl17_3, e0, e1, e4, e5, e6, e7, e8, e9, e11, e12, e13, e14, e15, e16, e17, e18, e47, e58, hrv18_3, hC, hb⟩
 obtain ⟨rfl, hll17_3, hcl17_3⟩ := (hC.ow (i := 6) rfl).sl_len
 refine hK170 _ _ ?_
 refine Wc.seq fun K283 hK283 => ?_
 refine rg ?_
 refine lp (.slice Al17_3 l17_3.length cl17_3) (pu_move e17) ?_
 refine lp (.slice Al17_3 l17_3.length cl17_3) (pu_assign rfl) ?_
 refine ln ?_
 refine hK283 _ _ ?_
 refine rg ?_
 refine lp (.slice (some ad124) l9_0.length cl9_0) (pu_move e9) ?_
 refine lp (.int .i64 v13_2) (pu_move e13) ?_
 refine lp (.slice (some ad124) l9_0.length cl9_0) (pu_move e9) ?_
 refine lp (.int .i64 v14_2) (pu_move e14) ?_
 refine lp (.slice (some ad124) l9_0.length cl9_0) (pu_move e9) ?_
 refine lp (.int .i64 v14_2) (pu_move e14) ?_
 obtain ⟨x284, h285, hb⟩ := bd hb
 obtain ⟨ad286, cs287, hA, hc288, hr289⟩ := hC.elo (i := 5) rfl (get_some h285).2
 obtain rfl := Option.some.inj hA
 refine lp (.pointer (some (ad124.add (v14_2.toNat * 1)))) (pu_index (a := v14_2) Try.underlying22 Try.sizeOf3 rfl rfl (by rw [(hC.ow (i := 5) rfl).sl_len.1]; exact (get_some h285).1)) ?_
 obtain ⟨rfl, hr289'⟩ := hr289
 refine lv (.int .i64 x284) (ld_one Try.isAgg3 rfl (hc288 0 _ rfl)) ?_
 refine lp (.int .i64 (l7_1.length : Int)) (pu_move e16) ?_
 obtain ⟨x290, h291, hb⟩ := bd hb
 obtain ⟨ad292, cs293, hA, hc294, hr295⟩ := hC.elo (i := 5) rfl (get_some h291).2
 obtain rfl := Option.some.inj hA
 refine lp (.pointer (some (ad124.add (v13_2.toNat * 1)))) (pu_index (a := v13_2) Try.underlying22 Try.sizeOf3 rfl rfl (by rw [(hC.ow (i := 5) rfl).sl_len.1]; exact (get_some h291).1)) ?_
 refine lex.sk (hC.put (i := 5) rfl rfl Try.sizeOf3 (k := v13_2.toNat) (a := x284) (by have := (get_some h291).1; simp at this ⊢; omega) (⟨rfl, I64.wr (wrap_I64 hr289')⟩) rfl rfl rfl) ?_
 rintro w296 ⟨hC, hF⟩
 obtain ⟨x297, h298, hb⟩ := bd hb
 obtain ⟨ad299, cs300, hA, hc301, hr302⟩ := hC.elo (i := 5) rfl (get_some h298).2
 obtain rfl := Option.some.inj hA
 refine lp (.pointer (some (ad124.add (v14_2.toNat * 1)))) (pu_index (a := v14_2) Try.underlying22 Try.sizeOf3 rfl rfl (by rw [(hC.ow (i := 5) rfl).sl_len.1]; exact (get_some h298).1)) ?_
 refine lex.sk (hC.put (i := 5) rfl rfl Try.sizeOf3 (k := v14_2.toNat) (a := (l7_1.length : Int)) (by have := (get_some h298).1; simp at this ⊢; omega) (⟨rfl, I64.wr (I64.len hll7_1 hcl7_1)⟩) rfl rfl rfl) ?_
 rintro w303 ⟨hC, hF⟩
 refine ln ?_
 refine hK97 _ _ ?_
 refine rg ?_
 refine lp (.int .i64 v11_1) (pu_move e11) ?_
 obtain ⟨z304, h305, hb⟩ := bd hb
 refine lp (.int .i64 z304) (pu_addc (a := v11_1) (b := 1) rfl rfl h305) ?_
 refine lp (.int .i64 z304) (pu_assign rfl) ?_
 refine ln ?_
 obtain rfl := os hb
 exact hK89 m90' _ _ (Nat.lt_succ_self _) ⟨l17_3, (l7_1 ++ ([z139] : List Int)), ((l8_1.set x122.toNat z128) ++ ([(-1)] : List Int)), z304, ((qF9_0_1.set v13_2.toNat x284).set v14_2.toNat (l7_1.length : Int)), Al17_3, l17_3.length, cl17_3, A149, (l7_1 ++ ([z139] : List Int)).length, c150, A163, ((l8_1.set x122.toNat z128) ++ ([(-1)] : List Int)).length, c164, e0, e1, e4, e5, rfl, e7, e8, e9, rfl, (chk_rng h305), hC.sel [0, 1, 6, 3, 4, 5] (by decide), lN hl1⟩
 replace hb := tf hq96 hb
 refine Wc.exit rfl ?_
 obtain rfl := os hb
 obtain rfl := (lX hl1).symm
 exact hK88 _ _ ⟨l6_1, l7_1, l8_1, v11_1, qF9_0_1, Al6_1, l6_1.length, cl6_1, Al7_1, l7_1.length, cl7_1, Al8_1, l8_1.length, cl8_1, e0, e4, e5, e6, e7, e8, e9, hrv11_1, hC.sel [1, 2, 3, 4, 5] (by decide), hbK1⟩
 clear hb hC hl1
 rintro E307 w306 ⟨l6_1, l7_1, l8_1, v11_1, qF9_0_1, Al6_1, ml6_1, cl6_1, Al7_1, ml7_1, cl7_1, Al8_1, ml8_1, cl8_1, e0, e4, e5, e6, e7, e8, e9, hrv11_1, hC, hb⟩
 obtain ⟨rfl, hll6_1, hcl6_1⟩ := (hC.ow (i := 1) rfl).sl_len
 obtain ⟨rfl, hll7_1, hcl7_1⟩ := (hC.ow (i := 2) rfl).sl_len
 obtain ⟨rfl, hll8_1, hcl8_1⟩ := (hC.ow (i := 3) rfl).sl_len
 refine hK85 _ _ ?_
 refine Wc.seq fun K308 hK308 => ?_
 refine rg ?_
 refine lex.op (hC.alloc (cs := [.slice none 0 0, .slice none 0 0]) Try.zeroValue24 rfl) ?_
 rintro _ w310 ⟨g309, rfl, hC, hF, hG⟩
 clear hG
 refine ln ?_
 refine hK308 _ _ ?_
 refine Wc.seq fun K312 hK312 => ?_
 refine Wc.seq fun K313 hK313 => ?_
 refine rg ?_
 refine lp (.int .i64 0) (pu_assign rfl) ?_
 refine ln ?_
 refine hK313 _ _ ?_
 obtain ⟨o314, hl5, hb⟩ := bd hb
 refine Wc.cut (fun E wv => ∃ (v20_5 : Int) (qF8_1_5 : List Int), E 0 = .int .i64 strands_0 ∧ E 4 = .pointer (some ⟨g3, 0, none⟩) ∧ E 5 = .int .i64 (word_1.length : Int) ∧ E 6 = .slice Al6_1 l6_1.length cl6_1 ∧ E 7 = .slice Al7_1 l7_1.length cl7_1 ∧ E 8 = .slice Al8_1 l8_1.length cl8_1 ∧ E 19 = .pointer (some ⟨g309, 0, none⟩) ∧ I64 v20_5 ∧ Cx (fun _ => False) O0 w wv [.box g3 24 [.slice none 0 0, .slice none 0 0], .own 3 (.int .i64) (.slice Al6_1 l6_1.length cl6_1) l6_1, .own 3 (.int .i64) (.slice Al7_1 l7_1.length cl7_1) l7_1, .own 3 (.int .i64) (.slice Al8_1 l8_1.length cl8_1) qF8_1_5, .box g309 24 [.slice none 0 0, .slice none 0 0]] ∧ (((loopN n (F.ref44_Braid_b6 n l6_1 l7_1 qF8_1_5) (0, ([] : List Int), ([] : List Int))).bind fun o354 => match o354 with     | (v21_6, kf311_0_6, kf311_1_6) => (chk (strands_0 - 1)).bind fun z433 => ((loopN n (F.ref44_Braid_b7 n strands_0 word_1) (z433, kf311_0_6, kf311_1_6)).bind fun o435 => match o435 with     | (v22_7, kf311_0_7, kf311_1_7) => some (kf311_0_7, kf311_1_7))) : Option ((List Int) × (List Int))) = some r) (fun K315 hK315 => ?_) ?_
 refine Wc.block ?_
 refine Wc.loop (fun m E wv => ∃ (v20_5 : Int) (qF8_1_5 : List Int), E 0 = .int .i64 strands_0 ∧ E 4 = .pointer (some ⟨g3, 0, none⟩) ∧ E 5 = .int .i64 (word_1.length : Int) ∧ E 6 = .slice Al6_1 l6_1.length cl6_1 ∧ E 7 = .slice Al7_1 l7_1.length cl7_1 ∧ E 8 = .slice Al8_1 l8_1.length cl8_1 ∧ E 9 = .slice Al9_0 l9_0.length cl9_0 ∧ E 19 = .pointer (some ⟨g309, 0, none⟩) ∧ E 20 = .int .i64 v20_5 ∧ I64 v20_5 ∧ Cx (fun _ => False) O0 w wv [.box g3 24 [.slice none 0 0, .slice none 0 0], .own 3 (.int .i64) (.slice Al6_1 l6_1.length cl6_1) l6_1, .own 3 (.int .i64) (.slice Al7_1 l7_1.length cl7_1) l7_1, .own 3 (.int .i64) (.slice Al8_1 l8_1.length cl8_1) qF8_1_5, .own 3 (.int .i64) (.slice Al9_0 l9_0.length cl9_0) qF9_0_1, .box g309 24 [.slice none 0 0, .slice none 0 0]] ∧ loopN m (F.ref44_Braid_b5 n strands_0 word_1 qF9_0_1) (v20_5, qF8_1_5) = some o314) n ⟨0, l8_1, e0, e4, e5, e6, e7, e8, e9, rfl, rfl, (show I64 0 from by unfold I64; omega), hC.sel [1, 2, 3, 4, 5, 0] (by decide), hl5⟩ ?_
 have hbK5 := hb
 clear hb hC hl5
 rintro m317 E319 w318 ⟨v20_5, qF8_1_5, e0, e4, e5, e6, e7, e8, e9, e19, e20, hrv20_5, hC, hl5⟩ K316 hK316
 obtain ⟨m317', o320, rfl, hb, hl5⟩ := loopN_some hl5
 unfold F.ref44_Braid_b5 at hb
 refine Wc.seq fun K321 hK321 => ?_
 refine Wc.seq fun K322 hK322 => ?_
 refine rg ?_
 refine lp (.int .i64 v20_5) (pu_move e20) ?_
 refine lp (.int .i64 strands_0) (pu_move e0) ?_
 refine lp (.bool (decide (v20_5 < strands_0))) (pu_lss (k := .i64) (a := v20_5) (b := strands_0) rfl rfl) ?_
 refine ln ?_
 refine hK322 _ _ ?_
 refine Wc.cond (t := (decide (v20_5 < strands_0))) (rfl) (fun hq323 => ?_) (fun hq323 => ?_)
 replace hb := tt hq323 hb
 refine Wc.skip ?_
 refine hK321 _ _ ?_
 refine Wc.seq fun K324 hK324 => ?_
 refine Wc.block ?_
 refine rg ?_
 refine lp (.slice Al8_1 l8_1.length cl8_1) (pu_move e8) ?_
 refine lp (.slice Al9_0 l9_0.length cl9_0) (pu_move e9) ?_
 refine lp (.int .i64 v20_5) (pu_move e20) ?_
 obtain ⟨x325, h326, hb⟩ := bd hb
 obtain ⟨ad327, cs328, hA, hc329, hr330⟩ := hC.elo (i := 4) rfl (get_some h326).2
 subst hA
 refine lp (.pointer (some (ad327.add (v20_5.toNat * 1)))) (pu_index (a := v20_5) Try.underlying22 Try.sizeOf3 rfl rfl (by rw [(hC.ow (i := 4) rfl).sl_len.1]; exact (get_some h326).1)) ?_
 obtain ⟨rfl, hr330'⟩ := hr330
 refine lv (.int .i64 x325) (ld_one Try.isAgg3 rfl (hc329 0 _ rfl)) ?_
 refine lp (.int .i64 strands_0) (pu_move e0) ?_
 obtain ⟨z331, h332, hb⟩ := bd hb
 refine lp (.int .i64 z331) (pu_mulc (a := 2) (b := strands_0) rfl rfl h332) ?_
 refine lp (.int .i64 (word_1.length : Int)) (pu_move e5) ?_
 obtain ⟨z333, h334, hb⟩ := bd hb
 refine lp (.int .i64 z333) (pu_addc (a := z331) (b := (word_1.length : Int)) rfl rfl h334) ?_
 obtain ⟨z335, h336, hb⟩ := bd hb
 refine lp (.int .i64 z335) (pu_subc (a := z333) (b := 1) rfl rfl h336) ?_
 refine lp (.int .i64 v20_5) (pu_move e20) ?_
 obtain ⟨z337, h338, hb⟩ := bd hb
 refine lp (.int .i64 z337) (pu_subc (a := z335) (b := v20_5) rfl rfl h338) ?_
 obtain ⟨x339, h340, hb⟩ := bd hb
 obtain ⟨ad341, cs342, hA, hc343, hr344⟩ := hC.elo (i := 3) rfl (get_some h340).2
 subst hA
 refine lp (.pointer (some (ad341.add (x325.toNat * 1)))) (pu_index (a := x325) Try.underlying22 Try.sizeOf3 rfl rfl (by rw [(hC.ow (i := 3) rfl).sl_len.1]; exact (get_some h340).1)) ?_
 refine lex.sk (hC.put (i := 3) rfl rfl Try.sizeOf3 (k := x325.toNat) (a := z337) (by have := (get_some h340).1; simp at this ⊢; omega) (⟨rfl, I64.wr (chk_rng h338)⟩) rfl rfl rfl) ?_
 rintro w345 ⟨hC, hF⟩
 refine ln ?_
 refine hK324 _ _ ?_
 refine rg ?_
 refine lp (.int .i64 v20_5) (pu_move e20) ?_
 obtain ⟨z346, h347, hb⟩ := bd hb
 refine lp (.int .i64 z346) (pu_addc (a := v20_5) (b := 1) rfl rfl h347) ?_
 refine lp (.int .i64 z346) (pu_assign rfl) ?_
 refine ln ?_
 obtain rfl := os hb
 exact hK316 m317' _ _ (Nat.lt_succ_self _) ⟨z346, (qF8_1_5.set x325.toNat z337), e0, e4, e5, e6, e7, e8, e9, e19, rfl, (chk_rng h347), hC.sel [0, 1, 2, 3, 4, 5] (by decide), lN hl5⟩
 replace hb := tf hq323 hb
 refine Wc.exit rfl ?_
 obtain rfl := os hb
 obtain rfl := (lX hl5).symm
 exact hK315 _ _ ⟨v20_5, qF8_1_5, e0, e4, e5, e6, e7, e8, e19, hrv20_5, hC.sel [0, 1, 2, 3, 5] (by decide), hbK5⟩
 clear hb hC hl5
 rintro E349 w348 ⟨v20_5, qF8_1_5, e0, e4, e5, e6, e7, e8, e19, hrv20_5, hC, hb⟩
 refine hK312 _ _ ?_
 refine Wc.seq fun K350 hK350 => ?_
 refine Wc.seq fun K351 hK351 => ?_
 refine rg ?_
 refine lp (.int .i64 0) (pu_assign rfl) ?_
 refine ln ?_
 refine hK351 _ _ ?_
 replace hC := hC.nil 3 (.int .i64)
 replace hC := hC.nil 3 (.int .i64)
 obtain ⟨o354, hl6, hb⟩ := bd hb
 refine Wc.cut (fun E wv => ∃ (v21_6 : Int) (kf311_0_6 : List Int) (kf311_1_6 : List Int) (Akf311_0_6 : Option Addr) (mkf311_0_6 ckf311_0_6 : Nat) (Akf311_1_6 : Option Addr) (mkf311_1_6 ckf311_1_6 : Nat), E 0 = .int .i64 strands_0 ∧ E 4 = .pointer (some ⟨g3, 0, none⟩) ∧ E 5 = .int .i64 (word_1.length : Int) ∧ E 19 = .pointer (some ⟨g309, 0, none⟩) ∧ I64 v21_6 ∧ Cx (fun _ => False) O0 w wv [.box g3 24 [.slice none 0 0, .slice none 0 0], .box g309 24 [.slice Akf311_0_6 mkf311_0_6 ckf311_0_6, .slice Akf311_1_6 mkf311_1_6 ckf311_1_6], .own 3 (.int .i64) (.slice Akf311_0_6 mkf311_0_6 ckf311_0_6) kf311_0_6, .own 3 (.int .i64) (.slice Akf311_1_6 mkf311_1_6 ckf311_1_6) kf311_1_6] ∧ ((chk (strands_0 - 1)).bind fun z433 => ((loopN n (F.ref44_Braid_b7 n strands_0 word_1) (z433, kf311_0_6, kf311_1_6)).bind fun o435 => match o435 with     | (v22_7, kf311_0_7, kf311_1_7) => some (kf311_0_7, kf311_1_7)) : Option ((List Int) × (List Int))) = some r) (fun K355 hK355 => ?_) ?_
 refine Wc.block ?_
 refine Wc.loop (fun m E wv => ∃ (v21_6 : Int) (kf311_0_6 : List Int) (kf311_1_6 : List Int) (Akf311_0_6 : Option Addr) (mkf311_0_6 ckf311_0_6 : Nat) (Akf311_1_6 : Option Addr) (mkf311_1_6 ckf311_1_6 : Nat), E 0 = .int .i64 strands_0 ∧ E 4 = .pointer (some ⟨g3, 0, none⟩) ∧ E 5 = .int .i64 (word_1.length : Int) ∧ E 6 = .slice Al6_1 l6_1.length cl6_1 ∧ E 7 = .slice Al7_1 l7_1.length cl7_1 ∧ E 8 = .slice Al8_1 l8_1.length cl8_1 ∧ E 19 = .pointer (some ⟨g309, 0, none⟩) ∧ E 21 = .int .i64 v21_6 ∧ I64 v21_6 ∧ Cx (fun _ => False) O0 w wv [.box g3 24 [.slice none 0 0, .slice none 0 0], .own 3 (.int .i64) (.slice Al6_1 l6_1.length cl6_1) l6_1, .own 3 (.int .i64) (.slice Al7_1 l7_1.length cl7_1) l7_1, .own 3 (.int .i64) (.slice Al8_1 l8_1.length cl8_1) qF8_1_5, .box g309 24 [.slice Akf311_0_6 mkf311_0_6 ckf311_0_6, .slice Akf311_1_6 mkf311_1_6 ckf311_1_6], .own 3 (.int .i64) (.slice Akf311_0_6 mkf311_0_6 ckf311_0_6) kf311_0_6, .own 3 (.int .i64) (.slice Akf311_1_6 mkf311_1_6 ckf311_1_6) kf311_1_6] ∧ loopN m (F.ref44_Braid_b6 n l6_1 l7_1 qF8_1_5) (v21_6, kf311_0_6, kf311_1_6) = some o354) n ⟨0, ([] : List Int), ([] : List Int), none, 0, 0, none, 0, 0, e0, e4, e5, e6, e7, e8, e19, rfl, (show I64 0 from by unfold I64; omega), hC.sel [2, 3, 4, 5, 6, 1, 0] (by decide), hl6⟩ ?_
 have hbK6 := hb
 clear hb hC hl6
 rintro m357 E359 w358 ⟨v21_6, kf311_0_6, kf311_1_6, Akf311_0_6, mkf311_0_6, ckf311_0_6, Akf311_1_6, mkf311_1_6, ckf311_1_6, e0, e4, e5, e6, e7, e8, e19, e21, hrv21_6, hC, hl6⟩ K356 hK356
 obtain ⟨m357', o360, rfl, hb, hl6⟩ := loopN_some hl6
 unfold F.ref44_Braid_b6 at hb
 obtain ⟨rfl, hlkf311_0_6, hckf311_0_6⟩ := (hC.ow (i := 5) rfl).sl_len
 obtain ⟨rfl, hlkf311_1_6, hckf311_1_6⟩ := (hC.ow (i := 6) rfl).sl_len
 refine Wc.seq fun K361 hK361 => ?_
 refine Wc.seq fun K362 hK362 => ?_
 refine rg ?_
 refine lp (.int .i64 v21_6) (pu_move e21) ?_
 refine lp (.slice Al6_1 l6_1.length cl6_1) (pu_move e6) ?_
 refine lp (.int .i64 (l6_1.length : Int)) (pu_len (A := Al6_1) (n := l6_1.length) (m := cl6_1) Try.underlying22 rfl) ?_
 refine lp (.bool (decide (v21_6 < (l6_1.length : Int)))) (pu_lss (k := .i64) (a := v21_6) (b := (l6_1.length : Int)) rfl rfl) ?_
 refine ln ?_
 refine hK362 _ _ ?_
 refine Wc.cond (t := (decide (v21_6 < (l6_1.length : Int)))) (rfl) (fun hq363 => ?_) (fun hq363 => ?_)
 replace hb := tt hq363 hb
 refine Wc.skip ?_
 refine hK361 _ _ ?_
 refine Wc.seq fun K364 hK364 => ?_
 refine Wc.block ?_
 refine Wc.seq fun K365 hK365 => ?_
 refine Wc.regionMix [173, 175] (frm [173, 175] [.own 3 (.int .i64) (.slice Akf311_0_6 kf311_0_6.length ckf311_0_6) kf311_0_6] [.box g309 24 [.slice Akf311_0_6 kf311_0_6.length ckf311_0_6, .slice Akf311_1_6 kf311_1_6.length ckf311_1_6]]) (fun _ => rfl) mixed (by decide +kernel) (by decide +kernel) fun w367 hw366 => ?_
 replace hC := hC.step (Fr.of_drew hw366)
 have hM := Fr.refl (fun k => k ∈ blocks [.own 3 (.int .i64) (.slice Akf311_0_6 kf311_0_6.length ckf311_0_6) kf311_0_6]) w367
 clear hw366
 have hS := hC
 have hBFf311_0_6 : Beside [.own 3 (.int .i64) (.slice Akf311_0_6 kf311_0_6.length ckf311_0_6) kf311_0_6] w367 (.slice Akf311_0_6 kf311_0_6.length ckf311_0_6) := Beside.of (i := 0) rfl
 have hD : Fr (fun k => k ∈ blocks ([.own 3 (.int .i64) (.slice Akf311_0_6 kf311_0_6.length ckf311_0_6) kf311_0_6] ++ [.box g309 24 [.slice Akf311_0_6 kf311_0_6.length ckf311_0_6, .slice Akf311_1_6 kf311_1_6.length ckf311_1_6]])) w367 w367 := hM.wide
 have hUFf311_0_6 : Beside ([.own 3 (.int .i64) (.slice Akf311_0_6 kf311_0_6.length ckf311_0_6) kf311_0_6] ++ [.box g309 24 [.slice Akf311_0_6 kf311_0_6.length ckf311_0_6, .slice Akf311_1_6 kf311_1_6.length ckf311_1_6]]) w367 (.slice Akf311_0_6 kf311_0_6.length ckf311_0_6) := Beside.of (i := 0) rfl
 have hUf311 : g309 < w367.heap.size → g309 ∈ blocks ([.own 3 (.int .i64) (.slice Akf311_0_6 kf311_0_6.length ckf311_0_6) kf311_0_6] ++ [.box g309 24 [.slice Akf311_0_6 kf311_0_6.length ckf311_0_6, .slice Akf311_1_6 kf311_1_6.length ckf311_1_6]]) := fun _ => box_in (i := 1) rfl
 refine mp (.pointer (some ((⟨g309, 0, none⟩ : Addr).add 0))) (pu_field (sz := 1) Try.underlying24 rfl Try.sizeOf22 (by decide) rfl e19) ?_
 refine mixE.load hM (v := .slice Akf311_0_6 kf311_0_6.length ckf311_0_6) (fun _ hF => ld_fld (hS.bx2 (i := 4) rfl [5] (by decide) hF) Try.isAgg22 rfl rfl) ?_
 refine mp (.slice Al7_1 l7_1.length cl7_1) (pu_move e7) ?_
 refine mp (.slice Al6_1 l6_1.length cl6_1) (pu_move e6) ?_
 refine mp (.int .i64 v21_6) (pu_move e21) ?_
 obtain ⟨x368, h369, hb⟩ := bd hb
 obtain ⟨ad370, cs371, hA, ho374, hc372, hr373⟩ := hS.elo2 (i := 1) rfl (get_some h369).2 [5, 4] (by decide)
 subst hA
 refine mp (.pointer (some (ad370.add (v21_6.toNat * 1)))) (pu_index (a := v21_6) Try.underlying22 Try.sizeOf3 rfl rfl (get_some h369).1) ?_
 obtain ⟨rfl, hr373'⟩ := hr373
 refine mixE.steady hD (v := .int .i64 x368) (fun _ hF => ld_one Try.isAgg3 rfl (hF.cell (hc372 0 _ rfl) (off1 ho374))) ?_
 obtain ⟨x375, h376, hb⟩ := bd hb
 obtain ⟨ad377, cs378, hA, ho381, hc379, hr380⟩ := hS.elo2 (i := 2) rfl (get_some h376).2 [5, 4] (by decide)
 subst hA
 refine mp (.pointer (some (ad377.add (x368.toNat * 1)))) (pu_index (a := x368) Try.underlying22 Try.sizeOf3 rfl rfl (get_some h376).1) ?_
 obtain ⟨rfl, hr380'⟩ := hr380
 refine mixE.steady hD (v := .int .i64 x375) (fun _ hF => ld_one Try.isAgg3 rfl (hF.cell (hc379 0 _ rfl) (off1 ho381))) ?_
 refine mixE.op hM (hC.lit (s := (.int .i64)) (vs := [.int .i64 x375]) (xs := [x375]) Try.underlying22 Try.type3 rfl rfl (Nat.le_of_ble_eq_true rfl) rfl rfl (by simp [Value.cells, Sh.n]) rfl (show Elems _ _ (.int .i64) ([.int .i64 x375] ++ ([])) ([x375] : List Int) from Elems.cons (⟨rfl, I64.wr (wrap_I64 hr380')⟩) (Elems.nil _ _ _))) ?_
 rintro _ w386 ⟨A382, c383, rfl, hl384, hc385, hC, hF, hN⟩
 have hBf387 := Beside.new hM hN
 have hUf387 := Beside.new (hM.wide (H := [.box g309 24 [.slice Akf311_0_6 kf311_0_6.length ckf311_0_6, .slice Akf311_1_6 kf311_1_6.length ckf311_1_6]])) hN
 replace hM := hM.none hF
 replace hD := hM.wide (H := [.box g309 24 [.slice Akf311_0_6 kf311_0_6.length ckf311_0_6, .slice Akf311_1_6 kf311_1_6.length ckf311_1_6]])
 refine ⟨hM, ?_⟩
 clear hF hN
 obtain ⟨u388, h389, hb⟩ := bd hb
 refine mixE.op hM (hC.app (i := 6) (s := (.int .i64)) (xs := kf311_0_6) (ys := ([x375] : List Int)) (m := ((([x375] : List Int)).length)) rfl Try.underlying22 Try.underlying22 Try.type3 rfl rfl rfl (hC.srco (i := 0) rfl) rfl rfl (by have := lim_some h389; simp at this ⊢ <;> omega) (by decide)) ?_
 rintro _ w394 ⟨A390, c391, rfl, hl392, hc393, hC, hF, hN⟩
 have hB := hBFf311_0_6
 replace hBFf311_0_6 := hB.app hM hN
 replace hM := hM.beside hB hF
 clear hB
 replace hD := hM.wide (H := [.box g309 24 [.slice Akf311_0_6 kf311_0_6.length ckf311_0_6, .slice Akf311_1_6 kf311_1_6.length ckf311_1_6]])
 refine ⟨hM, ?_⟩
 clear hF hN
 refine mp (.pointer (some ((⟨g309, 0, none⟩ : Addr).add 0))) (pu_field (sz := 1) Try.underlying24 rfl Try.sizeOf22 (by decide) rfl e19) ?_
 refine mixE.sk hD (hC.setf (i := 5) (k := 0) (v := .slice A390 ((kf311_0_6 ++ ([x375] : List Int)).length) c391) rfl Try.sizeOf22 rfl rfl rfl rfl) ?_
 rintro w395 ⟨hC, hF⟩
 replace hD := hD.besideG hUf311 hF
 clear hF
 refine ⟨hD, ?_⟩
 refine mixE.nil ?_
 clear hS hM
 clear hD
 refine hK365 _ _ ?_
 refine Wc.fresh fun E396 hE => ?_
 have e0 := (congrFun hE 0).trans e0
 have e4 := (congrFun hE 4).trans e4
 have e5 := (congrFun hE 5).trans e5
 have e6 := (congrFun hE 6).trans e6
 have e7 := (congrFun hE 7).trans e7
 have e8 := (congrFun hE 8).trans e8
 have e19 := (congrFun hE 19).trans e19
 have e21 := (congrFun hE 21).trans e21
 have e164 : E396 164 = .bool (decide (v21_6 < (l6_1.length : Int))) := (congrFun hE 164).trans rfl
 clear hE
 refine Wc.regionMix [185, 187] (frm [185, 187] [.own 3 (.int .i64) (.slice Akf311_1_6 kf311_1_6.length ckf311_1_6) kf311_1_6] [.box g309 24 [.slice A390 ((kf311_0_6 ++ ([x375] : List Int)).length) c391, .slice Akf311_1_6 kf311_1_6.length ckf311_1_6]]) (fun _ => rfl) mixed (by decide +kernel) (by decide +kernel) fun w398 hw397 => ?_
 replace hC := hC.step (Fr.of_drew hw397)
 have hM := Fr.refl (fun k => k ∈ blocks [.own 3 (.int .i64) (.slice Akf311_1_6 kf311_1_6.length ckf311_1_6) kf311_1_6]) w398
 clear hw397
 have hS := hC
 have hBFf311_1_6 : Beside [.own 3 (.int .i64) (.slice Akf311_1_6 kf311_1_6.length ckf311_1_6) kf311_1_6] w398 (.slice Akf311_1_6 kf311_1_6.length ckf311_1_6) := Beside.of (i := 0) rfl
 have hD : Fr (fun k => k ∈ blocks ([.own 3 (.int .i64) (.slice Akf311_1_6 kf311_1_6.length ckf311_1_6) kf311_1_6] ++ [.box g309 24 [.slice A390 ((kf311_0_6 ++ ([x375] : List Int)).length) c391, .slice Akf311_1_6 kf311_1_6.length ckf311_1_6]])) w398 w398 := hM.wide
 have hUFf311_1_6 : Beside ([.own 3 (.int .i64) (.slice Akf311_1_6 kf311_1_6.length ckf311_1_6) kf311_1_6] ++ [.box g309 24 [.slice A390 ((kf311_0_6 ++ ([x375] : List Int)).length) c391, .slice Akf311_1_6 kf311_1_6.length ckf311_1_6]]) w398 (.slice Akf311_1_6 kf311_1_6.length ckf311_1_6) := Beside.of (i := 0) rfl
 have hUf311 : g309 < w398.heap.size → g309 ∈ blocks ([.own 3 (.int .i64) (.slice Akf311_1_6 kf311_1_6.length ckf311_1_6) kf311_1_6] ++ [.box g309 24 [.slice A390 ((kf311_0_6 ++ ([x375] : List Int)).length) c391, .slice Akf311_1_6 kf311_1_6.length ckf311_1_6]]) := fun _ => box_in (i := 1) rfl
 refine mp (.pointer (some ((⟨g309, 0, none⟩ : Addr).add 1))) (pu_field (sz := 1) Try.underlying24 rfl Try.sizeOf22 (by decide) rfl e19) ?_
 refine mixE.load hM (v := .slice Akf311_1_6 kf311_1_6.length ckf311_1_6) (fun _ hF => ld_fld (hS.bx2 (i := 5) rfl [7] (by decide) hF) Try.isAgg22 rfl rfl) ?_
 refine mp (.slice Al8_1 l8_1.length cl8_1) (pu_move e8) ?_
 refine mp (.slice (some ad370) l6_1.length cl6_1) (pu_move e6) ?_
 refine mp (.int .i64 v21_6) (pu_move e21) ?_
 obtain ⟨x399, h400, hb⟩ := bd hb
 obtain ⟨ad401, cs402, hA, ho405, hc403, hr404⟩ := hS.elo2 (i := 2) rfl (get_some h400).2 [7, 5] (by decide)
 obtain rfl := Option.some.inj hA
 refine mp (.pointer (some (ad370.add (v21_6.toNat * 1)))) (pu_index (a := v21_6) Try.underlying22 Try.sizeOf3 rfl rfl (get_some h400).1) ?_
 obtain ⟨rfl, hr404'⟩ := hr404
 refine mixE.steady hD (v := .int .i64 x399) (fun _ hF => ld_one Try.isAgg3 rfl (hF.cell (hc403 0 _ rfl) (off1 ho405))) ?_
 obtain ⟨x406, h407, hb⟩ := bd hb
 obtain ⟨ad408, cs409, hA, ho412, hc410, hr411⟩ := hS.elo2 (i := 4) rfl (get_some h407).2 [7, 5] (by decide)
 subst hA
 refine mp (.pointer (some (ad408.add (x399.toNat * 1)))) (pu_index (a := x399) Try.underlying22 Try.sizeOf3 rfl rfl (by rw [(hC.ow (i := 4) rfl).sl_len.1]; exact (get_some h407).1)) ?_
 obtain ⟨rfl, hr411'⟩ := hr411
 refine mixE.steady hD (v := .int .i64 x406) (fun _ hF => ld_one Try.isAgg3 rfl (hF.cell (hc410 0 _ rfl) (off1 ho412))) ?_
 refine mixE.op hM (hC.lit (s := (.int .i64)) (vs := [.int .i64 x406]) (xs := [x406]) Try.underlying22 Try.type3 rfl rfl (Nat.le_of_ble_eq_true rfl) rfl rfl (by simp [Value.cells, Sh.n]) rfl (show Elems _ _ (.int .i64) ([.int .i64 x406] ++ ([])) ([x406] : List Int) from Elems.cons (⟨rfl, I64.wr (wrap_I64 hr411')⟩) (Elems.nil _ _ _))) ?_
 rintro _ w417 ⟨A413, c414, rfl, hl415, hc416, hC, hF, hN⟩
 have hBf418 := Beside.new hM hN
 have hUf418 := Beside.new (hM.wide (H := [.box g309 24 [.slice A390 ((kf311_0_6 ++ ([x375] : List Int)).length) c391, .slice Akf311_1_6 kf311_1_6.length ckf311_1_6]])) hN
 replace hM := hM.none hF
 replace hD := hM.wide (H := [.box g309 24 [.slice A390 ((kf311_0_6 ++ ([x375] : List Int)).length) c391, .slice Akf311_1_6 kf311_1_6.length ckf311_1_6]])
 refine ⟨hM, ?_⟩
 clear hF hN
 obtain ⟨u419, h420, hb⟩ := bd hb
 refine mixE.op hM (hC.app (i := 8) (s := (.int .i64)) (xs := kf311_1_6) (ys := ([x406] : List Int)) (m := ((([x406] : List Int)).length)) rfl Try.underlying22 Try.underlying22 Try.type3 rfl rfl rfl (hC.srco (i := 0) rfl) rfl rfl (by have := lim_some h420; simp at this ⊢ <;> omega) (by decide)) ?_
 rintro _ w425 ⟨A421, c422, rfl, hl423, hc424, hC, hF, hN⟩
 have hB := hBFf311_1_6
 replace hBFf311_1_6 := hB.app hM hN
 replace hM := hM.beside hB hF
 clear hB
 replace hD := hM.wide (H := [.box g309 24 [.slice A390 ((kf311_0_6 ++ ([x375] : List Int)).length) c391, .slice Akf311_1_6 kf311_1_6.length ckf311_1_6]])
 refine ⟨hM, ?_⟩
 clear hF hN
 refine mp (.pointer (some ((⟨g309, 0, none⟩ : Addr).add 1))) (pu_field (sz := 1) Try.underlying24 rfl Try.sizeOf22 (by decide) rfl e19) ?_
 refine mixE.sk hD (hC.setf (i := 6) (k := 1) (v := .slice A421 ((kf311_1_6 ++ ([x406] : List Int)).length) c422) rfl Try.sizeOf22 rfl rfl rfl rfl) ?_
 rintro w426 ⟨hC, hF⟩
 replace hD := hD.besideG hUf311 hF
 clear hF
 refine ⟨hD, ?_⟩
 refine mixE.nil ?_
 clear hS hM
 clear hD
 refine hK364 _ _ ?_
 refine rg ?_
 refine lp (.int .i64 v21_6) (pu_move e21) ?_
 obtain ⟨z427, h428, hb⟩ := bd hb
 refine lp (.int .i64 z427) (pu_addc (a := v21_6) (b := 1) rfl rfl h428) ?_
 refine lp (.int .i64 z427) (pu_assign rfl) ?_
 refine ln ?_
 obtain rfl := os hb
 exact hK356 m357' _ _ (Nat.lt_succ_self _) ⟨z427, (kf311_0_6 ++ ([x375] : List Int)), (kf311_1_6 ++ ([x406] : List Int)), A390, (kf311_0_6 ++ ([x375] : List Int)).length, c391, A421, (kf311_1_6 ++ ([x406] : List Int)).length, c422, e0, e4, e5, e6, e7, e8, e19, rfl, (chk_rng h428), hC.sel [2, 3, 4, 5, 6, 7, 8] (by decide), lN hl6⟩
 replace hb := tf hq363 hb
 refine Wc.exit rfl ?_
 obtain rfl := os hb
 obtain rfl := (lX hl6).symm
 exact hK355 _ _ ⟨v21_6, kf311_0_6, kf311_1_6, Akf311_0_6, kf311_0_6.length, ckf311_0_6, Akf311_1_6, kf311_1_6.length, ckf311_1_6, e0, e4, e5, e19, hrv21_6, hC.sel [0, 4, 5, 6] (by decide), hbK6⟩
 clear hb hC hl6
 rintro E430 w429 ⟨v21_6, kf311_0_6, kf311_1_6, Akf311_0_6, mkf311_0_6, ckf311_0_6, Akf311_1_6, mkf311_1_6, ckf311_1_6, e0, e4, e5, e19, hrv21_6, hC, hb⟩
 obtain ⟨rfl, hlkf311_0_6, hckf311_0_6⟩ := (hC.ow (i := 2) rfl).sl_len
 obtain ⟨rfl, hlkf311_1_6, hckf311_1_6⟩ := (hC.ow (i := 3) rfl).sl_len
 refine hK350 _ _ ?_
 refine Wc.seq fun K431 hK431 => ?_
 refine Wc.seq fun K432 hK432 => ?_
 refine rg ?_
 refine lp (.int .i64 strands_0) (pu_move e0) ?_
 obtain ⟨z433, h434, hb⟩ := bd hb
 refine lp (.int .i64 z433) (pu_subc (a := strands_0) (b := 1) rfl rfl h434) ?_
 refine lp (.int .i64 z433) (pu_assign rfl) ?_
 refine ln ?_
 refine hK432 _ _ ?_
 obtain ⟨o435, hl7, hb⟩ := bd hb
 refine Wc.cut (fun E wv => ∃ (v22_7 : Int) (kf311_0_7 : List Int) (kf311_1_7 : List Int) (Akf311_0_7 : Option Addr) (mkf311_0_7 ckf311_0_7 : Nat) (Akf311_1_7 : Option Addr) (mkf311_1_7 ckf311_1_7 : Nat), E 4 = .pointer (some ⟨g3, 0, none⟩) ∧ E 19 = .pointer (some ⟨g309, 0, none⟩) ∧ I64 v22_7 ∧ Cx (fun _ => False) O0 w wv [.box g3 24 [.slice none 0 0, .slice none 0 0], .box g309 24 [.slice Akf311_0_7 mkf311_0_7 ckf311_0_7, .slice Akf311_1_7 mkf311_1_7 ckf311_1_7], .own 3 (.int .i64) (.slice Akf311_0_7 mkf311_0_7 ckf311_0_7) kf311_0_7, .own 3 (.int .i64) (.slice Akf311_1_7 mkf311_1_7 ckf311_1_7) kf311_1_7] ∧ (some (kf311_0_7, kf311_1_7) : Option ((List Int) × (List Int))) = some r) (fun K436 hK436 => ?_) ?_
 refine Wc.block ?_
 refine Wc.loop (fun m E wv => ∃ (v22_7 : Int) (kf311_0_7 : List Int) (kf311_1_7 : List Int) (Akf311_0_7 : Option Addr) (mkf311_0_7 ckf311_0_7 : Nat) (Akf311_1_7 : Option Addr) (mkf311_1_7 ckf311_1_7 : Nat), E 0 = .int .i64 strands_0 ∧ E 4 = .pointer (some ⟨g3, 0, none⟩) ∧ E 5 = .int .i64 (word_1.length : Int) ∧ E 19 = .pointer (some ⟨g309, 0, none⟩) ∧ E 22 = .int .i64 v22_7 ∧ I64 v22_7 ∧ Cx (fun _ => False) O0 w wv [.box g3 24 [.slice none 0 0, .slice none 0 0], .box g309 24 [.slice Akf311_0_7 mkf311_0_7 ckf311_0_7, .slice Akf311_1_7 mkf311_1_7 ckf311_1_7], .own 3 (.int .i64) (.slice Akf311_0_7 mkf311_0_7 ckf311_0_7) kf311_0_7, .own 3 (.int .i64) (.slice Akf311_1_7 mkf311_1_7 ckf311_1_7) kf311_1_7] ∧ loopN m (F.ref44_Braid_b7 n strands_0 word_1) (v22_7, kf311_0_7, kf311_1_7) = some o435) n ⟨z433, kf311_0_6, kf311_1_6, Akf311_0_6, kf311_0_6.length, ckf311_0_6, Akf311_1_6, kf311_1_6.length, ckf311_1_6, e0, e4, e5, e19, rfl, (chk_rng h434), hC.sel [0, 1, 2, 3] (by decide), hl7⟩ ?_
 have hbK7 := hb
 clear hb hC hl7
 rintro m438 E440 w439 ⟨v22_7, kf311_0_7, kf311_1_7, Akf311_0_7, mkf311_0_7, ckf311_0_7, Akf311_1_7, mkf311_1_7, ckf311_1_7, e0, e4, e5, e19, e22, hrv22_7, hC, hl7⟩ K437 hK437
 obtain ⟨m438', o441, rfl, hb, hl7⟩ := loopN_some hl7
 unfold F.ref44_Braid_b7 at hb
 obtain ⟨rfl, hlkf311_0_7, hckf311_0_7⟩ := (hC.ow (i := 2) rfl).sl_len
 obtain ⟨rfl, hlkf311_1_7, hckf311_1_7⟩ := (hC.ow (i := 3) rfl).sl_len
 refine Wc.seq fun K442 hK442 => ?_
 refine Wc.seq fun K443 hK443 => ?_
 refine rg ?_
 refine lp (.int .i64 v22_7) (pu_move e22) ?_
 refine lp (.bool (decide (0 ≤ v22_7))) (pu_geq (k := .i64) (a := v22_7) (b := 0) rfl rfl) ?_
 refine ln ?_
 refine hK443 _ _ ?_
 refine Wc.cond (t := (decide (0 ≤ v22_7))) (rfl) (fun hq444 => ?_) (fun hq444 => ?_)
 replace hb := tt hq444 hb
 refine Wc.skip ?_
 refine hK442 _ _ ?_
 refine Wc.seq fun K445 hK445 => ?_
 refine Wc.block ?_
 refine Wc.seq fun K446 hK446 => ?_
 refine rg ?_
 refine lp (.pointer (some ((⟨g309, 0, none⟩ : Addr).add 0))) (pu_field (sz := 1) Try.underlying24 rfl Try.sizeOf22 (by decide) rfl e19) ?_
 refine lv (.slice Akf311_0_7 kf311_0_7.length ckf311_0_7) (ld_fld (hC.bx (i := 1) rfl) Try.isAgg22 rfl rfl) ?_
 refine lp (.int .i64 strands_0) (pu_move e0) ?_
 obtain ⟨z447, h448, hb⟩ := bd hb
 refine lp (.int .i64 z447) (pu_mulc (a := 2) (b := strands_0) rfl rfl h448) ?_
 refine lp (.int .i64 (word_1.length : Int)) (pu_move e5) ?_
 obtain ⟨z449, h450, hb⟩ := bd hb
 refine lp (.int .i64 z449) (pu_addc (a := z447) (b := (word_1.length : Int)) rfl rfl h450) ?_
 obtain ⟨z451, h452, hb⟩ := bd hb
 refine lp (.int .i64 z451) (pu_subc (a := z449) (b := 1) rfl rfl h452) ?_
 refine lp (.int .i64 v22_7) (pu_move e22) ?_
 obtain ⟨z453, h454, hb⟩ := bd hb
 refine lp (.int .i64 z453) (pu_subc (a := z451) (b := v22_7) rfl rfl h454) ?_
 refine lex.op (hC.lit (s := (.int .i64)) (vs := [.int .i64 z453]) (xs := [z453]) Try.underlying22 Try.type3 rfl rfl (Nat.le_of_ble_eq_true rfl) rfl rfl (by simp [Value.cells, Sh.n]) rfl (show Elems _ _ (.int .i64) ([.int .i64 z453] ++ ([])) ([z453] : List Int) from Elems.cons (⟨rfl, I64.wr (chk_rng h454)⟩) (Elems.nil _ _ _))) ?_
 rintro _ w459 ⟨A455, c456, rfl, hl457, hc458, hC, hF, hN⟩
 clear hF hN
 obtain ⟨u461, h462, hb⟩ := bd hb
 refine lex.op (hC.app (i := 3) (s := (.int .i64)) (xs := kf311_0_7) (ys := ([z453] : List Int)) (m := ((([z453] : List Int)).length)) rfl Try.underlying22 Try.underlying22 Try.type3 rfl rfl rfl (hC.srco (i := 0) rfl) rfl rfl (by have := lim_some h462; simp at this ⊢ <;> omega) (by decide)) ?_
 rintro _ w467 ⟨A463, c464, rfl, hl465, hc466, hC, hF, hN⟩
 clear hF hN
 refine lp (.pointer (some ((⟨g309, 0, none⟩ : Addr).add 0))) (pu_field (sz := 1) Try.underlying24 rfl Try.sizeOf22 (by decide) rfl e19) ?_
 refine lex.sk (hC.setf (i := 2) (k := 0) (v := .slice A463 ((kf311_0_7 ++ ([z453] : List Int)).length) c464) rfl Try.sizeOf22 rfl rfl rfl rfl) ?_
 rintro w468 ⟨hC, hF⟩
 refine ln ?_
 refine hK446 _ _ ?_
 refine Wc.fresh fun E469 hE => ?_
 have e0 := (congrFun hE 0).trans e0
 have e4 := (congrFun hE 4).trans e4
 have e5 := (congrFun hE 5).trans e5
 have e19 := (congrFun hE 19).trans e19
 have e22 := (congrFun hE 22).trans e22
 have e194 : E469 194 = .bool (decide (0 ≤ v22_7)) := (congrFun hE 194).trans rfl
 clear hE
 refine rg ?_
 refine lp (.pointer (some ((⟨g309, 0, none⟩ : Addr).add 1))) (pu_field (sz := 1) Try.underlying24 rfl Try.sizeOf22 (by decide) rfl e19) ?_
 refine lv (.slice Akf311_1_7 kf311_1_7.length ckf311_1_7) (ld_fld (hC.bx (i := 2) rfl) Try.isAgg22 rfl rfl) ?_
 refine lp (.int .i64 v22_7) (pu_move e22) ?_
 refine lex.op (hC.lit (s := (.int .i64)) (vs := [.int .i64 v22_7]) (xs := [v22_7]) Try.underlying22 Try.type3 rfl rfl (Nat.le_of_ble_eq_true rfl) rfl rfl (by simp [Value.cells, Sh.n]) rfl (show Elems _ _ (.int .i64) ([.int .i64 v22_7] ++ ([])) ([v22_7] : List Int) from Elems.cons (⟨rfl, I64.wr hrv22_7⟩) (Elems.nil _ _ _))) ?_
 rintro _ w474 ⟨A470, c471, rfl, hl472, hc473, hC, hF, hN⟩
 clear hF hN
 obtain ⟨u476, h477, hb⟩ := bd hb
 refine lex.op (hC.app (i := 5) (s := (.int .i64)) (xs := kf311_1_7) (ys := ([v22_7] : List Int)) (m := ((([v22_7] : List Int)).length)) rfl Try.underlying22 Try.underlying22 Try.type3 rfl rfl rfl (hC.srco (i := 0) rfl) rfl rfl (by have := lim_some h477; simp at this ⊢ <;> omega) (by decide)) ?_
 rintro _ w482 ⟨A478, c479, rfl, hl480, hc481, hC, hF, hN⟩
 clear hF hN
 refine lp (.pointer (some ((⟨g309, 0, none⟩ : Addr).add 1))) (pu_field (sz := 1) Try.underlying24 rfl Try.sizeOf22 (by decide) rfl e19) ?_
 refine lex.sk (hC.setf (i := 3) (k := 1) (v := .slice A478 ((kf311_1_7 ++ ([v22_7] : List Int)).length) c479) rfl Try.sizeOf22 rfl rfl rfl rfl) ?_
 rintro w483 ⟨hC, hF⟩
 refine ln ?_
 refine hK445 _ _ ?_
 refine rg ?_
 refine lp (.int .i64 v22_7) (pu_move e22) ?_
 obtain ⟨z484, h485, hb⟩ := bd hb
 refine lp (.int .i64 z484) (pu_subc (a := v22_7) (b := 1) rfl rfl h485) ?_
 refine lp (.int .i64 z484) (pu_assign rfl) ?_
 refine ln ?_
 obtain rfl := os hb
 exact hK437 m438' _ _ (Nat.lt_succ_self _) ⟨z484, (kf311_0_7 ++ ([z453] : List Int)), (kf311_1_7 ++ ([v22_7] : List Int)), A463, (kf311_0_7 ++ ([z453] : List Int)).length, c464, A478, (kf311_1_7 ++ ([v22_7] : List Int)).length, c479, e0, e4, e5, e19, rfl, (chk_rng h485), hC.sel [2, 3, 4, 5] (by decide), lN hl7⟩
 replace hb := tf hq444 hb
 refine Wc.exit rfl ?_
 obtain rfl := os hb
 obtain rfl := (lX hl7).symm
 exact hK436 _ _ ⟨v22_7, kf311_0_7, kf311_1_7, Akf311_0_7, kf311_0_7.length, ckf311_0_7, Akf311_1_7, kf311_1_7.length, ckf311_1_7, e4, e19, hrv22_7, hC.sel [0, 1, 2, 3] (by decide), hbK7⟩
 clear hb hC hl7
 rintro E487 w486 ⟨v22_7, kf311_0_7, kf311_1_7, Akf311_0_7, mkf311_0_7, ckf311_0_7, Akf311_1_7, mkf311_1_7, ckf311_1_7, e4, e19, hrv22_7, hC, hb⟩
 obtain ⟨rfl, hlkf311_0_7, hckf311_0_7⟩ := (hC.ow (i := 2) rfl).sl_len
 obtain ⟨rfl, hlkf311_1_7, hckf311_1_7⟩ := (hC.ow (i := 3) rfl).sl_len
 refine hK431 _ _ ?_
 refine Wc.seq fun K488 hK488 => ?_
 refine rg ?_
 refine lv (.agg #[.slice Akf311_0_7 kf311_0_7.length ckf311_0_7, .slice Akf311_1_7 kf311_1_7.length ckf311_1_7]) (ld_blk (hC.bx (i := 1) rfl) Try.isAgg24 Try.sizeOf24 e19) ?_
 refine lex.sk (hC.seta (i := 0) (ds := [.slice Akf311_0_7 kf311_0_7.length ckf311_0_7, .slice Akf311_1_7 kf311_1_7.length ckf311_1_7]) rfl Try.type24 rfl rfl rfl e4 rfl) ?_
 rintro w489 ⟨hC, hF⟩
 refine ln ?_
 refine hK488 _ _ ?_
 obtain rfl := os hb
 refine Wc.ret ?_
 refine hKR _ _ ?_
 refine ⟨_, res1 Try.results21 ⟨_, e4, loadVar_blk (hC.bx (i := 0) rfl) Try.isAgg24 Try.sizeOf24⟩, _, rfl, Akf311_0_7, kf311_0_7.length, ckf311_0_7, Akf311_1_7, kf311_1_7.length, ckf311_1_7, rfl, hC.sel [2, 3] (by decide)⟩
end Go.Proofs.Yticemffhlapnnaa
