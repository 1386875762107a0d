/- The walks: part 5. -/
import Derived.Test.YticemffhlapnnaaS
import Derived.Test.YticemffhlapnnaaG4
set_option linter.unusedVariables false
set_option linter.unusedSimpArgs false
namespace Go.Proofs.Yticemffhlapnnaa
open Ev
set_option maxRecDepth 100000 in
set_option maxHeartbeats 4000000 in
theorem gridlink_Braid_ok (n : Nat) {w : World} {O0 : List Nat} (hO : ∀ k ∈ O0, k < w.heap.size) {b_0_0 : Int} (hb_0_0 : I64 b_0_0) {Ab_0_1 : Option Addr} {mb_0_1 cb_0_1 : Nat} {b_0_1 : List Int} (hb_0_1 : Rep O0 w (.sl (.int .i64)) [.slice Ab_0_1 mb_0_1 cb_0_1] b_0_1) {r : (List Int) × (List Int) × Int} (hb : F.gridlink_Braid n b_0_0 b_0_1 = some r) :
    Calls Try.prog 18 #[.agg #[.int .i64 b_0_0, .slice Ab_0_1 mb_0_1 cb_0_1]] w fun e w' => ∃ v, e = .returned v ∧ ∃ (A0 : Option Addr) (m0 c0 : Nat) (A1 : Option Addr) (m1 c1 : Nat), v = .tuple #[.agg #[.slice A0 m0 c0, .slice A1 m1 c1], .int .i64 r.2.2] ∧ I64 r.2.2 ∧ Cx (fun _ => False) O0 w w' [.own 3 (.int .i64) (.slice A0 m0 c0) r.1, .own 3 (.int .i64) (.slice A1 m1 c1) r.2.1] := by
 unfold F.gridlink_Braid at hb
 have hC := Cx.start hO
 replace hC := hC.arg rfl hb_0_1
 clear hO
 obtain ⟨rfl, hlb_0_1, hcb_0_1⟩ := hb_0_1.sl_len
 refine calls_of_Wc Try.func18 rfl (by rw [Try.ntmps18]; exact Nat.le_of_ble_eq_true rfl) fun KR hKR => ?_
 refine Wc.seq fun K2 hK2 => ?_
 refine rg ?_
 refine lex.op (hC.box (cs := [.int .i64 b_0_0, .slice Ab_0_1 b_0_1.length cb_0_1]) rfl rfl) ?_
 rintro _ w4 ⟨g3, rfl, hC, hF, hG⟩
 clear hG
 refine lex.op (hC.alloc (cs := [.slice none 0 0, .slice none 0 0]) Try.zeroValue24 rfl) ?_
 rintro _ w7 ⟨g6, rfl, hC, hF, hG⟩
 clear hG
 refine lp (.int .i64 0) (pu_assign rfl) ?_
 refine ln ?_
 refine hK2 _ _ ?_
 refine Wc.seq fun K9 hK9 => ?_
 refine Wc.seq fun K10 hK10 => ?_
 refine rg ?_
 refine lv (.agg #[.int .i64 b_0_0, .slice Ab_0_1 b_0_1.length cb_0_1]) (ld_blk (hC.bx (i := 1) rfl) Try.isAgg40 Try.sizeOf40 rfl) ?_
 obtain ⟨y11, h12, hb⟩ := bd hb
 refine lex.cl (⟨_, _, op_call (vs := [.agg #[.int .i64 b_0_0, .slice Ab_0_1 b_0_1.length cb_0_1]]) Try.call22 rfl rfl rfl, braid_Valid_ok n hC.lt hb_0_0 (hC.rd (i := 2) rfl) h12⟩) ?_
 rintro _ w13 ⟨rfl, hK⟩
 replace hC := hC.merge hK
 clear hK
 refine lp (.bool (!y11)) (pu_not (q := y11) rfl) ?_
 refine ln ?_
 refine hK10 _ _ ?_
 refine Wc.cond (t := (!y11)) (rfl) (fun hq14 => ?_) (fun hq14 => ?_)
 replace hb := tt hq14 hb
 refine Wc.seq fun K15 hK15 => ?_
 refine rg ?_
 refine lp (.agg #[.slice none 0 0, .slice none 0 0]) (pu_builds (places := [(0, 1), (1, 1)]) (pv := []) Try.type24 Try.underlying24 rfl (mp_cons Try.type22 (mp_cons Try.type22 mp_nil rfl rfl) rfl rfl) rfl (by simp [Instr.fill, Value.cells])) ?_
 refine lex.sk (hC.seta (i := 0) (ds := [.slice none 0 0, .slice none 0 0]) rfl Try.type24 rfl rfl rfl rfl rfl) ?_
 rintro w16 ⟨hC, hF⟩
 refine lp (.int .i64 1) (pu_assign rfl) ?_
 refine ln ?_
 refine hK15 _ _ ?_
 replace hC := hC.nil 3 (.int .i64)
 replace hC := hC.nil 3 (.int .i64)
 obtain rfl := os hb
 refine Wc.ret ?_
 refine hKR _ _ ?_
 refine ⟨_, res2 Try.results18 ⟨_, rfl, loadVar_blk (hC.bx (i := 2) rfl) Try.isAgg24 Try.sizeOf24⟩ (show RV _ _ _ (.tmp _) (.int .i64 1) from rfl), _, rfl, none, 0, 0, none, 0, 0, rfl, (show I64 1 from by unfold I64; omega), hC.sel [1, 0] (by decide)⟩
 replace hb := tf hq14 hb
 refine Wc.skip ?_
 refine hK9 _ _ ?_
 refine Wc.seq fun K19 hK19 => ?_
 refine Wc.regionMix [] (frm [] ([] : List Fact) ([] : List Fact)) (fun _ => rfl) mixed (by decide +kernel) (by decide +kernel) fun w21 hw20 => ?_
 replace hC := hC.step (Fr.of_drew hw20)
 have hM := Fr.refl (fun k => k ∈ blocks ([] : List Fact)) w21
 clear hw20
 have hS := hC
 refine mp (.pointer (some ((⟨g3, 0, none⟩ : Addr).add 0))) (pu_field (sz := 1) Try.underlying40 rfl Try.sizeOf3 (by decide) rfl rfl) ?_
 refine mixE.load hM (v := .int .i64 b_0_0) (fun _ hF => ld_fld (hS.bx2 (i := 1) rfl [] (by decide) hF) Try.isAgg3 rfl rfl) ?_
 refine mp (.pointer (some ((⟨g3, 0, none⟩ : Addr).add 1))) (pu_field (sz := 1) Try.underlying40 rfl Try.sizeOf22 (by decide) rfl rfl) ?_
 refine mixE.load hM (v := .slice Ab_0_1 b_0_1.length cb_0_1) (fun _ hF => ld_fld (hS.bx2 (i := 1) rfl [] (by decide) hF) Try.isAgg22 rfl rfl) ?_
 refine mp (.int .i64 (b_0_1.length : Int)) (pu_len (A := Ab_0_1) (n := b_0_1.length) (m := cb_0_1) Try.underlying22 rfl) ?_
 refine mp (.int .i64 b_0_0) (pu_assign rfl) ?_
 refine mp (.int .i64 (b_0_1.length : Int)) (pu_assign rfl) ?_
 refine mixE.nil ?_
 clear hS hM
 refine hK19 _ _ ?_
 refine Wc.fresh fun E22 hE => ?_
 have e1 : E22 1 = .pointer (some ⟨g3, 0, none⟩) := (congrFun hE 1).trans rfl
 have e2 : E22 2 = .pointer (some ⟨g6, 0, none⟩) := (congrFun hE 2).trans rfl
 have e3 : E22 3 = .int .i64 0 := (congrFun hE 3).trans rfl
 have e4 : E22 4 = .int .i64 b_0_0 := (congrFun hE 4).trans rfl
 have e5 : E22 5 = .int .i64 (b_0_1.length : Int) := (congrFun hE 5).trans rfl
 clear hE
 refine Wc.seq fun K23 hK23 => ?_
 refine rg ?_
 refine lp (.int .i64 b_0_0) (pu_move e4) ?_
 obtain ⟨z24, h25, hb⟩ := bd hb
 refine lp (.int .i64 z24) (pu_mulc (a := 2) (b := b_0_0) rfl rfl h25) ?_
 refine lp (.int .i64 (b_0_1.length : Int)) (pu_move e5) ?_
 obtain ⟨z26, h27, hb⟩ := bd hb
 refine lp (.int .i64 z26) (pu_addc (a := z24) (b := (b_0_1.length : Int)) rfl rfl h27) ?_
 refine lp (.int .i64 z26) (pu_assign rfl) ?_
 refine ln ?_
 refine hK23 _ _ ?_
 refine Wc.seq fun K28 hK28 => ?_
 refine Wc.seq fun K29 hK29 => ?_
 refine rg ?_
 refine lp (.int .i64 z26) (pu_move rfl) ?_
 refine lp (.bool (decide (40 < z26))) (pu_gtr (k := .i64) (a := z26) (b := 40) rfl rfl) ?_
 refine ln ?_
 refine hK29 _ _ ?_
 refine Wc.cond (t := (decide (40 < z26))) (rfl) (fun hq30 => ?_) (fun hq30 => ?_)
 replace hb := tt hq30 hb
 refine Wc.seq fun K31 hK31 => ?_
 refine rg ?_
 refine lp (.agg #[.slice none 0 0, .slice none 0 0]) (pu_builds (places := [(0, 1), (1, 1)]) (pv := []) Try.type24 Try.underlying24 rfl (mp_cons Try.type22 (mp_cons Try.type22 mp_nil rfl rfl) rfl rfl) rfl (by simp [Instr.fill, Value.cells])) ?_
 refine lex.sk (hC.seta (i := 0) (ds := [.slice none 0 0, .slice none 0 0]) rfl Try.type24 rfl rfl rfl e2 rfl) ?_
 rintro w32 ⟨hC, hF⟩
 refine lp (.int .i64 5) (pu_assign rfl) ?_
 refine ln ?_
 refine hK31 _ _ ?_
 replace hC := hC.nil 3 (.int .i64)
 replace hC := hC.nil 3 (.int .i64)
 obtain rfl := os hb
 refine Wc.ret ?_
 refine hKR _ _ ?_
 refine ⟨_, res2 Try.results18 ⟨_, e2, loadVar_blk (hC.bx (i := 2) rfl) Try.isAgg24 Try.sizeOf24⟩ (show RV _ _ _ (.tmp _) (.int .i64 5) from rfl), _, rfl, none, 0, 0, none, 0, 0, rfl, (show I64 5 from by unfold I64; omega), hC.sel [1, 0] (by decide)⟩
 replace hb := tf hq30 hb
 refine Wc.skip ?_
 refine hK28 _ _ ?_
 refine Wc.seq fun K35 hK35 => ?_
 refine rg ?_
 refine lp (.slice none 0 0) (pu_assign rfl) ?_
 refine ln ?_
 refine hK35 _ _ ?_
 refine Wc.seq fun K36 hK36 => ?_
 refine rg ?_
 refine lp (.slice none 0 0) (pu_assign rfl) ?_
 refine lp (.slice none 0 0) (pu_assign rfl) ?_
 refine ln ?_
 refine hK36 _ _ ?_
 refine Wc.fresh fun E37 hE => ?_
 have e1 := (congrFun hE 1).trans e1
 have e2 := (congrFun hE 2).trans e2
 have e3 := (congrFun hE 3).trans e3
 have e4 := (congrFun hE 4).trans e4
 have e6 : E37 6 = .int .i64 z26 := (congrFun hE 6).trans rfl
 have e7 : E37 7 = .slice none 0 0 := (congrFun hE 7).trans rfl
 have e8 : E37 8 = .slice none 0 0 := (congrFun hE 8).trans rfl
 have e9 : E37 9 = .slice none 0 0 := (congrFun hE 9).trans rfl
 clear hE
 refine Wc.seq fun K38 hK38 => ?_
 refine Wc.seq fun K39 hK39 => ?_
 refine rg ?_
 refine lp (.int .i64 b_0_0) (pu_move e4) ?_
 refine lp (.int .i64 0) (pu_move rfl) ?_
 refine ln ?_
 refine hK39 _ _ ?_
 replace hC := hC.nil 67 (.pr (.int .i64) (.int .i64))
 replace hC := hC.nil 3 (.int .i64)
 replace hC := hC.nil 3 (.int .i64)
 obtain ⟨o43, hl0, hb⟩ := bd hb
 refine Wc.cut (fun E wv => ∃ (l7_0 : List (Int × Int)) (l8_0 : List Int) (l9_0 : List Int) (v41_0 : Int) (Al7_0 : Option Addr) (ml7_0 cl7_0 : Nat) (Al8_0 : Option Addr) (ml8_0 cl8_0 : Nat) (Al9_0 : Option Addr) (ml9_0 cl9_0 : Nat), E 1 = .pointer (some ⟨g3, 0, none⟩) ∧ E 2 = .pointer (some ⟨g6, 0, none⟩) ∧ E 3 = .int .i64 0 ∧ E 4 = .int .i64 b_0_0 ∧ E 6 = .int .i64 z26 ∧ E 7 = .slice Al7_0 ml7_0 cl7_0 ∧ E 8 = .slice Al8_0 ml8_0 cl8_0 ∧ E 9 = .slice Al9_0 ml9_0 cl9_0 ∧ I64 v41_0 ∧ Cx (fun _ => False) O0 w wv [.box g3 40 [.int .i64 b_0_0, .slice Ab_0_1 b_0_1.length cb_0_1], .ro (.sl (.int .i64)) [.slice Ab_0_1 b_0_1.length cb_0_1] b_0_1, .box g6 24 [.slice none 0 0, .slice none 0 0], .own 67 (.pr (.int .i64) (.int .i64)) (.slice Al7_0 ml7_0 cl7_0) l7_0, .own 3 (.int .i64) (.slice Al8_0 ml8_0 cl8_0) l8_0, .own 3 (.int .i64) (.slice Al9_0 ml9_0 cl9_0) l9_0] ∧ (((loopN n (F.gridlink_Braid_b1 n b_0_0 b_0_1) (l7_0, l8_0, 0, l9_0)).bind fun o103 => match o103 with     | (l7_1, l8_1, v61_1, qF9_0_1) => ((loopN n (F.gridlink_Braid_b3 n z26 l9_0 qF9_0_1) (0, l7_1)).bind fun o228 => match o228 with     | (v123_3, qF7_1_3) => (pos z26).bind fun u268 => (pos z26).bind fun u276 => ((loopN n (F.gridlink_Braid_b4 n l8_1 qF7_1_3) (0, ([] : List Int), ([] : List Int))).bind fun o290 => match o290 with     | (v144_4, kf286_0_4, kf286_1_4) => ((loopN n (F.gridlink_Braid_b5 n b_0_0 z26) (0, kf286_0_4, kf286_1_4)).bind fun o370 => match o370 with     | (v170_5, kf286_0_5, kf286_1_5) => some (kf286_0_5, kf286_1_5, 0))))) : Option ((List Int) × (List Int) × Int)) = some r) (fun K44 hK44 => ?_) ?_
 refine Wc.block ?_
 refine Wc.loop (fun m E wv => ∃ (l7_0 : List (Int × Int)) (l8_0 : List Int) (l9_0 : List Int) (v41_0 : Int) (Al7_0 : Option Addr) (ml7_0 cl7_0 : Nat) (Al8_0 : Option Addr) (ml8_0 cl8_0 : Nat) (Al9_0 : Option Addr) (ml9_0 cl9_0 : Nat), E 1 = .pointer (some ⟨g3, 0, none⟩) ∧ E 2 = .pointer (some ⟨g6, 0, none⟩) ∧ E 3 = .int .i64 0 ∧ E 4 = .int .i64 b_0_0 ∧ E 6 = .int .i64 z26 ∧ E 7 = .slice Al7_0 ml7_0 cl7_0 ∧ E 8 = .slice Al8_0 ml8_0 cl8_0 ∧ E 9 = .slice Al9_0 ml9_0 cl9_0 ∧ E 40 = .int .i64 b_0_0 ∧ E 41 = .int .i64 v41_0 ∧ I64 v41_0 ∧ Cx (fun _ => False) O0 w wv [.box g3 40 [.int .i64 b_0_0, .slice Ab_0_1 b_0_1.length cb_0_1], .ro (.sl (.int .i64)) [.slice Ab_0_1 b_0_1.length cb_0_1] b_0_1, .box g6 24 [.slice none 0 0, .slice none 0 0], .own 67 (.pr (.int .i64) (.int .i64)) (.slice Al7_0 ml7_0 cl7_0) l7_0, .own 3 (.int .i64) (.slice Al8_0 ml8_0 cl8_0) l8_0, .own 3 (.int .i64) (.slice Al9_0 ml9_0 cl9_0) l9_0] ∧ loopN m (F.gridlink_Braid_b0 n b_0_0) (l7_0, l8_0, l9_0, v41_0) = some o43) n ⟨([] : List (Int × Int)), ([] : List Int), ([] : List Int), 0, none, 0, 0, none, 0, 0, none, 0, 0, e1, e2, e3, e4, e6, e7, e8, e9, rfl, rfl, (show I64 0 from by unfold I64; omega), hC.sel [4, 5, 3, 2, 1, 0] (by decide), hl0⟩ ?_
 have hbK0 := hb
 clear hb hC hl0
 rintro m46 E48 w47 ⟨l7_0, l8_0, l9_0, v41_0, Al7_0, ml7_0, cl7_0, Al8_0, ml8_0, cl8_0, Al9_0, ml9_0, cl9_0, e1, e2, e3, e4, e6, e7, e8, e9, e40, e41, hrv41_0, hC, hl0⟩ K45 hK45
 obtain ⟨m46', o49, rfl, hb, hl0⟩ := loopN_some hl0
 unfold F.gridlink_Braid_b0 at hb
 obtain ⟨rfl, hll7_0, hcl7_0⟩ := (hC.ow (i := 3) rfl).sl_len
 obtain ⟨rfl, hll8_0, hcl8_0⟩ := (hC.ow (i := 4) rfl).sl_len
 obtain ⟨rfl, hll9_0, hcl9_0⟩ := (hC.ow (i := 5) rfl).sl_len
 refine Wc.seq fun K50 hK50 => ?_
 refine rg ?_
 refine lp (.bool (decide (v41_0 < b_0_0))) (pu_lss (k := .i64) (a := v41_0) (b := b_0_0) e41 e40) ?_
 refine ln ?_
 refine hK50 _ _ ?_
 refine Wc.seq fun K51 hK51 => ?_
 refine Wc.cond (t := (decide (v41_0 < b_0_0))) (rfl) (fun hq52 => ?_) (fun hq52 => ?_)
 replace hb := tt hq52 hb
 refine Wc.skip ?_
 refine hK51 _ _ ?_
 refine Wc.seq fun K53 hK53 => ?_
 refine Wc.block ?_
 refine Wc.seq fun K54 hK54 => ?_
 refine rg ?_
 refine lp (.int .i64 v41_0) (pu_move e41) ?_
 refine lp (.int .i64 v41_0) (pu_assign rfl) ?_
 refine ln ?_
 refine hK54 _ _ ?_
 refine Wc.seq fun K55 hK55 => ?_
 refine rg ?_
 refine lp (.slice Al7_0 l7_0.length cl7_0) (pu_move e7) ?_
 refine lp (.int .i64 v41_0) (pu_move rfl) ?_
 refine lp (.agg #[.int .i64 v41_0, .int .i64 0]) (pu_builda (pv := [(0, .int .i64 v41_0), (1, .int .i64 0)]) (sz := 1) Try.type67 Try.underlying67 rfl Try.type3 rfl rfl (by simp [Instr.fill, Value.cells])) ?_
 refine lex.op (hC.lit (s := (.pr (.int .i64) (.int .i64))) (vs := [.agg #[.int .i64 v41_0, .int .i64 0]]) (xs := [(v41_0, 0)]) Try.underlying33 Try.type67 rfl rfl (Nat.le_of_ble_eq_true rfl) rfl rfl (by simp [Value.cells, Sh.n]) rfl (show Elems _ _ (.pr (.int .i64) (.int .i64)) ([.int .i64 v41_0, .int .i64 0] ++ ([])) ([(v41_0, 0)] : List (Int × Int)) from Elems.cons (⟨[.int .i64 v41_0], [.int .i64 0], rfl, ⟨rfl, I64.wr hrv41_0⟩, ⟨rfl, I64.wr (show I64 0 from by unfold I64; omega)⟩⟩) (Elems.nil _ _ _))) ?_
 rintro _ w60 ⟨A56, c57, rfl, hl58, hc59, hC, hF, hN⟩
 clear hF hN
 obtain ⟨u62, h63, hb⟩ := bd hb
 refine lex.op (hC.app (i := 4) (s := (.pr (.int .i64) (.int .i64))) (xs := l7_0) (ys := ([(v41_0, 0)] : List (Int × Int))) (m := ((([(v41_0, 0)] : List (Int × Int))).length)) rfl Try.underlying33 Try.underlying33 Try.type67 rfl rfl rfl (hC.srco (i := 0) rfl) rfl rfl (by have := lim_some h63; simp at this ⊢ <;> omega) (by decide)) ?_
 rintro _ w68 ⟨A64, c65, rfl, hl66, hc67, hC, hF, hN⟩
 clear hF hN
 refine lp (.slice A64 ((l7_0 ++ ([(v41_0, 0)] : List (Int × Int))).length) c65) (pu_assign rfl) ?_
 refine ln ?_
 refine hK55 _ _ ?_
 refine Wc.seq fun K69 hK69 => ?_
 refine rg ?_
 refine lp (.slice Al8_0 l8_0.length cl8_0) (pu_move e8) ?_
 refine lp (.int .i64 v41_0) (pu_move rfl) ?_
 refine lex.op (hC.lit (s := (.int .i64)) (vs := [.int .i64 v41_0]) (xs := [v41_0]) Try.underlying22 Try.type3 rfl rfl (Nat.le_of_ble_eq_true rfl) rfl rfl (by simp [Value.cells, Sh.n]) rfl (show Elems _ _ (.int .i64) ([.int .i64 v41_0] ++ ([])) ([v41_0] : List Int) from Elems.cons (⟨rfl, I64.wr hrv41_0⟩) (Elems.nil _ _ _))) ?_
 rintro _ w74 ⟨A70, c71, rfl, hl72, hc73, hC, hF, hN⟩
 clear hF hN
 obtain ⟨u76, h77, hb⟩ := bd hb
 refine lex.op (hC.app (i := 6) (s := (.int .i64)) (xs := l8_0) (ys := ([v41_0] : List Int)) (m := ((([v41_0] : List Int)).length)) rfl Try.underlying22 Try.underlying22 Try.type3 rfl rfl rfl (hC.srco (i := 0) rfl) rfl rfl (by have := lim_some h77; simp at this ⊢ <;> omega) (by decide)) ?_
 rintro _ w82 ⟨A78, c79, rfl, hl80, hc81, hC, hF, hN⟩
 clear hF hN
 refine lp (.slice A78 ((l8_0 ++ ([v41_0] : List Int)).length) c79) (pu_assign rfl) ?_
 refine ln ?_
 refine hK69 _ _ ?_
 refine Wc.fresh fun E83 hE => ?_
 have e1 := (congrFun hE 1).trans e1
 have e2 := (congrFun hE 2).trans e2
 have e3 := (congrFun hE 3).trans e3
 have e4 := (congrFun hE 4).trans e4
 have e6 := (congrFun hE 6).trans e6
 have e7 : E83 7 = .slice A64 ((l7_0 ++ ([(v41_0, 0)] : List (Int × Int))).length) c65 := (congrFun hE 7).trans rfl
 have e8 : E83 8 = .slice A78 ((l8_0 ++ ([v41_0] : List Int)).length) c79 := (congrFun hE 8).trans rfl
 have e9 := (congrFun hE 9).trans e9
 have e10 : E83 10 = .int .i64 v41_0 := (congrFun hE 10).trans rfl
 have e40 := (congrFun hE 40).trans e40
 have e41 := (congrFun hE 41).trans e41
 have e42 : E83 42 = .bool (decide (v41_0 < b_0_0)) := (congrFun hE 42).trans rfl
 clear hE
 refine rg ?_
 refine lp (.slice Al9_0 l9_0.length cl9_0) (pu_move e9) ?_
 refine lp (.int .i64 v41_0) (pu_move e10) ?_
 refine lex.op (hC.lit (s := (.int .i64)) (vs := [.int .i64 v41_0]) (xs := [v41_0]) Try.underlying22 Try.type3 rfl rfl (Nat.le_of_ble_eq_true rfl) rfl rfl (by simp [Value.cells, Sh.n]) rfl (show Elems _ _ (.int .i64) ([.int .i64 v41_0] ++ ([])) ([v41_0] : List Int) from Elems.cons (⟨rfl, I64.wr hrv41_0⟩) (Elems.nil _ _ _))) ?_
 rintro _ w88 ⟨A84, c85, rfl, hl86, hc87, hC, hF, hN⟩
 clear hF hN
 obtain ⟨u90, h91, hb⟩ := bd hb
 refine lex.op (hC.app (i := 8) (s := (.int .i64)) (xs := l9_0) (ys := ([v41_0] : List Int)) (m := ((([v41_0] : List Int)).length)) rfl Try.underlying22 Try.underlying22 Try.type3 rfl rfl rfl (hC.srco (i := 0) rfl) rfl rfl (by have := lim_some h91; simp at this ⊢ <;> omega) (by decide)) ?_
 rintro _ w96 ⟨A92, c93, rfl, hl94, hc95, hC, hF, hN⟩
 clear hF hN
 refine lp (.slice A92 ((l9_0 ++ ([v41_0] : List Int)).length) c93) (pu_assign rfl) ?_
 refine ln ?_
 refine hK53 _ _ ?_
 refine rg ?_
 obtain ⟨z97, h98, hb⟩ := bd hb
 refine lp (.int .i64 z97) (pu_addc (a := v41_0) (b := 1) e41 rfl h98) ?_
 refine lp (.int .i64 z97) (pu_move rfl) ?_
 refine ln ?_
 obtain rfl := os hb
 exact hK45 m46' _ _ (Nat.lt_succ_self _) ⟨(l7_0 ++ ([(v41_0, 0)] : List (Int × Int))), (l8_0 ++ ([v41_0] : List Int)), (l9_0 ++ ([v41_0] : List Int)), z97, A64, (l7_0 ++ ([(v41_0, 0)] : List (Int × Int))).length, c65, A78, (l8_0 ++ ([v41_0] : List Int)).length, c79, A92, (l9_0 ++ ([v41_0] : List Int)).length, c93, e1, e2, e3, e4, e6, e7, e8, rfl, e40, rfl, (chk_rng h98), hC.sel [3, 4, 5, 6, 7, 8] (by decide), lN hl0⟩
 replace hb := tf hq52 hb
 refine Wc.exit rfl ?_
 obtain rfl := os hb
 obtain rfl := (lX hl0).symm
 exact hK44 _ _ ⟨l7_0, l8_0, l9_0, v41_0, Al7_0, l7_0.length, cl7_0, Al8_0, l8_0.length, cl8_0, Al9_0, l9_0.length, cl9_0, e1, e2, e3, e4, e6, e7, e8, e9, hrv41_0, hC.sel [0, 1, 2, 3, 4, 5] (by decide), hbK0⟩
 clear hb hC hl0
 rintro E100 w99 ⟨l7_0, l8_0, l9_0, v41_0, Al7_0, ml7_0, cl7_0, Al8_0, ml8_0, cl8_0, Al9_0, ml9_0, cl9_0, e1, e2, e3, e4, e6, e7, e8, e9, hrv41_0, hC, hb⟩
 obtain ⟨rfl, hll7_0, hcl7_0⟩ := (hC.ow (i := 3) rfl).sl_len
 obtain ⟨rfl, hll8_0, hcl8_0⟩ := (hC.ow (i := 4) rfl).sl_len
 obtain ⟨rfl, hll9_0, hcl9_0⟩ := (hC.ow (i := 5) rfl).sl_len
 refine hK38 _ _ ?_
 refine Wc.seq fun K101 hK101 => ?_
 refine Wc.seq fun K102 hK102 => ?_
 refine rg ?_
 refine lp (.pointer (some ((⟨g3, 0, none⟩ : Addr).add 1))) (pu_field (sz := 1) Try.underlying40 rfl Try.sizeOf22 (by decide) rfl e1) ?_
 refine lv (.slice Ab_0_1 b_0_1.length cb_0_1) (ld_fld (hC.bx (i := 0) rfl) Try.isAgg22 rfl rfl) ?_
 refine lp (.int .i64 (b_0_1.length : Int)) (pu_len (A := Ab_0_1) (n := b_0_1.length) (m := cb_0_1) Try.underlying22 rfl) ?_
 refine lp (.int .i64 0) (pu_move rfl) ?_
 refine ln ?_
 refine hK102 _ _ ?_
 obtain ⟨o103, hl1, hb⟩ := bd hb
 refine Wc.cut (fun E wv => ∃ (l7_1 : List (Int × Int)) (l8_1 : List Int) (v61_1 : Int) (qF9_0_1 : List Int) (Al7_1 : Option Addr) (ml7_1 cl7_1 : Nat) (Al8_1 : Option Addr) (ml8_1 cl8_1 : Nat), E 2 = .pointer (some ⟨g6, 0, none⟩) ∧ E 3 = .int .i64 0 ∧ E 4 = .int .i64 b_0_0 ∧ E 6 = .int .i64 z26 ∧ E 7 = .slice Al7_1 ml7_1 cl7_1 ∧ E 8 = .slice Al8_1 ml8_1 cl8_1 ∧ E 9 = .slice Al9_0 l9_0.length cl9_0 ∧ I64 v61_1 ∧ Cx (fun _ => False) O0 w wv [.box g6 24 [.slice none 0 0, .slice none 0 0], .own 67 (.pr (.int .i64) (.int .i64)) (.slice Al7_1 ml7_1 cl7_1) l7_1, .own 3 (.int .i64) (.slice Al8_1 ml8_1 cl8_1) l8_1, .own 3 (.int .i64) (.slice Al9_0 l9_0.length cl9_0) qF9_0_1] ∧ (((loopN n (F.gridlink_Braid_b3 n z26 l9_0 qF9_0_1) (0, l7_1)).bind fun o228 => match o228 with     | (v123_3, qF7_1_3) => (pos z26).bind fun u268 => (pos z26).bind fun u276 => ((loopN n (F.gridlink_Braid_b4 n l8_1 qF7_1_3) (0, ([] : List Int), ([] : List Int))).bind fun o290 => match o290 with     | (v144_4, kf286_0_4, kf286_1_4) => ((loopN n (F.gridlink_Braid_b5 n b_0_0 z26) (0, kf286_0_4, kf286_1_4)).bind fun o370 => match o370 with     | (v170_5, kf286_0_5, kf286_1_5) => some (kf286_0_5, kf286_1_5, 0)))) : Option ((List Int) × (List Int) × Int)) = some r) (fun K104 hK104 => ?_) ?_
 refine Wc.block ?_
 refine Wc.loop (fun m E wv => ∃ (l7_1 : List (Int × Int)) (l8_1 : List Int) (v61_1 : Int) (qF9_0_1 : List Int) (Al7_1 : Option Addr) (ml7_1 cl7_1 : Nat) (Al8_1 : Option Addr) (ml8_1 cl8_1 : Nat), E 2 = .pointer (some ⟨g6, 0, none⟩) ∧ E 3 = .int .i64 0 ∧ E 4 = .int .i64 b_0_0 ∧ E 6 = .int .i64 z26 ∧ E 7 = .slice Al7_1 ml7_1 cl7_1 ∧ E 8 = .slice Al8_1 ml8_1 cl8_1 ∧ E 9 = .slice Al9_0 l9_0.length cl9_0 ∧ E 59 = .slice Ab_0_1 b_0_1.length cb_0_1 ∧ E 60 = .int .i64 (b_0_1.length : Int) ∧ E 61 = .int .i64 v61_1 ∧ I64 v61_1 ∧ Cx (fun _ => False) O0 w wv [.box g6 24 [.slice none 0 0, .slice none 0 0], .own 67 (.pr (.int .i64) (.int .i64)) (.slice Al7_1 ml7_1 cl7_1) l7_1, .own 3 (.int .i64) (.slice Al8_1 ml8_1 cl8_1) l8_1, .own 3 (.int .i64) (.slice Al9_0 l9_0.length cl9_0) qF9_0_1, .ro (.sl (.int .i64)) [.slice Ab_0_1 b_0_1.length cb_0_1] b_0_1] ∧ loopN m (F.gridlink_Braid_b1 n b_0_0 b_0_1) (l7_1, l8_1, v61_1, qF9_0_1) = some o103) n ⟨l7_0, l8_0, 0, l9_0, Al7_0, l7_0.length, cl7_0, Al8_0, l8_0.length, cl8_0, e2, e3, e4, e6, e7, e8, e9, rfl, rfl, rfl, (show I64 0 from by unfold I64; omega), hC.sel [2, 3, 4, 5, 1] (by decide), hl1⟩ ?_
 have hbK1 := hb
 clear hb hC hl1
 rintro m106 E108 w107 ⟨l7_1, l8_1, v61_1, qF9_0_1, Al7_1, ml7_1, cl7_1, Al8_1, ml8_1, cl8_1, e2, e3, e4, e6, e7, e8, e9, e59, e60, e61, hrv61_1, hC, hl1⟩ K105 hK105
 obtain ⟨m106', o109, rfl, hb, hl1⟩ := loopN_some hl1
 unfold F.gridlink_Braid_b1 at hb
 obtain ⟨rfl, hll7_1, hcl7_1⟩ := (hC.ow (i := 1) rfl).sl_len
 obtain ⟨rfl, hll8_1, hcl8_1⟩ := (hC.ow (i := 2) rfl).sl_len
 refine Wc.seq fun K110 hK110 => ?_
 refine rg ?_
 refine lp (.bool (decide (v61_1 < (b_0_1.length : Int)))) (pu_lss (k := .i64) (a := v61_1) (b := (b_0_1.length : Int)) e61 e60) ?_
 refine ln ?_
 refine hK110 _ _ ?_
 refine Wc.seq fun K111 hK111 => ?_
 refine Wc.cond (t := (decide (v61_1 < (b_0_1.length : Int)))) (rfl) (fun hq112 => ?_) (fun hq112 => ?_)
 replace hb := tt hq112 hb
 refine Wc.skip ?_
 refine hK111 _ _ ?_
 refine Wc.seq fun K113 hK113 => ?_
 refine Wc.block ?_
 refine Wc.seq fun K114 hK114 => ?_
 refine rg ?_
 refine lp (.int .i64 v61_1) (pu_move e61) ?_
 obtain ⟨x115, h116, hb⟩ := bd hb
 obtain ⟨ad117, cs118, hA, hc119, hr120⟩ := hC.elr (i := 4) rfl (get_some h116).2
 subst hA
 refine lp (.pointer (some (ad117.add (v61_1.toNat * 1)))) (pu_index (a := v61_1) Try.underlying22 Try.sizeOf3 e59 e61 (get_some h116).1) ?_
 obtain ⟨rfl, hr120'⟩ := hr120
 refine lv (.int .i64 x115) (ld_one Try.isAgg3 rfl (hc119 0 _ rfl)) ?_
 refine lp (.int .i64 v61_1) (pu_assign rfl) ?_
 refine lp (.int .i64 x115) (pu_assign rfl) ?_
 refine ln ?_
 refine hK114 _ _ ?_
 refine Wc.seq fun K121 hK121 => ?_
 refine rg ?_
 refine lp (.int .i64 x115) (pu_move rfl) ?_
 refine lp (.int .i64 x115) (pu_move rfl) ?_
 obtain ⟨z122, h123, hb⟩ := bd hb
 refine lp (.int .i64 z122) (pu_negc (a := x115) rfl h123) ?_
 refine lp (.int .i64 (max x115 z122)) (pu_max (a := x115) (b := z122) rfl rfl) ?_
 refine lp (.int .i64 (max x115 z122)) (pu_assign rfl) ?_
 refine ln ?_
 refine hK121 _ _ ?_
 refine Wc.fresh fun E124 hE => ?_
 have e2 := (congrFun hE 2).trans e2
 have e3 := (congrFun hE 3).trans e3
 have e4 := (congrFun hE 4).trans e4
 have e6 := (congrFun hE 6).trans e6
 have e7 := (congrFun hE 7).trans e7
 have e8 := (congrFun hE 8).trans e8
 have e9 := (congrFun hE 9).trans e9
 have e11 : E124 11 = .int .i64 v61_1 := (congrFun hE 11).trans rfl
 have e12 : E124 12 = .int .i64 x115 := (congrFun hE 12).trans rfl
 have e13 : E124 13 = .int .i64 (max x115 z122) := (congrFun hE 13).trans rfl
 have e59 := (congrFun hE 59).trans e59
 have e60 := (congrFun hE 60).trans e60
 have e61 := (congrFun hE 61).trans e61
 have e62 : E124 62 = .bool (decide (v61_1 < (b_0_1.length : Int))) := (congrFun hE 62).trans rfl
 clear hE
 refine Wc.seq fun K125 hK125 => ?_
 refine rg ?_
 refine lp (.int .i64 (max x115 z122)) (pu_move e13) ?_
 refine lp (.int .i64 (max x115 z122)) (pu_move e13) ?_
 obtain ⟨z126, h127, hb⟩ := bd hb
 refine lp (.int .i64 z126) (pu_subc (a := (max x115 z122)) (b := 1) rfl rfl h127) ?_
 refine lp (.int .i64 (max x115 z122)) (pu_assign rfl) ?_
 refine lp (.int .i64 z126) (pu_assign rfl) ?_
 refine lp (.int .i64 0) (pu_assign rfl) ?_
 refine ln ?_
 refine hK125 _ _ ?_
 refine Wc.seqJ (fun E wv => ∃ (v14_2 : Int) (v15_2 : Int) (v16_2 : Int) (v74_2 : Bool), E 2 = .pointer (some ⟨g6, 0, none⟩) ∧ E 3 = .int .i64 0 ∧ E 4 = .int .i64 b_0_0 ∧ E 6 = .int .i64 z26 ∧ E 7 = .slice Al7_1 l7_1.length cl7_1 ∧ E 8 = .slice Al8_1 l8_1.length cl8_1 ∧ E 9 = .slice Al9_0 l9_0.length cl9_0 ∧ E 11 = .int .i64 v61_1 ∧ E 12 = .int .i64 x115 ∧ E 13 = .int .i64 (max x115 z122) ∧ E 14 = .int .i64 v14_2 ∧ E 15 = .int .i64 v15_2 ∧ E 16 = .int .i64 v16_2 ∧ E 59 = .slice (some ad117) b_0_1.length cb_0_1 ∧ E 60 = .int .i64 (b_0_1.length : Int) ∧ E 61 = .int .i64 v61_1 ∧ E 62 = .bool (decide (v61_1 < (b_0_1.length : Int))) ∧ E 74 = .bool v74_2 ∧ I64 v14_2 ∧ I64 v15_2 ∧ I64 v16_2 ∧ Cx (fun _ => False) O0 w wv [.box g6 24 [.slice none 0 0, .slice none 0 0], .own 67 (.pr (.int .i64) (.int .i64)) (.slice Al7_1 l7_1.length cl7_1) l7_1, .own 3 (.int .i64) (.slice Al8_1 l8_1.length cl8_1) l8_1, .own 3 (.int .i64) (.slice Al9_0 l9_0.length cl9_0) qF9_0_1, .ro (.sl (.int .i64)) [.slice (some ad117) b_0_1.length cb_0_1] b_0_1] ∧ F.gridlink_Braid_j2 n b_0_0 l7_1 l8_1 v61_1 qF9_0_1 v14_2 v15_2 v16_2 v74_2 = some o109) (fun K128 hK128 => ?_) ?_
 refine Wc.seq fun K129 hK129 => ?_
 refine rg ?_
 refine lp (.int .i64 x115) (pu_move e12) ?_
 refine lp (.bool (decide (x115 < 0))) (pu_lss (k := .i64) (a := x115) (b := 0) rfl rfl) ?_
 refine ln ?_
 refine hK129 _ _ ?_
 refine Wc.cond (t := (decide (x115 < 0))) (rfl) (fun hq130 => ?_) (fun hq130 => ?_)
 replace hb := tt hq130 hb
 refine rg ?_
 refine lp (.int .i64 (max x115 z122)) (pu_move e13) ?_
 obtain ⟨z131, h132, hb⟩ := bd hb
 refine lp (.int .i64 z131) (pu_subc (a := (max x115 z122)) (b := 1) rfl rfl h132) ?_
 refine lp (.int .i64 (max x115 z122)) (pu_move e13) ?_
 refine lp (.int .i64 z131) (pu_assign rfl) ?_
 refine lp (.int .i64 (max x115 z122)) (pu_assign rfl) ?_
 refine lp (.int .i64 1) (pu_assign rfl) ?_
 refine ln ?_
 exact hK128 _ _ ⟨z131, (max x115 z122), 1, (decide (x115 < 0)), e2, e3, e4, e6, e7, e8, e9, e11, e12, e13, rfl, rfl, rfl, e59, e60, e61, e62, rfl, (chk_rng h132), (I64.max (wrap_I64 hr120') (chk_rng h123)), (show I64 1 from by unfold I64; omega), hC.sel [0, 1, 2, 3, 4] (by decide), hb⟩
 replace hb := tf hq130 hb
 refine Wc.skip ?_
 exact hK128 _ _ ⟨(max x115 z122), z126, 0, (decide (x115 < 0)), e2, e3, e4, e6, e7, e8, e9, e11, e12, e13, rfl, rfl, rfl, e59, e60, e61, e62, rfl, (I64.max (wrap_I64 hr120') (chk_rng h123)), (chk_rng h127), (show I64 0 from by unfold I64; omega), hC.sel [0, 1, 2, 3, 4] (by decide), hb⟩
 clear hb hC
 rintro E134 w133 ⟨v14_2, v15_2, v16_2, v74_2, e2, e3, e4, e6, e7, e8, e9, e11, e12, e13, e14, e15, e16, e59, e60, e61, e62, e74, hrv14_2, hrv15_2, hrv16_2, hC, hb⟩
 unfold F.gridlink_Braid_j2 at hb
 refine Wc.seq fun K135 hK135 => ?_
 refine rg ?_
 refine lp (.slice Al7_1 l7_1.length cl7_1) (pu_move e7) ?_
 refine lp (.slice Al9_0 l9_0.length cl9_0) (pu_move e9) ?_
 refine lp (.int .i64 v14_2) (pu_move e14) ?_
 obtain ⟨x136, h137, hb⟩ := bd hb
 obtain ⟨ad138, cs139, hA, hc140, hr141⟩ := hC.elo (i := 3) rfl (get_some h137).2
 subst hA
 refine lp (.pointer (some (ad138.add (v14_2.toNat * 1)))) (pu_index (a := v14_2) Try.underlying22 Try.sizeOf3 rfl rfl (by rw [(hC.ow (i := 3) rfl).sl_len.1]; exact (get_some h137).1)) ?_
 obtain ⟨rfl, hr141'⟩ := hr141
 refine lv (.int .i64 x136) (ld_one Try.isAgg3 rfl (hc140 0 _ rfl)) ?_
 refine lp (.int .i64 b_0_0) (pu_move e4) ?_
 refine lp (.int .i64 v61_1) (pu_move e11) ?_
 obtain ⟨z142, h143, hb⟩ := bd hb
 refine lp (.int .i64 z142) (pu_addc (a := b_0_0) (b := v61_1) rfl rfl h143) ?_
 obtain ⟨x144, h145, hb⟩ := bd hb
 obtain ⟨ad146, cs147, hA, hc148, hr149⟩ := hC.elo (i := 1) rfl (get_some h145).2
 subst hA
 refine lp (.pointer (some (ad146.add (x136.toNat * 2)))) (pu_index (a := x136) Try.underlying33 Try.sizeOf67 rfl rfl (get_some h145).1) ?_
 obtain ⟨k150, k151, rfl, hr152, hr153⟩ := hr149
 obtain ⟨rfl, hr152⟩ := hr152
 obtain ⟨rfl, hr153⟩ := hr153
 refine lp (.pointer (some ((ad146.add (x136.toNat * 2)).add 1))) (pu_ixa (A := (ad146.add (x136.toNat * 2))) (a := 1) (sz := 1) Try.underlying67 Try.sizeOf3 rfl rfl (by decide)) ?_
 refine lex.sk (hC.putAt (i := 1) (o := 1) (a := (x144.1, z142)) rfl Try.sizeOf3 (get_some h145).2 rfl hc148 (by decide) rfl (⟨[.int .i64 x144.1], [.int .i64 z142], rfl, ⟨rfl, I64.wr (wrap_I64 hr152)⟩, ⟨rfl, I64.wr (chk_rng h143)⟩⟩) rfl rfl) ?_
 rintro w154 ⟨hC, hF⟩
 refine ln ?_
 refine hK135 _ _ ?_
 refine Wc.fresh fun E155 hE => ?_
 have e2 := (congrFun hE 2).trans e2
 have e3 := (congrFun hE 3).trans e3
 have e4 := (congrFun hE 4).trans e4
 have e6 := (congrFun hE 6).trans e6
 have e7 := (congrFun hE 7).trans e7
 have e8 := (congrFun hE 8).trans e8
 have e9 := (congrFun hE 9).trans e9
 have e11 := (congrFun hE 11).trans e11
 have e12 := (congrFun hE 12).trans e12
 have e13 := (congrFun hE 13).trans e13
 have e14 := (congrFun hE 14).trans e14
 have e15 := (congrFun hE 15).trans e15
 have e16 := (congrFun hE 16).trans e16
 have e59 := (congrFun hE 59).trans e59
 have e60 := (congrFun hE 60).trans e60
 have e61 := (congrFun hE 61).trans e61
 have e62 := (congrFun hE 62).trans e62
 have e74 := (congrFun hE 74).trans e74
 clear hE
 refine Wc.seq fun K156 hK156 => ?_
 refine rg ?_
 refine lp (.slice Al8_1 l8_1.length cl8_1) (pu_move e8) ?_
 refine lp (.slice Al8_1 l8_1.length cl8_1) (pu_move e8) ?_
 refine lp (.slice (some ad138) l9_0.length cl9_0) (pu_move e9) ?_
 refine lp (.int .i64 v15_2) (pu_move e15) ?_
 obtain ⟨x157, h158, hb⟩ := bd hb
 obtain ⟨ad159, cs160, hA, hc161, hr162⟩ := hC.elo (i := 3) rfl (get_some h158).2
 obtain rfl := Option.some.inj hA
 refine lp (.pointer (some (ad138.add (v15_2.toNat * 1)))) (pu_index (a := v15_2) Try.underlying22 Try.sizeOf3 rfl rfl (by rw [(hC.ow (i := 3) rfl).sl_len.1]; exact (get_some h158).1)) ?_
 obtain ⟨rfl, hr162'⟩ := hr162
 refine lv (.int .i64 x157) (ld_one Try.isAgg3 rfl (hc161 0 _ rfl)) ?_
 obtain ⟨y163, h164, hb⟩ := bd hb
 refine lex.cl (⟨_, _, op_call (vs := [.slice Al8_1 l8_1.length cl8_1, .int .i64 x157]) Try.call47 rfl rfl rfl, slices_Index_Lint_int_ok n (hC.lentLt [.slice Al8_1 l8_1.length cl8_1]) ((hC.ow (i := 2) rfl).lend (vs := [.slice Al8_1 l8_1.length cl8_1]) (by simp)) (wrap_I64 hr162') h164⟩) ?_
 rintro _ w166 ⟨rfl, hr165, hK⟩
 replace hC := hC.mergeF hK rfl
 clear hK
 refine lp (.int .i64 v16_2) (pu_move e16) ?_
 obtain ⟨z167, h168, hb⟩ := bd hb
 refine lp (.int .i64 z167) (pu_addc (a := y163) (b := v16_2) rfl rfl h168) ?_
 refine lp (.slice (some ad146) l7_1.length cl7_1) (pu_move e7) ?_
 refine lp (.int .i64 (l7_1.length : Int)) (pu_len (A := (some ad146)) (n := l7_1.length) (m := cl7_1) Try.underlying33 rfl) ?_
 refine lex.op (hC.lit (s := (.int .i64)) (vs := [.int .i64 (l7_1.length : Int)]) (xs := [(l7_1.length : Int)]) Try.underlying22 Try.type3 rfl rfl (Nat.le_of_ble_eq_true rfl) rfl rfl (by simp [Value.cells, Sh.n]) rfl (show Elems _ _ (.int .i64) ([.int .i64 (l7_1.length : Int)] ++ ([])) ([(l7_1.length : Int)] : List Int) from Elems.cons (⟨rfl, I64.wr (I64.len hll7_1 hcl7_1)⟩) (Elems.nil _ _ _))) ?_
 rintro _ w173 ⟨A169, c170, rfl, hl171, hc172, hC, hF, hN⟩
 clear hF hN
 replace hC : Cx _ O0 w _ ([.own 3 (.int .i64) (.slice Al8_1 l8_1.length cl8_1) l8_1, .own 3 (.int .i64) (.slice A169 ((([(l7_1.length : Int)] : List Int)).length) c170) ([(l7_1.length : Int)] : List Int)] ++ [.box g6 24 [.slice none 0 0, .slice none 0 0], .own 67 (.pr (.int .i64) (.int .i64)) (.slice (some ad146) l7_1.length cl7_1) (l7_1.set x136.toNat (x144.1, z142)), .own 3 (.int .i64) (.slice (some ad138) l9_0.length cl9_0) qF9_0_1, .ro (.sl (.int .i64)) [.slice (some ad117) b_0_1.length cb_0_1] b_0_1]) := hC.sel [3, 0, 1, 2, 4, 5] (by decide)
 obtain ⟨y175, h176, hb⟩ := bd hb
 refine lex.cl (⟨_, _, op_call (vs := [.slice Al8_1 l8_1.length cl8_1, .int .i64 z167, .slice A169 ((([(l7_1.length : Int)] : List Int)).length) c170]) Try.call46 rfl rfl rfl, slices_Insert_Lint_int_ok n hC.lt (chk_rng h168) hC.give h176⟩) ?_
 rintro _ w181 ⟨A177, m178, c179, rfl, hK⟩
 replace hC := hC.back hK
 clear hK
 obtain ⟨rfl, hl182, hc183⟩ := (hC.ow (i := 0) rfl).sl_len
 refine lp (.slice A177 y175.length c179) (pu_assign rfl) ?_
 refine ln ?_
 refine hK156 _ _ ?_
 refine Wc.fresh fun E184 hE => ?_
 have e2 := (congrFun hE 2).trans e2
 have e3 := (congrFun hE 3).trans e3
 have e4 := (congrFun hE 4).trans e4
 have e6 := (congrFun hE 6).trans e6
 have e7 := (congrFun hE 7).trans e7
 have e8 : E184 8 = .slice A177 y175.length c179 := (congrFun hE 8).trans rfl
 have e9 := (congrFun hE 9).trans e9
 have e11 := (congrFun hE 11).trans e11
 have e12 := (congrFun hE 12).trans e12
 have e13 := (congrFun hE 13).trans e13
 have e14 := (congrFun hE 14).trans e14
 have e15 := (congrFun hE 15).trans e15
 have e16 := (congrFun hE 16).trans e16
 have e59 := (congrFun hE 59).trans e59
 have e60 := (congrFun hE 60).trans e60
 have e61 := (congrFun hE 61).trans e61
 have e62 := (congrFun hE 62).trans e62
 have e74 := (congrFun hE 74).trans e74
 clear hE
 refine Wc.seq fun K185 hK185 => ?_
 refine rg ?_
 refine lp (.slice (some ad138) l9_0.length cl9_0) (pu_move e9) ?_
 refine lp (.int .i64 v14_2) (pu_move e14) ?_
 refine lp (.slice (some ad138) l9_0.length cl9_0) (pu_move e9) ?_
 refine lp (.int .i64 v15_2) (pu_move e15) ?_
 refine lp (.slice (some ad138) l9_0.length cl9_0) (pu_move e9) ?_
 refine lp (.int .i64 v15_2) (pu_move e15) ?_
 obtain ⟨x186, h187, hb⟩ := bd hb
 obtain ⟨ad188, cs189, hA, hc190, hr191⟩ := hC.elo (i := 3) rfl (get_some h187).2
 obtain rfl := Option.some.inj hA
 refine lp (.pointer (some (ad138.add (v15_2.toNat * 1)))) (pu_index (a := v15_2) Try.underlying22 Try.sizeOf3 rfl rfl (by rw [(hC.ow (i := 3) rfl).sl_len.1]; exact (get_some h187).1)) ?_
 obtain ⟨rfl, hr191'⟩ := hr191
 refine lv (.int .i64 x186) (ld_one Try.isAgg3 rfl (hc190 0 _ rfl)) ?_
 refine lp (.slice (some ad146) l7_1.length cl7_1) (pu_move e7) ?_
 refine lp (.int .i64 (l7_1.length : Int)) (pu_len (A := (some ad146)) (n := l7_1.length) (m := cl7_1) Try.underlying33 rfl) ?_
 obtain ⟨x192, h193, hb⟩ := bd hb
 obtain ⟨ad194, cs195, hA, hc196, hr197⟩ := hC.elo (i := 3) rfl (get_some h193).2
 obtain rfl := Option.some.inj hA
 refine lp (.pointer (some (ad138.add (v14_2.toNat * 1)))) (pu_index (a := v14_2) Try.underlying22 Try.sizeOf3 rfl rfl (by rw [(hC.ow (i := 3) rfl).sl_len.1]; exact (get_some h193).1)) ?_
 refine lex.sk (hC.put (i := 3) rfl rfl Try.sizeOf3 (k := v14_2.toNat) (a := x186) (by have := (get_some h193).1; simp at this ⊢; omega) (⟨rfl, I64.wr (wrap_I64 hr191')⟩) rfl rfl rfl) ?_
 rintro w198 ⟨hC, hF⟩
 obtain ⟨x199, h200, hb⟩ := bd hb
 obtain ⟨ad201, cs202, hA, hc203, hr204⟩ := hC.elo (i := 3) rfl (get_some h200).2
 obtain rfl := Option.some.inj hA
 refine lp (.pointer (some (ad138.add (v15_2.toNat * 1)))) (pu_index (a := v15_2) Try.underlying22 Try.sizeOf3 rfl rfl (by rw [(hC.ow (i := 3) rfl).sl_len.1]; exact (get_some h200).1)) ?_
 refine lex.sk (hC.put (i := 3) rfl rfl Try.sizeOf3 (k := v15_2.toNat) (a := (l7_1.length : Int)) (by have := (get_some h200).1; simp at this ⊢; omega) (⟨rfl, I64.wr (I64.len hll7_1 hcl7_1)⟩) rfl rfl rfl) ?_
 rintro w205 ⟨hC, hF⟩
 refine ln ?_
 refine hK185 _ _ ?_
 refine Wc.fresh fun E206 hE => ?_
 have e2 := (congrFun hE 2).trans e2
 have e3 := (congrFun hE 3).trans e3
 have e4 := (congrFun hE 4).trans e4
 have e6 := (congrFun hE 6).trans e6
 have e7 := (congrFun hE 7).trans e7
 have e8 := (congrFun hE 8).trans e8
 have e9 := (congrFun hE 9).trans e9
 have e11 := (congrFun hE 11).trans e11
 have e12 := (congrFun hE 12).trans e12
 have e13 := (congrFun hE 13).trans e13
 have e14 := (congrFun hE 14).trans e14
 have e15 := (congrFun hE 15).trans e15
 have e16 := (congrFun hE 16).trans e16
 have e59 := (congrFun hE 59).trans e59
 have e60 := (congrFun hE 60).trans e60
 have e61 := (congrFun hE 61).trans e61
 have e62 := (congrFun hE 62).trans e62
 have e74 := (congrFun hE 74).trans e74
 clear hE
 refine rg ?_
 refine lp (.slice (some ad146) l7_1.length cl7_1) (pu_move e7) ?_
 refine lp (.int .i64 b_0_0) (pu_move e4) ?_
 refine lp (.int .i64 v61_1) (pu_move e11) ?_
 obtain ⟨z207, h208, hb⟩ := bd hb
 refine lp (.int .i64 z207) (pu_addc (a := b_0_0) (b := v61_1) rfl rfl h208) ?_
 refine lp (.agg #[.int .i64 z207, .int .i64 0]) (pu_builda (pv := [(0, .int .i64 z207), (1, .int .i64 0)]) (sz := 1) Try.type67 Try.underlying67 rfl Try.type3 rfl rfl (by simp [Instr.fill, Value.cells])) ?_
 refine lex.op (hC.lit (s := (.pr (.int .i64) (.int .i64))) (vs := [.agg #[.int .i64 z207, .int .i64 0]]) (xs := [(z207, 0)]) Try.underlying33 Try.type67 rfl rfl (Nat.le_of_ble_eq_true rfl) rfl rfl (by simp [Value.cells, Sh.n]) rfl (show Elems _ _ (.pr (.int .i64) (.int .i64)) ([.int .i64 z207, .int .i64 0] ++ ([])) ([(z207, 0)] : List (Int × Int)) from Elems.cons (⟨[.int .i64 z207], [.int .i64 0], rfl, ⟨rfl, I64.wr (chk_rng h208)⟩, ⟨rfl, I64.wr (show I64 0 from by unfold I64; omega)⟩⟩) (Elems.nil _ _ _))) ?_
 rintro _ w213 ⟨A209, c210, rfl, hl211, hc212, hC, hF, hN⟩
 clear hF hN
 obtain ⟨u215, h216, hb⟩ := bd hb
 refine lex.op (hC.app (i := 3) (s := (.pr (.int .i64) (.int .i64))) (xs := (l7_1.set x136.toNat (x144.1, z142))) (ys := ([(z207, 0)] : List (Int × Int))) (m := ((([(z207, 0)] : List (Int × Int))).length)) rfl Try.underlying33 Try.underlying33 Try.type67 rfl rfl rfl (hC.srco (i := 0) rfl) rfl rfl (by have := lim_some h216; simp at this ⊢ <;> omega) (by decide)) ?_
 rintro _ w221 ⟨A217, c218, rfl, hl219, hc220, hC, hF, hN⟩
 clear hF hN
 refine lp (.slice A217 (((l7_1.set x136.toNat (x144.1, z142)) ++ ([(z207, 0)] : List (Int × Int))).length) c218) (pu_assign rfl) ?_
 refine ln ?_
 refine hK113 _ _ ?_
 refine rg ?_
 obtain ⟨z222, h223, hb⟩ := bd hb
 refine lp (.int .i64 z222) (pu_addc (a := v61_1) (b := 1) e61 rfl h223) ?_
 refine lp (.int .i64 z222) (pu_move rfl) ?_
 refine ln ?_
 obtain rfl := os hb
 exact hK105 m106' _ _ (Nat.lt_succ_self _) ⟨((l7_1.set x136.toNat (x144.1, z142)) ++ ([(z207, 0)] : List (Int × Int))), y175, z222, ((qF9_0_1.set v14_2.toNat x186).set v15_2.toNat (l7_1.length : Int)), A217, ((l7_1.set x136.toNat (x144.1, z142)) ++ ([(z207, 0)] : List (Int × Int))).length, c218, A177, y175.length, c179, e2, e3, e4, e6, rfl, e8, e9, e59, e60, rfl, (chk_rng h223), hC.sel [2, 3, 1, 4, 5] (by decide), lN hl1⟩
 replace hb := tf hq112 hb
 refine Wc.exit rfl ?_
 obtain rfl := os hb
 obtain rfl := (lX hl1).symm
 exact hK104 _ _ ⟨l7_1, l8_1, v61_1, qF9_0_1, Al7_1, l7_1.length, cl7_1, Al8_1, l8_1.length, cl8_1, e2, e3, e4, e6, e7, e8, e9, hrv61_1, hC.sel [0, 1, 2, 3] (by decide), hbK1⟩
 clear hb hC hl1
 rintro E225 w224 ⟨l7_1, l8_1, v61_1, qF9_0_1, Al7_1, ml7_1, cl7_1, Al8_1, ml8_1, cl8_1, e2, e3, e4, e6, e7, e8, e9, hrv61_1, hC, hb⟩
 obtain ⟨rfl, hll7_1, hcl7_1⟩ := (hC.ow (i := 1) rfl).sl_len
 obtain ⟨rfl, hll8_1, hcl8_1⟩ := (hC.ow (i := 2) rfl).sl_len
 refine hK101 _ _ ?_
 refine Wc.seq fun K226 hK226 => ?_
 refine Wc.seq fun K227 hK227 => ?_
 refine rg ?_
 refine lp (.slice Al9_0 l9_0.length cl9_0) (pu_move e9) ?_
 refine lp (.int .i64 (l9_0.length : Int)) (pu_len (A := Al9_0) (n := l9_0.length) (m := cl9_0) Try.underlying22 rfl) ?_
 refine lp (.int .i64 0) (pu_move rfl) ?_
 refine ln ?_
 refine hK227 _ _ ?_
 obtain ⟨o228, hl3, hb⟩ := bd hb
 refine Wc.cut (fun E wv => ∃ (v123_3 : Int) (qF7_1_3 : List (Int × Int)), E 2 = .pointer (some ⟨g6, 0, none⟩) ∧ E 3 = .int .i64 0 ∧ E 4 = .int .i64 b_0_0 ∧ E 6 = .int .i64 z26 ∧ E 7 = .slice Al7_1 l7_1.length cl7_1 ∧ E 8 = .slice Al8_1 l8_1.length cl8_1 ∧ I64 v123_3 ∧ Cx (fun _ => False) O0 w wv [.box g6 24 [.slice none 0 0, .slice none 0 0], .own 67 (.pr (.int .i64) (.int .i64)) (.slice Al7_1 l7_1.length cl7_1) qF7_1_3, .own 3 (.int .i64) (.slice Al8_1 l8_1.length cl8_1) l8_1] ∧ ((pos z26).bind fun u268 => (pos z26).bind fun u276 => ((loopN n (F.gridlink_Braid_b4 n l8_1 qF7_1_3) (0, ([] : List Int), ([] : List Int))).bind fun o290 => match o290 with     | (v144_4, kf286_0_4, kf286_1_4) => ((loopN n (F.gridlink_Braid_b5 n b_0_0 z26) (0, kf286_0_4, kf286_1_4)).bind fun o370 => match o370 with     | (v170_5, kf286_0_5, kf286_1_5) => some (kf286_0_5, kf286_1_5, 0))) : Option ((List Int) × (List Int) × Int)) = some r) (fun K229 hK229 => ?_) ?_
 refine Wc.block ?_
 refine Wc.loop (fun m E wv => ∃ (v123_3 : Int) (qF7_1_3 : List (Int × Int)), E 2 = .pointer (some ⟨g6, 0, none⟩) ∧ E 3 = .int .i64 0 ∧ E 4 = .int .i64 b_0_0 ∧ E 6 = .int .i64 z26 ∧ E 7 = .slice Al7_1 l7_1.length cl7_1 ∧ E 8 = .slice Al8_1 l8_1.length cl8_1 ∧ E 121 = .slice Al9_0 l9_0.length cl9_0 ∧ E 122 = .int .i64 (l9_0.length : Int) ∧ E 123 = .int .i64 v123_3 ∧ I64 v123_3 ∧ Cx (fun _ => False) O0 w wv [.box g6 24 [.slice none 0 0, .slice none 0 0], .own 67 (.pr (.int .i64) (.int .i64)) (.slice Al7_1 l7_1.length cl7_1) qF7_1_3, .own 3 (.int .i64) (.slice Al8_1 l8_1.length cl8_1) l8_1, .own 3 (.int .i64) (.slice Al9_0 l9_0.length cl9_0) qF9_0_1] ∧ loopN m (F.gridlink_Braid_b3 n z26 l9_0 qF9_0_1) (v123_3, qF7_1_3) = some o228) n ⟨0, l7_1, e2, e3, e4, e6, e7, e8, rfl, rfl, rfl, (show I64 0 from by unfold I64; omega), hC.sel [0, 1, 2, 3] (by decide), hl3⟩ ?_
 have hbK3 := hb
 clear hb hC hl3
 rintro m231 E233 w232 ⟨v123_3, qF7_1_3, e2, e3, e4, e6, e7, e8, e121, e122, e123, hrv123_3, hC, hl3⟩ K230 hK230
 obtain ⟨m231', o234, rfl, hb, hl3⟩ := loopN_some hl3
 unfold F.gridlink_Braid_b3 at hb
 refine Wc.seq fun K235 hK235 => ?_
 refine rg ?_
 refine lp (.bool (decide (v123_3 < (l9_0.length : Int)))) (pu_lss (k := .i64) (a := v123_3) (b := (l9_0.length : Int)) e123 e122) ?_
 refine ln ?_
 refine hK235 _ _ ?_
 refine Wc.seq fun K236 hK236 => ?_
 refine Wc.cond (t := (decide (v123_3 < (l9_0.length : Int)))) (rfl) (fun hq237 => ?_) (fun hq237 => ?_)
 replace hb := tt hq237 hb
 refine Wc.skip ?_
 refine hK236 _ _ ?_
 refine Wc.seq fun K238 hK238 => ?_
 refine Wc.block ?_
 refine Wc.seq fun K239 hK239 => ?_
 refine rg ?_
 refine lp (.int .i64 v123_3) (pu_move e123) ?_
 obtain ⟨x240, h241, hb⟩ := bd hb
 obtain ⟨ad242, cs243, hA, hc244, hr245⟩ := hC.elo (i := 3) rfl (get_some h241).2
 subst hA
 refine lp (.pointer (some (ad242.add (v123_3.toNat * 1)))) (pu_index (a := v123_3) Try.underlying22 Try.sizeOf3 e121 e123 (by rw [(hC.ow (i := 3) rfl).sl_len.1]; exact (get_some h241).1)) ?_
 obtain ⟨rfl, hr245'⟩ := hr245
 refine lv (.int .i64 x240) (ld_one Try.isAgg3 rfl (hc244 0 _ rfl)) ?_
 refine lp (.int .i64 v123_3) (pu_assign rfl) ?_
 refine lp (.int .i64 x240) (pu_assign rfl) ?_
 refine ln ?_
 refine hK239 _ _ ?_
 refine rg ?_
 refine lp (.slice Al7_1 l7_1.length cl7_1) (pu_move e7) ?_
 refine lp (.int .i64 x240) (pu_move rfl) ?_
 refine lp (.int .i64 z26) (pu_move e6) ?_
 obtain ⟨z246, h247, hb⟩ := bd hb
 refine lp (.int .i64 z246) (pu_subc (a := z26) (b := 1) rfl rfl h247) ?_
 refine lp (.int .i64 v123_3) (pu_move rfl) ?_
 obtain ⟨z248, h249, hb⟩ := bd hb
 refine lp (.int .i64 z248) (pu_subc (a := z246) (b := v123_3) rfl rfl h249) ?_
 obtain ⟨x250, h251, hb⟩ := bd hb
 obtain ⟨ad252, cs253, hA, hc254, hr255⟩ := hC.elo (i := 1) rfl (get_some h251).2
 subst hA
 refine lp (.pointer (some (ad252.add (x240.toNat * 2)))) (pu_index (a := x240) Try.underlying33 Try.sizeOf67 rfl rfl (by rw [(hC.ow (i := 1) rfl).sl_len.1]; exact (get_some h251).1)) ?_
 obtain ⟨k256, k257, rfl, hr258, hr259⟩ := hr255
 obtain ⟨rfl, hr258⟩ := hr258
 obtain ⟨rfl, hr259⟩ := hr259
 refine lp (.pointer (some ((ad252.add (x240.toNat * 2)).add 1))) (pu_ixa (A := (ad252.add (x240.toNat * 2))) (a := 1) (sz := 1) Try.underlying67 Try.sizeOf3 rfl rfl (by decide)) ?_
 refine lex.sk (hC.putAt (i := 1) (o := 1) (a := (x250.1, z248)) rfl Try.sizeOf3 (get_some h251).2 rfl hc254 (by decide) rfl (⟨[.int .i64 x250.1], [.int .i64 z248], rfl, ⟨rfl, I64.wr (wrap_I64 hr258)⟩, ⟨rfl, I64.wr (chk_rng h249)⟩⟩) rfl rfl) ?_
 rintro w260 ⟨hC, hF⟩
 refine ln ?_
 refine hK238 _ _ ?_
 refine rg ?_
 obtain ⟨z261, h262, hb⟩ := bd hb
 refine lp (.int .i64 z261) (pu_addc (a := v123_3) (b := 1) e123 rfl h262) ?_
 refine lp (.int .i64 z261) (pu_move rfl) ?_
 refine ln ?_
 obtain rfl := os hb
 exact hK230 m231' _ _ (Nat.lt_succ_self _) ⟨z261, (qF7_1_3.set x240.toNat (x250.1, z248)), e2, e3, e4, e6, e7, e8, e121, e122, rfl, (chk_rng h262), hC.sel [0, 1, 2, 3] (by decide), lN hl3⟩
 replace hb := tf hq237 hb
 refine Wc.exit rfl ?_
 obtain rfl := os hb
 obtain rfl := (lX hl3).symm
 exact hK229 _ _ ⟨v123_3, qF7_1_3, e2, e3, e4, e6, e7, e8, hrv123_3, hC.sel [0, 1, 2] (by decide), hbK3⟩
 clear hb hC hl3
 rintro E264 w263 ⟨v123_3, qF7_1_3, e2, e3, e4, e6, e7, e8, hrv123_3, hC, hb⟩
 refine hK226 _ _ ?_
 refine Wc.seq fun K265 hK265 => ?_
 refine Wc.regionPlan [] (frm [] ([] : List Fact) ([] : List Fact)) (chainP [0, 2] (.alt (chainP [1] (.alt (chainP [3] (chainP [4, 5, 6] .done)) (chainP [5] (chainP [3, 4, 6] .done)))) (.alt (chainP [3] (.alt (chainP [1] (chainP [4, 5, 6] .done)) (chainP [5] (chainP [1, 4, 6] .done)))) (chainP [5] (.alt (chainP [1] (chainP [3, 4, 6] .done)) (chainP [3] (chainP [1, 4, 6] .done))))))) (fun _ => rfl) mixed (by decide +kernel) (by decide +kernel) fun w267 hw266 => ?_
 replace hC := hC.step (Fr.of_drew hw266)
 have hM := Fr.refl (fun k => k ∈ blocks ([] : List Fact)) w267
 clear hw266
 have hS := hC
 have hD : Fr (fun k => k ∈ blocks (([] : List Fact) ++ ([] : List Fact))) w267 w267 := hM.wide
 refine mixPE_chain ?_
 refine mp (.int .i64 z26) (pu_move e6) ?_
 refine mp (.int .i64 z26) (pu_move e6) ?_
 refine mixE.nil ?_
 refine mixPE_alt ?_ ?_
 refine mixPE_chain ?_
 obtain ⟨u268, h269, hb⟩ := bd hb
 refine mixE.op hM (hC.make0 (s := (.int .i64)) (n := z26) Try.underlying22 Try.type3 rfl rfl rfl rfl (pos_some h269).1 (pos_some h269).2 (by decide)) ?_
 rintro _ w274 ⟨A270, c271, rfl, hl272, hc273, hC, hF, hN⟩
 have hBf275 := Beside.new hM hN
 have hUf275 := Beside.new (hM.wide (H := ([] : List Fact))) hN
 replace hM := hM.none hF
 replace hD := hM.wide (H := ([] : List Fact))
 refine ⟨hM, ?_⟩
 clear hF hN
 refine mixE.nil ?_
 refine mixPE_alt ?_ ?_
 refine mixPE_chain ?_
 obtain ⟨u276, h277, hb⟩ := bd hb
 refine mixE.op hM (hC.make0 (s := (.int .i64)) (n := z26) Try.underlying22 Try.type3 rfl rfl rfl rfl (pos_some h277).1 (pos_some h277).2 (by decide)) ?_
 rintro _ w282 ⟨A278, c279, rfl, hl280, hc281, hC, hF, hN⟩
 have hBf283 := Beside.new hM hN
 have hUf283 := Beside.new (hM.wide (H := ([] : List Fact))) hN
 replace hM := hM.none hF
 replace hD := hM.wide (H := ([] : List Fact))
 refine ⟨hM, ?_⟩
 clear hF hN
 refine mixE.nil ?_
 refine mixPE_chain ?_
 refine mp (.agg #[.slice A270 ((([] : List Int)).length) c271, .slice A278 ((([] : List Int)).length) c279]) (pu_builds (places := [(0, 1), (1, 1)]) (pv := [(0, .slice A270 ((([] : List Int)).length) c271), (1, .slice A278 ((([] : List Int)).length) c279)]) Try.type24 Try.underlying24 rfl (mp_cons Try.type22 (mp_cons Try.type22 mp_nil rfl rfl) rfl rfl) rfl (by simp [Instr.fill, Value.cells])) ?_
 refine mixE.op hM (hC.alloc (cs := [.slice none 0 0, .slice none 0 0]) Try.zeroValue24 rfl) ?_
 rintro _ w285 ⟨g284, rfl, hC, hF, hG⟩
 have hUf286 : g284 < w267.heap.size → g284 ∈ blocks (([] : List Fact) ++ ([] : List Fact)) := fun h => absurd (Nat.lt_of_lt_of_le h (Nat.le_trans hM.size hG)) (Nat.lt_irrefl _)
 clear hG
 replace hM := hM.none hF
 replace hD := hM.wide (H := ([] : List Fact))
 refine ⟨hM, ?_⟩
 refine mixE.sk hD (hC.seta (i := 0) (ds := [.slice A270 ((([] : List Int)).length) c271, .slice A278 ((([] : List Int)).length) c279]) rfl Try.type24 rfl rfl rfl rfl rfl) ?_
 rintro w287 ⟨hC, hF⟩
 replace hD := hD.besideG hUf286 hF
 clear hF
 refine ⟨hD, ?_⟩
 refine mixE.nil ?_
 clear hS hM
 clear hD
 refine hK265 _ _ ?_
 refine Wc.seq fun K288 hK288 => ?_
 refine Wc.seq fun K289 hK289 => ?_
 refine rg ?_
 refine lp (.slice Al8_1 l8_1.length cl8_1) (pu_move e8) ?_
 refine lp (.int .i64 (l8_1.length : Int)) (pu_len (A := Al8_1) (n := l8_1.length) (m := cl8_1) Try.underlying22 rfl) ?_
 refine lp (.int .i64 0) (pu_move rfl) ?_
 refine ln ?_
 refine hK289 _ _ ?_
 obtain ⟨o290, hl4, hb⟩ := bd hb
 refine Wc.cut (fun E wv => ∃ (v144_4 : Int) (kf286_0_4 : List Int) (kf286_1_4 : List Int) (Akf286_0_4 : Option Addr) (mkf286_0_4 ckf286_0_4 : Nat) (Akf286_1_4 : Option Addr) (mkf286_1_4 ckf286_1_4 : Nat), E 2 = .pointer (some ⟨g6, 0, none⟩) ∧ E 3 = .int .i64 0 ∧ E 4 = .int .i64 b_0_0 ∧ E 6 = .int .i64 z26 ∧ E 19 = .pointer (some ⟨g284, 0, none⟩) ∧ I64 v144_4 ∧ Cx (fun _ => False) O0 w wv [.box g6 24 [.slice none 0 0, .slice none 0 0], .box g284 24 [.slice Akf286_0_4 mkf286_0_4 ckf286_0_4, .slice Akf286_1_4 mkf286_1_4 ckf286_1_4], .own 3 (.int .i64) (.slice Akf286_0_4 mkf286_0_4 ckf286_0_4) kf286_0_4, .own 3 (.int .i64) (.slice Akf286_1_4 mkf286_1_4 ckf286_1_4) kf286_1_4] ∧ (((loopN n (F.gridlink_Braid_b5 n b_0_0 z26) (0, kf286_0_4, kf286_1_4)).bind fun o370 => match o370 with     | (v170_5, kf286_0_5, kf286_1_5) => some (kf286_0_5, kf286_1_5, 0)) : Option ((List Int) × (List Int) × Int)) = some r) (fun K291 hK291 => ?_) ?_
 refine Wc.block ?_
 refine Wc.loop (fun m E wv => ∃ (v144_4 : Int) (kf286_0_4 : List Int) (kf286_1_4 : List Int) (Akf286_0_4 : Option Addr) (mkf286_0_4 ckf286_0_4 : Nat) (Akf286_1_4 : Option Addr) (mkf286_1_4 ckf286_1_4 : Nat), E 2 = .pointer (some ⟨g6, 0, none⟩) ∧ E 3 = .int .i64 0 ∧ E 4 = .int .i64 b_0_0 ∧ E 6 = .int .i64 z26 ∧ E 7 = .slice Al7_1 l7_1.length cl7_1 ∧ E 19 = .pointer (some ⟨g284, 0, none⟩) ∧ E 142 = .slice Al8_1 l8_1.length cl8_1 ∧ E 143 = .int .i64 (l8_1.length : Int) ∧ E 144 = .int .i64 v144_4 ∧ I64 v144_4 ∧ Cx (fun _ => False) O0 w wv [.box g6 24 [.slice none 0 0, .slice none 0 0], .own 67 (.pr (.int .i64) (.int .i64)) (.slice Al7_1 l7_1.length cl7_1) qF7_1_3, .box g284 24 [.slice Akf286_0_4 mkf286_0_4 ckf286_0_4, .slice Akf286_1_4 mkf286_1_4 ckf286_1_4], .own 3 (.int .i64) (.slice Akf286_0_4 mkf286_0_4 ckf286_0_4) kf286_0_4, .own 3 (.int .i64) (.slice Akf286_1_4 mkf286_1_4 ckf286_1_4) kf286_1_4, .own 3 (.int .i64) (.slice Al8_1 l8_1.length cl8_1) l8_1] ∧ loopN m (F.gridlink_Braid_b4 n l8_1 qF7_1_3) (v144_4, kf286_0_4, kf286_1_4) = some o290) n ⟨0, ([] : List Int), ([] : List Int), A270, (([] : List Int)).length, c271, A278, (([] : List Int)).length, c279, e2, e3, e4, e6, e7, rfl, rfl, rfl, rfl, (show I64 0 from by unfold I64; omega), hC.sel [3, 4, 0, 2, 1, 5] (by decide), hl4⟩ ?_
 have hbK4 := hb
 clear hb hC hl4
 rintro m293 E295 w294 ⟨v144_4, kf286_0_4, kf286_1_4, Akf286_0_4, mkf286_0_4, ckf286_0_4, Akf286_1_4, mkf286_1_4, ckf286_1_4, e2, e3, e4, e6, e7, e19, e142, e143, e144, hrv144_4, hC, hl4⟩ K292 hK292
 obtain ⟨m293', o296, rfl, hb, hl4⟩ := loopN_some hl4
 unfold F.gridlink_Braid_b4 at hb
 obtain ⟨rfl, hlkf286_0_4, hckf286_0_4⟩ := (hC.ow (i := 3) rfl).sl_len
 obtain ⟨rfl, hlkf286_1_4, hckf286_1_4⟩ := (hC.ow (i := 4) rfl).sl_len
 refine Wc.seq fun K297 hK297 => ?_
 refine rg ?_
 refine lp (.bool (decide (v144_4 < (l8_1.length : Int)))) (pu_lss (k := .i64) (a := v144_4) (b := (l8_1.length : Int)) e144 e143) ?_
 refine ln ?_
 refine hK297 _ _ ?_
 refine Wc.seq fun K298 hK298 => ?_
 refine Wc.cond (t := (decide (v144_4 < (l8_1.length : Int)))) (rfl) (fun hq299 => ?_) (fun hq299 => ?_)
 replace hb := tt hq299 hb
 refine Wc.skip ?_
 refine hK298 _ _ ?_
 refine Wc.seq fun K300 hK300 => ?_
 refine Wc.block ?_
 refine Wc.seq fun K301 hK301 => ?_
 refine rg ?_
 obtain ⟨x302, h303, hb⟩ := bd hb
 obtain ⟨ad304, cs305, hA, hc306, hr307⟩ := hC.elo (i := 5) rfl (get_some h303).2
 subst hA
 refine lp (.pointer (some (ad304.add (v144_4.toNat * 1)))) (pu_index (a := v144_4) Try.underlying22 Try.sizeOf3 e142 e144 (get_some h303).1) ?_
 obtain ⟨rfl, hr307'⟩ := hr307
 refine lv (.int .i64 x302) (ld_one Try.isAgg3 rfl (hc306 0 _ rfl)) ?_
 refine lp (.int .i64 x302) (pu_assign rfl) ?_
 refine ln ?_
 refine hK301 _ _ ?_
 refine Wc.seq fun K308 hK308 => ?_
 refine Wc.regionMix [154] (frm [154] [.own 3 (.int .i64) (.slice Akf286_0_4 kf286_0_4.length ckf286_0_4) kf286_0_4] [.box g284 24 [.slice Akf286_0_4 kf286_0_4.length ckf286_0_4, .slice Akf286_1_4 kf286_1_4.length ckf286_1_4]]) (fun _ => rfl) mixed (by decide +kernel) (by decide +kernel) fun w310 hw309 => ?_
 replace hC := hC.step (Fr.of_drew hw309)
 have hM := Fr.refl (fun k => k ∈ blocks [.own 3 (.int .i64) (.slice Akf286_0_4 kf286_0_4.length ckf286_0_4) kf286_0_4]) w310
 clear hw309
 have hS := hC
 have hBFf286_0_4 : Beside [.own 3 (.int .i64) (.slice Akf286_0_4 kf286_0_4.length ckf286_0_4) kf286_0_4] w310 (.slice Akf286_0_4 kf286_0_4.length ckf286_0_4) := Beside.of (i := 0) rfl
 have hD : Fr (fun k => k ∈ blocks ([.own 3 (.int .i64) (.slice Akf286_0_4 kf286_0_4.length ckf286_0_4) kf286_0_4] ++ [.box g284 24 [.slice Akf286_0_4 kf286_0_4.length ckf286_0_4, .slice Akf286_1_4 kf286_1_4.length ckf286_1_4]])) w310 w310 := hM.wide
 have hUFf286_0_4 : Beside ([.own 3 (.int .i64) (.slice Akf286_0_4 kf286_0_4.length ckf286_0_4) kf286_0_4] ++ [.box g284 24 [.slice Akf286_0_4 kf286_0_4.length ckf286_0_4, .slice Akf286_1_4 kf286_1_4.length ckf286_1_4]]) w310 (.slice Akf286_0_4 kf286_0_4.length ckf286_0_4) := Beside.of (i := 0) rfl
 have hUf286 : g284 < w310.heap.size → g284 ∈ blocks ([.own 3 (.int .i64) (.slice Akf286_0_4 kf286_0_4.length ckf286_0_4) kf286_0_4] ++ [.box g284 24 [.slice Akf286_0_4 kf286_0_4.length ckf286_0_4, .slice Akf286_1_4 kf286_1_4.length ckf286_1_4]]) := fun _ => box_in (i := 1) rfl
 refine mp (.pointer (some ((⟨g284, 0, none⟩ : Addr).add 0))) (pu_field (sz := 1) Try.underlying24 rfl Try.sizeOf22 (by decide) rfl e19) ?_
 refine mixE.load hM (v := .slice Akf286_0_4 kf286_0_4.length ckf286_0_4) (fun _ hF => ld_fld (hS.bx2 (i := 2) rfl [3] (by decide) hF) Try.isAgg22 rfl rfl) ?_
 refine mp (.slice Al7_1 l7_1.length cl7_1) (pu_move e7) ?_
 refine mp (.int .i64 x302) (pu_move rfl) ?_
 obtain ⟨x311, h312, hb⟩ := bd hb
 obtain ⟨ad313, cs314, hA, ho317, hc315, hr316⟩ := hS.elo2 (i := 1) rfl (get_some h312).2 [3, 2] (by decide)
 subst hA
 refine mp (.pointer (some (ad313.add (x302.toNat * 2)))) (pu_index (a := x302) Try.underlying33 Try.sizeOf67 rfl rfl (by rw [(hC.ow (i := 1) rfl).sl_len.1]; exact (get_some h312).1)) ?_
 obtain ⟨k318, k319, rfl, hr320, hr321⟩ := hr316
 obtain ⟨rfl, hr320⟩ := hr320
 obtain ⟨rfl, hr321⟩ := hr321
 refine mp (.pointer (some ((ad313.add (x302.toNat * 2)).add 0))) (pu_ixa (A := (ad313.add (x302.toNat * 2))) (a := 0) (sz := 1) Try.underlying67 Try.sizeOf3 rfl rfl (by decide)) ?_
 refine mixE.steady hD (v := .int .i64 x311.1) (fun _ hF => ld_one Try.isAgg3 rfl (hF.cell (hc315 0 _ rfl) (off2 ho317))) ?_
 refine mixE.op hM (hC.lit (s := (.int .i64)) (vs := [.int .i64 x311.1]) (xs := [x311.1]) Try.underlying22 Try.type3 rfl rfl (Nat.le_of_ble_eq_true rfl) rfl rfl (by simp [Value.cells, Sh.n]) rfl (show Elems _ _ (.int .i64) ([.int .i64 x311.1] ++ ([])) ([x311.1] : List Int) from Elems.cons (⟨rfl, I64.wr (wrap_I64 hr320)⟩) (Elems.nil _ _ _))) ?_
 rintro _ w326 ⟨A322, c323, rfl, hl324, hc325, hC, hF, hN⟩
 have hBf327 := Beside.new hM hN
 have hUf327 := Beside.new (hM.wide (H := [.box g284 24 [.slice Akf286_0_4 kf286_0_4.length ckf286_0_4, .slice Akf286_1_4 kf286_1_4.length ckf286_1_4]])) hN
 replace hM := hM.none hF
 replace hD := hM.wide (H := [.box g284 24 [.slice Akf286_0_4 kf286_0_4.length ckf286_0_4, .slice Akf286_1_4 kf286_1_4.length ckf286_1_4]])
 refine ⟨hM, ?_⟩
 clear hF hN
 obtain ⟨u328, h329, hb⟩ := bd hb
 refine mixE.op hM (hC.app (i := 4) (s := (.int .i64)) (xs := kf286_0_4) (ys := ([x311.1] : List Int)) (m := ((([x311.1] : List Int)).length)) rfl Try.underlying22 Try.underlying22 Try.type3 rfl rfl rfl (hC.srco (i := 0) rfl) rfl rfl (by have := lim_some h329; simp at this ⊢ <;> omega) (by decide)) ?_
 rintro _ w334 ⟨A330, c331, rfl, hl332, hc333, hC, hF, hN⟩
 have hB := hBFf286_0_4
 replace hBFf286_0_4 := hB.app hM hN
 replace hM := hM.beside hB hF
 clear hB
 replace hD := hM.wide (H := [.box g284 24 [.slice Akf286_0_4 kf286_0_4.length ckf286_0_4, .slice Akf286_1_4 kf286_1_4.length ckf286_1_4]])
 refine ⟨hM, ?_⟩
 clear hF hN
 refine mp (.pointer (some ((⟨g284, 0, none⟩ : Addr).add 0))) (pu_field (sz := 1) Try.underlying24 rfl Try.sizeOf22 (by decide) rfl e19) ?_
 refine mixE.sk hD (hC.setf (i := 3) (k := 0) (v := .slice A330 ((kf286_0_4 ++ ([x311.1] : List Int)).length) c331) rfl Try.sizeOf22 rfl rfl rfl rfl) ?_
 rintro w335 ⟨hC, hF⟩
 replace hD := hD.besideG hUf286 hF
 clear hF
 refine ⟨hD, ?_⟩
 refine mixE.nil ?_
 clear hS hM
 clear hD
 refine hK308 _ _ ?_
 refine Wc.fresh fun E336 hE => ?_
 have e2 := (congrFun hE 2).trans e2
 have e3 := (congrFun hE 3).trans e3
 have e4 := (congrFun hE 4).trans e4
 have e6 := (congrFun hE 6).trans e6
 have e7 := (congrFun hE 7).trans e7
 have e19 := (congrFun hE 19).trans e19
 have e21 : E336 21 = .int .i64 x302 := (congrFun hE 21).trans rfl
 have e142 := (congrFun hE 142).trans e142
 have e143 := (congrFun hE 143).trans e143
 have e144 := (congrFun hE 144).trans e144
 have e145 : E336 145 = .bool (decide (v144_4 < (l8_1.length : Int))) := (congrFun hE 145).trans rfl
 clear hE
 refine Wc.regionMix [164] (frm [164] [.own 3 (.int .i64) (.slice Akf286_1_4 kf286_1_4.length ckf286_1_4) kf286_1_4] [.box g284 24 [.slice A330 ((kf286_0_4 ++ ([x311.1] : List Int)).length) c331, .slice Akf286_1_4 kf286_1_4.length ckf286_1_4]]) (fun _ => rfl) mixed (by decide +kernel) (by decide +kernel) fun w338 hw337 => ?_
 replace hC := hC.step (Fr.of_drew hw337)
 have hM := Fr.refl (fun k => k ∈ blocks [.own 3 (.int .i64) (.slice Akf286_1_4 kf286_1_4.length ckf286_1_4) kf286_1_4]) w338
 clear hw337
 have hS := hC
 have hBFf286_1_4 : Beside [.own 3 (.int .i64) (.slice Akf286_1_4 kf286_1_4.length ckf286_1_4) kf286_1_4] w338 (.slice Akf286_1_4 kf286_1_4.length ckf286_1_4) := Beside.of (i := 0) rfl
 have hD : Fr (fun k => k ∈ blocks ([.own 3 (.int .i64) (.slice Akf286_1_4 kf286_1_4.length ckf286_1_4) kf286_1_4] ++ [.box g284 24 [.slice A330 ((kf286_0_4 ++ ([x311.1] : List Int)).length) c331, .slice Akf286_1_4 kf286_1_4.length ckf286_1_4]])) w338 w338 := hM.wide
 have hUFf286_1_4 : Beside ([.own 3 (.int .i64) (.slice Akf286_1_4 kf286_1_4.length ckf286_1_4) kf286_1_4] ++ [.box g284 24 [.slice A330 ((kf286_0_4 ++ ([x311.1] : List Int)).length) c331, .slice Akf286_1_4 kf286_1_4.length ckf286_1_4]]) w338 (.slice Akf286_1_4 kf286_1_4.length ckf286_1_4) := Beside.of (i := 0) rfl
 have hUf286 : g284 < w338.heap.size → g284 ∈ blocks ([.own 3 (.int .i64) (.slice Akf286_1_4 kf286_1_4.length ckf286_1_4) kf286_1_4] ++ [.box g284 24 [.slice A330 ((kf286_0_4 ++ ([x311.1] : List Int)).length) c331, .slice Akf286_1_4 kf286_1_4.length ckf286_1_4]]) := fun _ => box_in (i := 1) rfl
 refine mp (.pointer (some ((⟨g284, 0, none⟩ : Addr).add 1))) (pu_field (sz := 1) Try.underlying24 rfl Try.sizeOf22 (by decide) rfl e19) ?_
 refine mixE.load hM (v := .slice Akf286_1_4 kf286_1_4.length ckf286_1_4) (fun _ hF => ld_fld (hS.bx2 (i := 3) rfl [5] (by decide) hF) Try.isAgg22 rfl rfl) ?_
 refine mp (.slice (some ad313) l7_1.length cl7_1) (pu_move e7) ?_
 refine mp (.int .i64 x302) (pu_move e21) ?_
 obtain ⟨x339, h340, hb⟩ := bd hb
 obtain ⟨ad341, cs342, hA, ho345, hc343, hr344⟩ := hS.elo2 (i := 2) rfl (get_some h340).2 [5, 3] (by decide)
 obtain rfl := Option.some.inj hA
 refine mp (.pointer (some (ad313.add (x302.toNat * 2)))) (pu_index (a := x302) Try.underlying33 Try.sizeOf67 rfl rfl (by rw [(hC.ow (i := 2) rfl).sl_len.1]; exact (get_some h340).1)) ?_
 obtain ⟨k346, k347, rfl, hr348, hr349⟩ := hr344
 obtain ⟨rfl, hr348⟩ := hr348
 obtain ⟨rfl, hr349⟩ := hr349
 refine mp (.pointer (some ((ad313.add (x302.toNat * 2)).add 1))) (pu_ixa (A := (ad313.add (x302.toNat * 2))) (a := 1) (sz := 1) Try.underlying67 Try.sizeOf3 rfl rfl (by decide)) ?_
 refine mixE.steady hD (v := .int .i64 x339.2) (fun _ hF => ld_one Try.isAgg3 rfl (hF.cell (hc343 1 _ rfl) (off2 ho345))) ?_
 refine mixE.op hM (hC.lit (s := (.int .i64)) (vs := [.int .i64 x339.2]) (xs := [x339.2]) Try.underlying22 Try.type3 rfl rfl (Nat.le_of_ble_eq_true rfl) rfl rfl (by simp [Value.cells, Sh.n]) rfl (show Elems _ _ (.int .i64) ([.int .i64 x339.2] ++ ([])) ([x339.2] : List Int) from Elems.cons (⟨rfl, I64.wr (wrap_I64 hr349)⟩) (Elems.nil _ _ _))) ?_
 rintro _ w354 ⟨A350, c351, rfl, hl352, hc353, hC, hF, hN⟩
 have hBf355 := Beside.new hM hN
 have hUf355 := Beside.new (hM.wide (H := [.box g284 24 [.slice A330 ((kf286_0_4 ++ ([x311.1] : List Int)).length) c331, .slice Akf286_1_4 kf286_1_4.length ckf286_1_4]])) hN
 replace hM := hM.none hF
 replace hD := hM.wide (H := [.box g284 24 [.slice A330 ((kf286_0_4 ++ ([x311.1] : List Int)).length) c331, .slice Akf286_1_4 kf286_1_4.length ckf286_1_4]])
 refine ⟨hM, ?_⟩
 clear hF hN
 obtain ⟨u356, h357, hb⟩ := bd hb
 refine mixE.op hM (hC.app (i := 6) (s := (.int .i64)) (xs := kf286_1_4) (ys := ([x339.2] : List Int)) (m := ((([x339.2] : List Int)).length)) rfl Try.underlying22 Try.underlying22 Try.type3 rfl rfl rfl (hC.srco (i := 0) rfl) rfl rfl (by have := lim_some h357; simp at this ⊢ <;> omega) (by decide)) ?_
 rintro _ w362 ⟨A358, c359, rfl, hl360, hc361, hC, hF, hN⟩
 have hB := hBFf286_1_4
 replace hBFf286_1_4 := hB.app hM hN
 replace hM := hM.beside hB hF
 clear hB
 replace hD := hM.wide (H := [.box g284 24 [.slice A330 ((kf286_0_4 ++ ([x311.1] : List Int)).length) c331, .slice Akf286_1_4 kf286_1_4.length ckf286_1_4]])
 refine ⟨hM, ?_⟩
 clear hF hN
 refine mp (.pointer (some ((⟨g284, 0, none⟩ : Addr).add 1))) (pu_field (sz := 1) Try.underlying24 rfl Try.sizeOf22 (by decide) rfl e19) ?_
 refine mixE.sk hD (hC.setf (i := 4) (k := 1) (v := .slice A358 ((kf286_1_4 ++ ([x339.2] : List Int)).length) c359) rfl Try.sizeOf22 rfl rfl rfl rfl) ?_
 rintro w363 ⟨hC, hF⟩
 replace hD := hD.besideG hUf286 hF
 clear hF
 refine ⟨hD, ?_⟩
 refine mixE.nil ?_
 clear hS hM
 clear hD
 refine hK300 _ _ ?_
 refine rg ?_
 obtain ⟨z364, h365, hb⟩ := bd hb
 refine lp (.int .i64 z364) (pu_addc (a := v144_4) (b := 1) e144 rfl h365) ?_
 refine lp (.int .i64 z364) (pu_move rfl) ?_
 refine ln ?_
 obtain rfl := os hb
 exact hK292 m293' _ _ (Nat.lt_succ_self _) ⟨z364, (kf286_0_4 ++ ([x311.1] : List Int)), (kf286_1_4 ++ ([x339.2] : List Int)), A330, (kf286_0_4 ++ ([x311.1] : List Int)).length, c331, A358, (kf286_1_4 ++ ([x339.2] : List Int)).length, c359, e2, e3, e4, e6, e7, e19, e142, e143, rfl, (chk_rng h365), hC.sel [2, 3, 4, 5, 6, 7] (by decide), lN hl4⟩
 replace hb := tf hq299 hb
 refine Wc.exit rfl ?_
 obtain rfl := os hb
 obtain rfl := (lX hl4).symm
 exact hK291 _ _ ⟨v144_4, kf286_0_4, kf286_1_4, Akf286_0_4, kf286_0_4.length, ckf286_0_4, Akf286_1_4, kf286_1_4.length, ckf286_1_4, e2, e3, e4, e6, e19, hrv144_4, hC.sel [0, 2, 3, 4] (by decide), hbK4⟩
 clear hb hC hl4
 rintro E367 w366 ⟨v144_4, kf286_0_4, kf286_1_4, Akf286_0_4, mkf286_0_4, ckf286_0_4, Akf286_1_4, mkf286_1_4, ckf286_1_4, e2, e3, e4, e6, e19, hrv144_4, hC, hb⟩
 obtain ⟨rfl, hlkf286_0_4, hckf286_0_4⟩ := (hC.ow (i := 2) rfl).sl_len
 obtain ⟨rfl, hlkf286_1_4, hckf286_1_4⟩ := (hC.ow (i := 3) rfl).sl_len
 refine hK288 _ _ ?_
 refine Wc.seq fun K368 hK368 => ?_
 refine Wc.seq fun K369 hK369 => ?_
 refine rg ?_
 refine lp (.int .i64 b_0_0) (pu_move e4) ?_
 refine lp (.int .i64 0) (pu_move rfl) ?_
 refine ln ?_
 refine hK369 _ _ ?_
 obtain ⟨o370, hl5, hb⟩ := bd hb
 refine Wc.cut (fun E wv => ∃ (v170_5 : Int) (kf286_0_5 : List Int) (kf286_1_5 : List Int) (Akf286_0_5 : Option Addr) (mkf286_0_5 ckf286_0_5 : Nat) (Akf286_1_5 : Option Addr) (mkf286_1_5 ckf286_1_5 : Nat), E 2 = .pointer (some ⟨g6, 0, none⟩) ∧ E 3 = .int .i64 0 ∧ E 19 = .pointer (some ⟨g284, 0, none⟩) ∧ I64 v170_5 ∧ Cx (fun _ => False) O0 w wv [.box g6 24 [.slice none 0 0, .slice none 0 0], .box g284 24 [.slice Akf286_0_5 mkf286_0_5 ckf286_0_5, .slice Akf286_1_5 mkf286_1_5 ckf286_1_5], .own 3 (.int .i64) (.slice Akf286_0_5 mkf286_0_5 ckf286_0_5) kf286_0_5, .own 3 (.int .i64) (.slice Akf286_1_5 mkf286_1_5 ckf286_1_5) kf286_1_5] ∧ (some (kf286_0_5, kf286_1_5, 0) : Option ((List Int) × (List Int) × Int)) = some r) (fun K371 hK371 => ?_) ?_
 refine Wc.block ?_
 refine Wc.loop (fun m E wv => ∃ (v170_5 : Int) (kf286_0_5 : List Int) (kf286_1_5 : List Int) (Akf286_0_5 : Option Addr) (mkf286_0_5 ckf286_0_5 : Nat) (Akf286_1_5 : Option Addr) (mkf286_1_5 ckf286_1_5 : Nat), E 2 = .pointer (some ⟨g6, 0, none⟩) ∧ E 3 = .int .i64 0 ∧ E 4 = .int .i64 b_0_0 ∧ E 6 = .int .i64 z26 ∧ E 19 = .pointer (some ⟨g284, 0, none⟩) ∧ E 169 = .int .i64 b_0_0 ∧ E 170 = .int .i64 v170_5 ∧ I64 v170_5 ∧ Cx (fun _ => False) O0 w wv [.box g6 24 [.slice none 0 0, .slice none 0 0], .box g284 24 [.slice Akf286_0_5 mkf286_0_5 ckf286_0_5, .slice Akf286_1_5 mkf286_1_5 ckf286_1_5], .own 3 (.int .i64) (.slice Akf286_0_5 mkf286_0_5 ckf286_0_5) kf286_0_5, .own 3 (.int .i64) (.slice Akf286_1_5 mkf286_1_5 ckf286_1_5) kf286_1_5] ∧ loopN m (F.gridlink_Braid_b5 n b_0_0 z26) (v170_5, kf286_0_5, kf286_1_5) = some o370) n ⟨0, kf286_0_4, kf286_1_4, Akf286_0_4, kf286_0_4.length, ckf286_0_4, Akf286_1_4, kf286_1_4.length, ckf286_1_4, e2, e3, e4, e6, e19, rfl, rfl, (show I64 0 from by unfold I64; omega), hC.sel [0, 1, 2, 3] (by decide), hl5⟩ ?_
 have hbK5 := hb
 clear hb hC hl5
 rintro m373 E375 w374 ⟨v170_5, kf286_0_5, kf286_1_5, Akf286_0_5, mkf286_0_5, ckf286_0_5, Akf286_1_5, mkf286_1_5, ckf286_1_5, e2, e3, e4, e6, e19, e169, e170, hrv170_5, hC, hl5⟩ K372 hK372
 obtain ⟨m373', o376, rfl, hb, hl5⟩ := loopN_some hl5
 unfold F.gridlink_Braid_b5 at hb
 obtain ⟨rfl, hlkf286_0_5, hckf286_0_5⟩ := (hC.ow (i := 2) rfl).sl_len
 obtain ⟨rfl, hlkf286_1_5, hckf286_1_5⟩ := (hC.ow (i := 3) rfl).sl_len
 refine Wc.seq fun K377 hK377 => ?_
 refine rg ?_
 refine lp (.bool (decide (v170_5 < b_0_0))) (pu_lss (k := .i64) (a := v170_5) (b := b_0_0) e170 e169) ?_
 refine ln ?_
 refine hK377 _ _ ?_
 refine Wc.seq fun K378 hK378 => ?_
 refine Wc.cond (t := (decide (v170_5 < b_0_0))) (rfl) (fun hq379 => ?_) (fun hq379 => ?_)
 replace hb := tt hq379 hb
 refine Wc.skip ?_
 refine hK378 _ _ ?_
 refine Wc.seq fun K380 hK380 => ?_
 refine Wc.block ?_
 refine Wc.seq fun K381 hK381 => ?_
 refine rg ?_
 refine lp (.int .i64 v170_5) (pu_move e170) ?_
 refine lp (.int .i64 v170_5) (pu_assign rfl) ?_
 refine ln ?_
 refine hK381 _ _ ?_
 refine Wc.seq fun K382 hK382 => ?_
 refine rg ?_
 refine lp (.int .i64 b_0_0) (pu_move e4) ?_
 obtain ⟨z383, h384, hb⟩ := bd hb
 refine lp (.int .i64 z383) (pu_subc (a := b_0_0) (b := 1) rfl rfl h384) ?_
 refine lp (.int .i64 v170_5) (pu_move rfl) ?_
 obtain ⟨z385, h386, hb⟩ := bd hb
 refine lp (.int .i64 z385) (pu_subc (a := z383) (b := v170_5) rfl rfl h386) ?_
 refine lp (.int .i64 z385) (pu_assign rfl) ?_
 refine ln ?_
 refine hK382 _ _ ?_
 refine Wc.seq fun K387 hK387 => ?_
 refine rg ?_
 refine lp (.pointer (some ((⟨g284, 0, none⟩ : Addr).add 0))) (pu_field (sz := 1) Try.underlying24 rfl Try.sizeOf22 (by decide) rfl e19) ?_
 refine lv (.slice Akf286_0_5 kf286_0_5.length ckf286_0_5) (ld_fld (hC.bx (i := 1) rfl) Try.isAgg22 rfl rfl) ?_
 refine lp (.int .i64 z26) (pu_move e6) ?_
 obtain ⟨z388, h389, hb⟩ := bd hb
 refine lp (.int .i64 z388) (pu_subc (a := z26) (b := 1) rfl rfl h389) ?_
 refine lp (.int .i64 z385) (pu_move rfl) ?_
 obtain ⟨z390, h391, hb⟩ := bd hb
 refine lp (.int .i64 z390) (pu_subc (a := z388) (b := z385) rfl rfl h391) ?_
 refine lex.op (hC.lit (s := (.int .i64)) (vs := [.int .i64 z390]) (xs := [z390]) Try.underlying22 Try.type3 rfl rfl (Nat.le_of_ble_eq_true rfl) rfl rfl (by simp [Value.cells, Sh.n]) rfl (show Elems _ _ (.int .i64) ([.int .i64 z390] ++ ([])) ([z390] : List Int) from Elems.cons (⟨rfl, I64.wr (chk_rng h391)⟩) (Elems.nil _ _ _))) ?_
 rintro _ w396 ⟨A392, c393, rfl, hl394, hc395, hC, hF, hN⟩
 clear hF hN
 obtain ⟨u398, h399, hb⟩ := bd hb
 refine lex.op (hC.app (i := 3) (s := (.int .i64)) (xs := kf286_0_5) (ys := ([z390] : List Int)) (m := ((([z390] : List Int)).length)) rfl Try.underlying22 Try.underlying22 Try.type3 rfl rfl rfl (hC.srco (i := 0) rfl) rfl rfl (by have := lim_some h399; simp at this ⊢ <;> omega) (by decide)) ?_
 rintro _ w404 ⟨A400, c401, rfl, hl402, hc403, hC, hF, hN⟩
 clear hF hN
 refine lp (.pointer (some ((⟨g284, 0, none⟩ : Addr).add 0))) (pu_field (sz := 1) Try.underlying24 rfl Try.sizeOf22 (by decide) rfl e19) ?_
 refine lex.sk (hC.setf (i := 2) (k := 0) (v := .slice A400 ((kf286_0_5 ++ ([z390] : List Int)).length) c401) rfl Try.sizeOf22 rfl rfl rfl rfl) ?_
 rintro w405 ⟨hC, hF⟩
 refine ln ?_
 refine hK387 _ _ ?_
 refine Wc.fresh fun E406 hE => ?_
 have e2 := (congrFun hE 2).trans e2
 have e3 := (congrFun hE 3).trans e3
 have e4 := (congrFun hE 4).trans e4
 have e6 := (congrFun hE 6).trans e6
 have e19 := (congrFun hE 19).trans e19
 have e22 : E406 22 = .int .i64 v170_5 := (congrFun hE 22).trans rfl
 have e23 : E406 23 = .int .i64 z385 := (congrFun hE 23).trans rfl
 have e169 := (congrFun hE 169).trans e169
 have e170 := (congrFun hE 170).trans e170
 have e171 : E406 171 = .bool (decide (v170_5 < b_0_0)) := (congrFun hE 171).trans rfl
 clear hE
 refine rg ?_
 refine lp (.pointer (some ((⟨g284, 0, none⟩ : Addr).add 1))) (pu_field (sz := 1) Try.underlying24 rfl Try.sizeOf22 (by decide) rfl e19) ?_
 refine lv (.slice Akf286_1_5 kf286_1_5.length ckf286_1_5) (ld_fld (hC.bx (i := 2) rfl) Try.isAgg22 rfl rfl) ?_
 refine lp (.int .i64 z385) (pu_move e23) ?_
 refine lex.op (hC.lit (s := (.int .i64)) (vs := [.int .i64 z385]) (xs := [z385]) Try.underlying22 Try.type3 rfl rfl (Nat.le_of_ble_eq_true rfl) rfl rfl (by simp [Value.cells, Sh.n]) rfl (show Elems _ _ (.int .i64) ([.int .i64 z385] ++ ([])) ([z385] : List Int) from Elems.cons (⟨rfl, I64.wr (chk_rng h386)⟩) (Elems.nil _ _ _))) ?_
 rintro _ w411 ⟨A407, c408, rfl, hl409, hc410, hC, hF, hN⟩
 clear hF hN
 obtain ⟨u413, h414, hb⟩ := bd hb
 refine lex.op (hC.app (i := 5) (s := (.int .i64)) (xs := kf286_1_5) (ys := ([z385] : List Int)) (m := ((([z385] : List Int)).length)) rfl Try.underlying22 Try.underlying22 Try.type3 rfl rfl rfl (hC.srco (i := 0) rfl) rfl rfl (by have := lim_some h414; simp at this ⊢ <;> omega) (by decide)) ?_
 rintro _ w419 ⟨A415, c416, rfl, hl417, hc418, hC, hF, hN⟩
 clear hF hN
 refine lp (.pointer (some ((⟨g284, 0, none⟩ : Addr).add 1))) (pu_field (sz := 1) Try.underlying24 rfl Try.sizeOf22 (by decide) rfl e19) ?_
 refine lex.sk (hC.setf (i := 3) (k := 1) (v := .slice A415 ((kf286_1_5 ++ ([z385] : List Int)).length) c416) rfl Try.sizeOf22 rfl rfl rfl rfl) ?_
 rintro w420 ⟨hC, hF⟩
 refine ln ?_
 refine hK380 _ _ ?_
 refine rg ?_
 obtain ⟨z421, h422, hb⟩ := bd hb
 refine lp (.int .i64 z421) (pu_addc (a := v170_5) (b := 1) e170 rfl h422) ?_
 refine lp (.int .i64 z421) (pu_move rfl) ?_
 refine ln ?_
 obtain rfl := os hb
 exact hK372 m373' _ _ (Nat.lt_succ_self _) ⟨z421, (kf286_0_5 ++ ([z390] : List Int)), (kf286_1_5 ++ ([z385] : List Int)), A400, (kf286_0_5 ++ ([z390] : List Int)).length, c401, A415, (kf286_1_5 ++ ([z385] : List Int)).length, c416, e2, e3, e4, e6, e19, e169, rfl, (chk_rng h422), hC.sel [2, 3, 4, 5] (by decide), lN hl5⟩
 replace hb := tf hq379 hb
 refine Wc.exit rfl ?_
 obtain rfl := os hb
 obtain rfl := (lX hl5).symm
 exact hK371 _ _ ⟨v170_5, kf286_0_5, kf286_1_5, Akf286_0_5, kf286_0_5.length, ckf286_0_5, Akf286_1_5, kf286_1_5.length, ckf286_1_5, e2, e3, e19, hrv170_5, hC.sel [0, 1, 2, 3] (by decide), hbK5⟩
 clear hb hC hl5
 rintro E424 w423 ⟨v170_5, kf286_0_5, kf286_1_5, Akf286_0_5, mkf286_0_5, ckf286_0_5, Akf286_1_5, mkf286_1_5, ckf286_1_5, e2, e3, e19, hrv170_5, hC, hb⟩
 obtain ⟨rfl, hlkf286_0_5, hckf286_0_5⟩ := (hC.ow (i := 2) rfl).sl_len
 obtain ⟨rfl, hlkf286_1_5, hckf286_1_5⟩ := (hC.ow (i := 3) rfl).sl_len
 refine hK368 _ _ ?_
 refine Wc.seq fun K425 hK425 => ?_
 refine rg ?_
 refine lv (.agg #[.slice Akf286_0_5 kf286_0_5.length ckf286_0_5, .slice Akf286_1_5 kf286_1_5.length ckf286_1_5]) (ld_blk (hC.bx (i := 1) rfl) Try.isAgg24 Try.sizeOf24 e19) ?_
 refine lex.sk (hC.seta (i := 0) (ds := [.slice Akf286_0_5 kf286_0_5.length ckf286_0_5, .slice Akf286_1_5 kf286_1_5.length ckf286_1_5]) rfl Try.type24 rfl rfl rfl e2 rfl) ?_
 rintro w426 ⟨hC, hF⟩
 refine lp (.int .i64 0) (pu_assign rfl) ?_
 refine ln ?_
 refine hK425 _ _ ?_
 obtain rfl := os hb
 refine Wc.ret ?_
 refine hKR _ _ ?_
 refine ⟨_, res2 Try.results18 ⟨_, e2, loadVar_blk (hC.bx (i := 0) rfl) Try.isAgg24 Try.sizeOf24⟩ (show RV _ _ _ (.tmp _) (.int .i64 0) from rfl), _, rfl, Akf286_0_5, kf286_0_5.length, ckf286_0_5, Akf286_1_5, kf286_1_5.length, ckf286_1_5, rfl, (show I64 0 from by unfold I64; omega), hC.sel [2, 3] (by decide)⟩
 refine mixPE_chain ?_
 refine mixE.op hM (hC.alloc (cs := [.slice none 0 0, .slice none 0 0]) Try.zeroValue24 rfl) ?_
 rintro _ w428 ⟨g427, rfl, hC, hF, hG⟩
 have hUf429 : g427 < w267.heap.size → g427 ∈ blocks (([] : List Fact) ++ ([] : List Fact)) := fun h => absurd (Nat.lt_of_lt_of_le h (Nat.le_trans hM.size hG)) (Nat.lt_irrefl _)
 clear hG
 replace hM := hM.none hF
 replace hD := hM.wide (H := ([] : List Fact))
 refine ⟨hM, ?_⟩
 refine mixE.nil ?_
 refine mixPE_chain ?_
 obtain ⟨u276, h431, hb⟩ := bd hb
 refine mixE.op hM (hC.make0 (s := (.int .i64)) (n := z26) Try.underlying22 Try.type3 rfl rfl rfl rfl (pos_some h431).1 (pos_some h431).2 (by decide)) ?_
 rintro _ w436 ⟨A432, c433, rfl, hl434, hc435, hC, hF, hN⟩
 have hBf437 := Beside.new hM hN
 have hUf437 := Beside.new (hM.wide (H := ([] : List Fact))) hN
 replace hM := hM.none hF
 replace hD := hM.wide (H := ([] : List Fact))
 refine ⟨hM, ?_⟩
 clear hF hN
 refine mp (.agg #[.slice A270 ((([] : List Int)).length) c271, .slice A432 ((([] : List Int)).length) c433]) (pu_builds (places := [(0, 1), (1, 1)]) (pv := [(0, .slice A270 ((([] : List Int)).length) c271), (1, .slice A432 ((([] : List Int)).length) c433)]) Try.type24 Try.underlying24 rfl (mp_cons Try.type22 (mp_cons Try.type22 mp_nil rfl rfl) rfl rfl) rfl (by simp [Instr.fill, Value.cells])) ?_
 refine mixE.sk hD (hC.seta (i := 1) (ds := [.slice A270 ((([] : List Int)).length) c271, .slice A432 ((([] : List Int)).length) c433]) rfl Try.type24 rfl rfl rfl rfl rfl) ?_
 rintro w438 ⟨hC, hF⟩
 replace hD := hD.besideG hUf429 hF
 clear hF
 refine ⟨hD, ?_⟩
 refine mixE.nil ?_
 clear hS hM
 clear hD
 refine hK265 _ _ ?_
 refine Wc.seq fun K439 hK439 => ?_
 refine Wc.seq fun K440 hK440 => ?_
 refine rg ?_
 refine lp (.slice Al8_1 l8_1.length cl8_1) (pu_move e8) ?_
 refine lp (.int .i64 (l8_1.length : Int)) (pu_len (A := Al8_1) (n := l8_1.length) (m := cl8_1) Try.underlying22 rfl) ?_
 refine lp (.int .i64 0) (pu_move rfl) ?_
 refine ln ?_
 refine hK440 _ _ ?_
 obtain ⟨o290, hl4, hb⟩ := bd hb
 refine Wc.cut (fun E wv => ∃ (v144_4 : Int) (kf286_0_4 : List Int) (kf286_1_4 : List Int) (Akf429_0_4 : Option Addr) (mkf429_0_4 ckf429_0_4 : Nat) (Akf429_1_4 : Option Addr) (mkf429_1_4 ckf429_1_4 : Nat), E 2 = .pointer (some ⟨g6, 0, none⟩) ∧ E 3 = .int .i64 0 ∧ E 4 = .int .i64 b_0_0 ∧ E 6 = .int .i64 z26 ∧ E 19 = .pointer (some ⟨g427, 0, none⟩) ∧ I64 v144_4 ∧ Cx (fun _ => False) O0 w wv [.box g6 24 [.slice none 0 0, .slice none 0 0], .box g427 24 [.slice Akf429_0_4 mkf429_0_4 ckf429_0_4, .slice Akf429_1_4 mkf429_1_4 ckf429_1_4], .own 3 (.int .i64) (.slice Akf429_0_4 mkf429_0_4 ckf429_0_4) kf286_0_4, .own 3 (.int .i64) (.slice Akf429_1_4 mkf429_1_4 ckf429_1_4) kf286_1_4] ∧ (((loopN n (F.gridlink_Braid_b5 n b_0_0 z26) (0, kf286_0_4, kf286_1_4)).bind fun o370 => match o370 with     | (v170_5, kf286_0_5, kf286_1_5) => some (kf286_0_5, kf286_1_5, 0)) : Option ((List Int) × (List Int) × Int)) = some r) (fun K442 hK442 => ?_) ?_
 refine Wc.block ?_
 refine Wc.loop (fun m E wv => ∃ (v144_4 : Int) (kf286_0_4 : List Int) (kf286_1_4 : List Int) (Akf429_0_4 : Option Addr) (mkf429_0_4 ckf429_0_4 : Nat) (Akf429_1_4 : Option Addr) (mkf429_1_4 ckf429_1_4 : Nat), E 2 = .pointer (some ⟨g6, 0, none⟩) ∧ E 3 = .int .i64 0 ∧ E 4 = .int .i64 b_0_0 ∧ E 6 = .int .i64 z26 ∧ E 7 = .slice Al7_1 l7_1.length cl7_1 ∧ E 19 = .pointer (some ⟨g427, 0, none⟩) ∧ E 142 = .slice Al8_1 l8_1.length cl8_1 ∧ E 143 = .int .i64 (l8_1.length : Int) ∧ E 144 = .int .i64 v144_4 ∧ I64 v144_4 ∧ Cx (fun _ => False) O0 w wv [.box g6 24 [.slice none 0 0, .slice none 0 0], .own 67 (.pr (.int .i64) (.int .i64)) (.slice Al7_1 l7_1.length cl7_1) qF7_1_3, .box g427 24 [.slice Akf429_0_4 mkf429_0_4 ckf429_0_4, .slice Akf429_1_4 mkf429_1_4 ckf429_1_4], .own 3 (.int .i64) (.slice Akf429_0_4 mkf429_0_4 ckf429_0_4) kf286_0_4, .own 3 (.int .i64) (.slice Akf429_1_4 mkf429_1_4 ckf429_1_4) kf286_1_4, .own 3 (.int .i64) (.slice Al8_1 l8_1.length cl8_1) l8_1] ∧ loopN m (F.gridlink_Braid_b4 n l8_1 qF7_1_3) (v144_4, kf286_0_4, kf286_1_4) = some o290) n ⟨0, ([] : List Int), ([] : List Int), A270, (([] : List Int)).length, c271, A432, (([] : List Int)).length, c433, e2, e3, e4, e6, e7, rfl, rfl, rfl, rfl, (show I64 0 from by unfold I64; omega), hC.sel [3, 4, 1, 2, 0, 5] (by decide), hl4⟩ ?_
 have hbK4 := hb
 clear hb hC hl4
 rintro m444 E446 w445 ⟨v144_4, kf286_0_4, kf286_1_4, Akf429_0_4, mkf429_0_4, ckf429_0_4, Akf429_1_4, mkf429_1_4, ckf429_1_4, e2, e3, e4, e6, e7, e19, e142, e143, e144, hrv144_4, hC, hl4⟩ K443 hK443
 obtain ⟨m444', o447, rfl, hb, hl4⟩ := loopN_some hl4
 unfold F.gridlink_Braid_b4 at hb
 obtain ⟨rfl, hlkf429_0_4, hckf429_0_4⟩ := (hC.ow (i := 3) rfl).sl_len
 obtain ⟨rfl, hlkf429_1_4, hckf429_1_4⟩ := (hC.ow (i := 4) rfl).sl_len
 refine Wc.seq fun K448 hK448 => ?_
 refine rg ?_
 refine lp (.bool (decide (v144_4 < (l8_1.length : Int)))) (pu_lss (k := .i64) (a := v144_4) (b := (l8_1.length : Int)) e144 e143) ?_
 refine ln ?_
 refine hK448 _ _ ?_
 refine Wc.seq fun K449 hK449 => ?_
 refine Wc.cond (t := (decide (v144_4 < (l8_1.length : Int)))) (rfl) (fun hq450 => ?_) (fun hq450 => ?_)
 replace hb := tt hq450 hb
 refine Wc.skip ?_
 refine hK449 _ _ ?_
 refine Wc.seq fun K451 hK451 => ?_
 refine Wc.block ?_
 refine Wc.seq fun K452 hK452 => ?_
 refine rg ?_
 obtain ⟨x302, h454, hb⟩ := bd hb
 obtain ⟨ad455, cs456, hA, hc457, hr458⟩ := hC.elo (i := 5) rfl (get_some h454).2
 subst hA
 refine lp (.pointer (some (ad455.add (v144_4.toNat * 1)))) (pu_index (a := v144_4) Try.underlying22 Try.sizeOf3 e142 e144 (get_some h454).1) ?_
 obtain ⟨rfl, hr458'⟩ := hr458
 refine lv (.int .i64 x302) (ld_one Try.isAgg3 rfl (hc457 0 _ rfl)) ?_
 refine lp (.int .i64 x302) (pu_assign rfl) ?_
 refine ln ?_
 refine hK452 _ _ ?_
 refine Wc.seq fun K459 hK459 => ?_
 refine Wc.regionMix [154] (frm [154] [.own 3 (.int .i64) (.slice Akf429_0_4 kf286_0_4.length ckf429_0_4) kf286_0_4] [.box g427 24 [.slice Akf429_0_4 kf286_0_4.length ckf429_0_4, .slice Akf429_1_4 kf286_1_4.length ckf429_1_4]]) (fun _ => rfl) mixed (by decide +kernel) (by decide +kernel) fun w461 hw460 => ?_
 replace hC := hC.step (Fr.of_drew hw460)
 have hM := Fr.refl (fun k => k ∈ blocks [.own 3 (.int .i64) (.slice Akf429_0_4 kf286_0_4.length ckf429_0_4) kf286_0_4]) w461
 clear hw460
 have hS := hC
 have hBFf429_0_4 : Beside [.own 3 (.int .i64) (.slice Akf429_0_4 kf286_0_4.length ckf429_0_4) kf286_0_4] w461 (.slice Akf429_0_4 kf286_0_4.length ckf429_0_4) := Beside.of (i := 0) rfl
 have hD : Fr (fun k => k ∈ blocks ([.own 3 (.int .i64) (.slice Akf429_0_4 kf286_0_4.length ckf429_0_4) kf286_0_4] ++ [.box g427 24 [.slice Akf429_0_4 kf286_0_4.length ckf429_0_4, .slice Akf429_1_4 kf286_1_4.length ckf429_1_4]])) w461 w461 := hM.wide
 have hUFf429_0_4 : Beside ([.own 3 (.int .i64) (.slice Akf429_0_4 kf286_0_4.length ckf429_0_4) kf286_0_4] ++ [.box g427 24 [.slice Akf429_0_4 kf286_0_4.length ckf429_0_4, .slice Akf429_1_4 kf286_1_4.length ckf429_1_4]]) w461 (.slice Akf429_0_4 kf286_0_4.length ckf429_0_4) := Beside.of (i := 0) rfl
 have hUf429 : g427 < w461.heap.size → g427 ∈ blocks ([.own 3 (.int .i64) (.slice Akf429_0_4 kf286_0_4.length ckf429_0_4) kf286_0_4] ++ [.box g427 24 [.slice Akf429_0_4 kf286_0_4.length ckf429_0_4, .slice Akf429_1_4 kf286_1_4.length ckf429_1_4]]) := fun _ => box_in (i := 1) rfl
 refine mp (.pointer (some ((⟨g427, 0, none⟩ : Addr).add 0))) (pu_field (sz := 1) Try.underlying24 rfl Try.sizeOf22 (by decide) rfl e19) ?_
 refine mixE.load hM (v := .slice Akf429_0_4 kf286_0_4.length ckf429_0_4) (fun _ hF => ld_fld (hS.bx2 (i := 2) rfl [3] (by decide) hF) Try.isAgg22 rfl rfl) ?_
 refine mp (.slice Al7_1 l7_1.length cl7_1) (pu_move e7) ?_
 refine mp (.int .i64 x302) (pu_move rfl) ?_
 obtain ⟨x311, h463, hb⟩ := bd hb
 obtain ⟨ad464, cs465, hA, ho468, hc466, hr467⟩ := hS.elo2 (i := 1) rfl (get_some h463).2 [3, 2] (by decide)
 subst hA
 refine mp (.pointer (some (ad464.add (x302.toNat * 2)))) (pu_index (a := x302) Try.underlying33 Try.sizeOf67 rfl rfl (by rw [(hC.ow (i := 1) rfl).sl_len.1]; exact (get_some h463).1)) ?_
 obtain ⟨k469, k470, rfl, hr471, hr472⟩ := hr467
 obtain ⟨rfl, hr471⟩ := hr471
 obtain ⟨rfl, hr472⟩ := hr472
 refine mp (.pointer (some ((ad464.add (x302.toNat * 2)).add 0))) (pu_ixa (A := (ad464.add (x302.toNat * 2))) (a := 0) (sz := 1) Try.underlying67 Try.sizeOf3 rfl rfl (by decide)) ?_
 refine mixE.steady hD (v := .int .i64 x311.1) (fun _ hF => ld_one Try.isAgg3 rfl (hF.cell (hc466 0 _ rfl) (off2 ho468))) ?_
 refine mixE.op hM (hC.lit (s := (.int .i64)) (vs := [.int .i64 x311.1]) (xs := [x311.1]) Try.underlying22 Try.type3 rfl rfl (Nat.le_of_ble_eq_true rfl) rfl rfl (by simp [Value.cells, Sh.n]) rfl (show Elems _ _ (.int .i64) ([.int .i64 x311.1] ++ ([])) ([x311.1] : List Int) from Elems.cons (⟨rfl, I64.wr (wrap_I64 hr471)⟩) (Elems.nil _ _ _))) ?_
 rintro _ w477 ⟨A473, c474, rfl, hl475, hc476, hC, hF, hN⟩
 have hBf478 := Beside.new hM hN
 have hUf478 := Beside.new (hM.wide (H := [.box g427 24 [.slice Akf429_0_4 kf286_0_4.length ckf429_0_4, .slice Akf429_1_4 kf286_1_4.length ckf429_1_4]])) hN
 replace hM := hM.none hF
 replace hD := hM.wide (H := [.box g427 24 [.slice Akf429_0_4 kf286_0_4.length ckf429_0_4, .slice Akf429_1_4 kf286_1_4.length ckf429_1_4]])
 refine ⟨hM, ?_⟩
 clear hF hN
 obtain ⟨u328, h480, hb⟩ := bd hb
 refine mixE.op hM (hC.app (i := 4) (s := (.int .i64)) (xs := kf286_0_4) (ys := ([x311.1] : List Int)) (m := ((([x311.1] : List Int)).length)) rfl Try.underlying22 Try.underlying22 Try.type3 rfl rfl rfl (hC.srco (i := 0) rfl) rfl rfl (by have := lim_some h480; simp at this ⊢ <;> omega) (by decide)) ?_
 rintro _ w485 ⟨A481, c482, rfl, hl483, hc484, hC, hF, hN⟩
 have hB := hBFf429_0_4
 replace hBFf429_0_4 := hB.app hM hN
 replace hM := hM.beside hB hF
 clear hB
 replace hD := hM.wide (H := [.box g427 24 [.slice Akf429_0_4 kf286_0_4.length ckf429_0_4, .slice Akf429_1_4 kf286_1_4.length ckf429_1_4]])
 refine ⟨hM, ?_⟩
 clear hF hN
 refine mp (.pointer (some ((⟨g427, 0, none⟩ : Addr).add 0))) (pu_field (sz := 1) Try.underlying24 rfl Try.sizeOf22 (by decide) rfl e19) ?_
 refine mixE.sk hD (hC.setf (i := 3) (k := 0) (v := .slice A481 ((kf286_0_4 ++ ([x311.1] : List Int)).length) c482) rfl Try.sizeOf22 rfl rfl rfl rfl) ?_
 rintro w486 ⟨hC, hF⟩
 replace hD := hD.besideG hUf429 hF
 clear hF
 refine ⟨hD, ?_⟩
 refine mixE.nil ?_
 clear hS hM
 clear hD
 refine hK459 _ _ ?_
 refine Wc.fresh fun E487 hE => ?_
 have e2 := (congrFun hE 2).trans e2
 have e3 := (congrFun hE 3).trans e3
 have e4 := (congrFun hE 4).trans e4
 have e6 := (congrFun hE 6).trans e6
 have e7 := (congrFun hE 7).trans e7
 have e19 := (congrFun hE 19).trans e19
 have e21 : E487 21 = .int .i64 x302 := (congrFun hE 21).trans rfl
 have e142 := (congrFun hE 142).trans e142
 have e143 := (congrFun hE 143).trans e143
 have e144 := (congrFun hE 144).trans e144
 have e145 : E487 145 = .bool (decide (v144_4 < (l8_1.length : Int))) := (congrFun hE 145).trans rfl
 clear hE
 refine Wc.regionMix [164] (frm [164] [.own 3 (.int .i64) (.slice Akf429_1_4 kf286_1_4.length ckf429_1_4) kf286_1_4] [.box g427 24 [.slice A481 ((kf286_0_4 ++ ([x311.1] : List Int)).length) c482, .slice Akf429_1_4 kf286_1_4.length ckf429_1_4]]) (fun _ => rfl) mixed (by decide +kernel) (by decide +kernel) fun w489 hw488 => ?_
 replace hC := hC.step (Fr.of_drew hw488)
 have hM := Fr.refl (fun k => k ∈ blocks [.own 3 (.int .i64) (.slice Akf429_1_4 kf286_1_4.length ckf429_1_4) kf286_1_4]) w489
 clear hw488
 have hS := hC
 have hBFf429_1_4 : Beside [.own 3 (.int .i64) (.slice Akf429_1_4 kf286_1_4.length ckf429_1_4) kf286_1_4] w489 (.slice Akf429_1_4 kf286_1_4.length ckf429_1_4) := Beside.of (i := 0) rfl
 have hD : Fr (fun k => k ∈ blocks ([.own 3 (.int .i64) (.slice Akf429_1_4 kf286_1_4.length ckf429_1_4) kf286_1_4] ++ [.box g427 24 [.slice A481 ((kf286_0_4 ++ ([x311.1] : List Int)).length) c482, .slice Akf429_1_4 kf286_1_4.length ckf429_1_4]])) w489 w489 := hM.wide
 have hUFf429_1_4 : Beside ([.own 3 (.int .i64) (.slice Akf429_1_4 kf286_1_4.length ckf429_1_4) kf286_1_4] ++ [.box g427 24 [.slice A481 ((kf286_0_4 ++ ([x311.1] : List Int)).length) c482, .slice Akf429_1_4 kf286_1_4.length ckf429_1_4]]) w489 (.slice Akf429_1_4 kf286_1_4.length ckf429_1_4) := Beside.of (i := 0) rfl
 have hUf429 : g427 < w489.heap.size → g427 ∈ blocks ([.own 3 (.int .i64) (.slice Akf429_1_4 kf286_1_4.length ckf429_1_4) kf286_1_4] ++ [.box g427 24 [.slice A481 ((kf286_0_4 ++ ([x311.1] : List Int)).length) c482, .slice Akf429_1_4 kf286_1_4.length ckf429_1_4]]) := fun _ => box_in (i := 1) rfl
 refine mp (.pointer (some ((⟨g427, 0, none⟩ : Addr).add 1))) (pu_field (sz := 1) Try.underlying24 rfl Try.sizeOf22 (by decide) rfl e19) ?_
 refine mixE.load hM (v := .slice Akf429_1_4 kf286_1_4.length ckf429_1_4) (fun _ hF => ld_fld (hS.bx2 (i := 3) rfl [5] (by decide) hF) Try.isAgg22 rfl rfl) ?_
 refine mp (.slice (some ad464) l7_1.length cl7_1) (pu_move e7) ?_
 refine mp (.int .i64 x302) (pu_move e21) ?_
 obtain ⟨x339, h491, hb⟩ := bd hb
 obtain ⟨ad492, cs493, hA, ho496, hc494, hr495⟩ := hS.elo2 (i := 2) rfl (get_some h491).2 [5, 3] (by decide)
 obtain rfl := Option.some.inj hA
 refine mp (.pointer (some (ad464.add (x302.toNat * 2)))) (pu_index (a := x302) Try.underlying33 Try.sizeOf67 rfl rfl (by rw [(hC.ow (i := 2) rfl).sl_len.1]; exact (get_some h491).1)) ?_
 obtain ⟨k497, k498, rfl, hr499, hr500⟩ := hr495
 obtain ⟨rfl, hr499⟩ := hr499
 obtain ⟨rfl, hr500⟩ := hr500
 refine mp (.pointer (some ((ad464.add (x302.toNat * 2)).add 1))) (pu_ixa (A := (ad464.add (x302.toNat * 2))) (a := 1) (sz := 1) Try.underlying67 Try.sizeOf3 rfl rfl (by decide)) ?_
 refine mixE.steady hD (v := .int .i64 x339.2) (fun _ hF => ld_one Try.isAgg3 rfl (hF.cell (hc494 1 _ rfl) (off2 ho496))) ?_
 refine mixE.op hM (hC.lit (s := (.int .i64)) (vs := [.int .i64 x339.2]) (xs := [x339.2]) Try.underlying22 Try.type3 rfl rfl (Nat.le_of_ble_eq_true rfl) rfl rfl (by simp [Value.cells, Sh.n]) rfl (show Elems _ _ (.int .i64) ([.int .i64 x339.2] ++ ([])) ([x339.2] : List Int) from Elems.cons (⟨rfl, I64.wr (wrap_I64 hr500)⟩) (Elems.nil _ _ _))) ?_
 rintro _ w505 ⟨A501, c502, rfl, hl503, hc504, hC, hF, hN⟩
 have hBf506 := Beside.new hM hN
 have hUf506 := Beside.new (hM.wide (H := [.box g427 24 [.slice A481 ((kf286_0_4 ++ ([x311.1] : List Int)).length) c482, .slice Akf429_1_4 kf286_1_4.length ckf429_1_4]])) hN
 replace hM := hM.none hF
 replace hD := hM.wide (H := [.box g427 24 [.slice A481 ((kf286_0_4 ++ ([x311.1] : List Int)).length) c482, .slice Akf429_1_4 kf286_1_4.length ckf429_1_4]])
 refine ⟨hM, ?_⟩
 clear hF hN
 obtain ⟨u356, h508, hb⟩ := bd hb
 refine mixE.op hM (hC.app (i := 6) (s := (.int .i64)) (xs := kf286_1_4) (ys := ([x339.2] : List Int)) (m := ((([x339.2] : List Int)).length)) rfl Try.underlying22 Try.underlying22 Try.type3 rfl rfl rfl (hC.srco (i := 0) rfl) rfl rfl (by have := lim_some h508; simp at this ⊢ <;> omega) (by decide)) ?_
 rintro _ w513 ⟨A509, c510, rfl, hl511, hc512, hC, hF, hN⟩
 have hB := hBFf429_1_4
 replace hBFf429_1_4 := hB.app hM hN
 replace hM := hM.beside hB hF
 clear hB
 replace hD := hM.wide (H := [.box g427 24 [.slice A481 ((kf286_0_4 ++ ([x311.1] : List Int)).length) c482, .slice Akf429_1_4 kf286_1_4.length ckf429_1_4]])
 refine ⟨hM, ?_⟩
 clear hF hN
 refine mp (.pointer (some ((⟨g427, 0, none⟩ : Addr).add 1))) (pu_field (sz := 1) Try.underlying24 rfl Try.sizeOf22 (by decide) rfl e19) ?_
 refine mixE.sk hD (hC.setf (i := 4) (k := 1) (v := .slice A509 ((kf286_1_4 ++ ([x339.2] : List Int)).length) c510) rfl Try.sizeOf22 rfl rfl rfl rfl) ?_
 rintro w514 ⟨hC, hF⟩
 replace hD := hD.besideG hUf429 hF
 clear hF
 refine ⟨hD, ?_⟩
 refine mixE.nil ?_
 clear hS hM
 clear hD
 refine hK451 _ _ ?_
 refine rg ?_
 obtain ⟨z364, h516, hb⟩ := bd hb
 refine lp (.int .i64 z364) (pu_addc (a := v144_4) (b := 1) e144 rfl h516) ?_
 refine lp (.int .i64 z364) (pu_move rfl) ?_
 refine ln ?_
 obtain rfl := os hb
 exact hK443 m444' _ _ (Nat.lt_succ_self _) ⟨z364, (kf286_0_4 ++ ([x311.1] : List Int)), (kf286_1_4 ++ ([x339.2] : List Int)), A481, (kf286_0_4 ++ ([x311.1] : List Int)).length, c482, A509, (kf286_1_4 ++ ([x339.2] : List Int)).length, c510, e2, e3, e4, e6, e7, e19, e142, e143, rfl, (chk_rng h516), hC.sel [2, 3, 4, 5, 6, 7] (by decide), lN hl4⟩
 replace hb := tf hq450 hb
 refine Wc.exit rfl ?_
 obtain rfl := os hb
 obtain rfl := (lX hl4).symm
 exact hK442 _ _ ⟨v144_4, kf286_0_4, kf286_1_4, Akf429_0_4, kf286_0_4.length, ckf429_0_4, Akf429_1_4, kf286_1_4.length, ckf429_1_4, e2, e3, e4, e6, e19, hrv144_4, hC.sel [0, 2, 3, 4] (by decide), hbK4⟩
 clear hb hC hl4
 rintro E518 w517 ⟨v144_4, kf286_0_4, kf286_1_4, Akf429_0_4, mkf429_0_4, ckf429_0_4, Akf429_1_4, mkf429_1_4, ckf429_1_4, e2, e3, e4, e6, e19, hrv144_4, hC, hb⟩
 obtain ⟨rfl, hlkf429_0_4, hckf429_0_4⟩ := (hC.ow (i := 2) rfl).sl_len
 obtain ⟨rfl, hlkf429_1_4, hckf429_1_4⟩ := (hC.ow (i := 3) rfl).sl_len
 refine hK439 _ _ ?_
 refine Wc.seq fun K519 hK519 => ?_
 refine Wc.seq fun K520 hK520 => ?_
 refine rg ?_
 refine lp (.int .i64 b_0_0) (pu_move e4) ?_
 refine lp (.int .i64 0) (pu_move rfl) ?_
 refine ln ?_
 refine hK520 _ _ ?_
 obtain ⟨o370, hl5, hb⟩ := bd hb
 refine Wc.cut (fun E wv => ∃ (v170_5 : Int) (kf286_0_5 : List Int) (kf286_1_5 : List Int) (Akf429_0_5 : Option Addr) (mkf429_0_5 ckf429_0_5 : Nat) (Akf429_1_5 : Option Addr) (mkf429_1_5 ckf429_1_5 : Nat), E 2 = .pointer (some ⟨g6, 0, none⟩) ∧ E 3 = .int .i64 0 ∧ E 19 = .pointer (some ⟨g427, 0, none⟩) ∧ I64 v170_5 ∧ Cx (fun _ => False) O0 w wv [.box g6 24 [.slice none 0 0, .slice none 0 0], .box g427 24 [.slice Akf429_0_5 mkf429_0_5 ckf429_0_5, .slice Akf429_1_5 mkf429_1_5 ckf429_1_5], .own 3 (.int .i64) (.slice Akf429_0_5 mkf429_0_5 ckf429_0_5) kf286_0_5, .own 3 (.int .i64) (.slice Akf429_1_5 mkf429_1_5 ckf429_1_5) kf286_1_5] ∧ (some (kf286_0_5, kf286_1_5, 0) : Option ((List Int) × (List Int) × Int)) = some r) (fun K522 hK522 => ?_) ?_
 refine Wc.block ?_
 refine Wc.loop (fun m E wv => ∃ (v170_5 : Int) (kf286_0_5 : List Int) (kf286_1_5 : List Int) (Akf429_0_5 : Option Addr) (mkf429_0_5 ckf429_0_5 : Nat) (Akf429_1_5 : Option Addr) (mkf429_1_5 ckf429_1_5 : Nat), E 2 = .pointer (some ⟨g6, 0, none⟩) ∧ E 3 = .int .i64 0 ∧ E 4 = .int .i64 b_0_0 ∧ E 6 = .int .i64 z26 ∧ E 19 = .pointer (some ⟨g427, 0, none⟩) ∧ E 169 = .int .i64 b_0_0 ∧ E 170 = .int .i64 v170_5 ∧ I64 v170_5 ∧ Cx (fun _ => False) O0 w wv [.box g6 24 [.slice none 0 0, .slice none 0 0], .box g427 24 [.slice Akf429_0_5 mkf429_0_5 ckf429_0_5, .slice Akf429_1_5 mkf429_1_5 ckf429_1_5], .own 3 (.int .i64) (.slice Akf429_0_5 mkf429_0_5 ckf429_0_5) kf286_0_5, .own 3 (.int .i64) (.slice Akf429_1_5 mkf429_1_5 ckf429_1_5) kf286_1_5] ∧ loopN m (F.gridlink_Braid_b5 n b_0_0 z26) (v170_5, kf286_0_5, kf286_1_5) = some o370) n ⟨0, kf286_0_4, kf286_1_4, Akf429_0_4, kf286_0_4.length, ckf429_0_4, Akf429_1_4, kf286_1_4.length, ckf429_1_4, e2, e3, e4, e6, e19, rfl, rfl, (show I64 0 from by unfold I64; omega), hC.sel [0, 1, 2, 3] (by decide), hl5⟩ ?_
 have hbK5 := hb
 clear hb hC hl5
 rintro m524 E526 w525 ⟨v170_5, kf286_0_5, kf286_1_5, Akf429_0_5, mkf429_0_5, ckf429_0_5, Akf429_1_5, mkf429_1_5, ckf429_1_5, e2, e3, e4, e6, e19, e169, e170, hrv170_5, hC, hl5⟩ K523 hK523
 obtain ⟨m524', o527, rfl, hb, hl5⟩ := loopN_some hl5
 unfold F.gridlink_Braid_b5 at hb
 obtain ⟨rfl, hlkf429_0_5, hckf429_0_5⟩ := (hC.ow (i := 2) rfl).sl_len
 obtain ⟨rfl, hlkf429_1_5, hckf429_1_5⟩ := (hC.ow (i := 3) rfl).sl_len
 refine Wc.seq fun K528 hK528 => ?_
 refine rg ?_
 refine lp (.bool (decide (v170_5 < b_0_0))) (pu_lss (k := .i64) (a := v170_5) (b := b_0_0) e170 e169) ?_
 refine ln ?_
 refine hK528 _ _ ?_
 refine Wc.seq fun K529 hK529 => ?_
 refine Wc.cond (t := (decide (v170_5 < b_0_0))) (rfl) (fun hq530 => ?_) (fun hq530 => ?_)
 replace hb := tt hq530 hb
 refine Wc.skip ?_
 refine hK529 _ _ ?_
 refine Wc.seq fun K531 hK531 => ?_
 refine Wc.block ?_
 refine Wc.seq fun K532 hK532 => ?_
 refine rg ?_
 refine lp (.int .i64 v170_5) (pu_move e170) ?_
 refine lp (.int .i64 v170_5) (pu_assign rfl) ?_
 refine ln ?_
 refine hK532 _ _ ?_
 refine Wc.seq fun K533 hK533 => ?_
 refine rg ?_
 refine lp (.int .i64 b_0_0) (pu_move e4) ?_
 obtain ⟨z383, h535, hb⟩ := bd hb
 refine lp (.int .i64 z383) (pu_subc (a := b_0_0) (b := 1) rfl rfl h535) ?_
 refine lp (.int .i64 v170_5) (pu_move rfl) ?_
 obtain ⟨z385, h537, hb⟩ := bd hb
 refine lp (.int .i64 z385) (pu_subc (a := z383) (b := v170_5) rfl rfl h537) ?_
 refine lp (.int .i64 z385) (pu_assign rfl) ?_
 refine ln ?_
 refine hK533 _ _ ?_
 refine Wc.seq fun K538 hK538 => ?_
 refine rg ?_
 refine lp (.pointer (some ((⟨g427, 0, none⟩ : Addr).add 0))) (pu_field (sz := 1) Try.underlying24 rfl Try.sizeOf22 (by decide) rfl e19) ?_
 refine lv (.slice Akf429_0_5 kf286_0_5.length ckf429_0_5) (ld_fld (hC.bx (i := 1) rfl) Try.isAgg22 rfl rfl) ?_
 refine lp (.int .i64 z26) (pu_move e6) ?_
 obtain ⟨z388, h540, hb⟩ := bd hb
 refine lp (.int .i64 z388) (pu_subc (a := z26) (b := 1) rfl rfl h540) ?_
 refine lp (.int .i64 z385) (pu_move rfl) ?_
 obtain ⟨z390, h542, hb⟩ := bd hb
 refine lp (.int .i64 z390) (pu_subc (a := z388) (b := z385) rfl rfl h542) ?_
 refine lex.op (hC.lit (s := (.int .i64)) (vs := [.int .i64 z390]) (xs := [z390]) Try.underlying22 Try.type3 rfl rfl (Nat.le_of_ble_eq_true rfl) rfl rfl (by simp [Value.cells, Sh.n]) rfl (show Elems _ _ (.int .i64) ([.int .i64 z390] ++ ([])) ([z390] : List Int) from Elems.cons (⟨rfl, I64.wr (chk_rng h542)⟩) (Elems.nil _ _ _))) ?_
 rintro _ w547 ⟨A543, c544, rfl, hl545, hc546, hC, hF, hN⟩
 clear hF hN
 obtain ⟨u398, h550, hb⟩ := bd hb
 refine lex.op (hC.app (i := 3) (s := (.int .i64)) (xs := kf286_0_5) (ys := ([z390] : List Int)) (m := ((([z390] : List Int)).length)) rfl Try.underlying22 Try.underlying22 Try.type3 rfl rfl rfl (hC.srco (i := 0) rfl) rfl rfl (by have := lim_some h550; simp at this ⊢ <;> omega) (by decide)) ?_
 rintro _ w555 ⟨A551, c552, rfl, hl553, hc554, hC, hF, hN⟩
 clear hF hN
 refine lp (.pointer (some ((⟨g427, 0, none⟩ : Addr).add 0))) (pu_field (sz := 1) Try.underlying24 rfl Try.sizeOf22 (by decide) rfl e19) ?_
 refine lex.sk (hC.setf (i := 2) (k := 0) (v := .slice A551 ((kf286_0_5 ++ ([z390] : List Int)).length) c552) rfl Try.sizeOf22 rfl rfl rfl rfl) ?_
 rintro w556 ⟨hC, hF⟩
 refine ln ?_
 refine hK538 _ _ ?_
 refine Wc.fresh fun E557 hE => ?_
 have e2 := (congrFun hE 2).trans e2
 have e3 := (congrFun hE 3).trans e3
 have e4 := (congrFun hE 4).trans e4
 have e6 := (congrFun hE 6).trans e6
 have e19 := (congrFun hE 19).trans e19
 have e22 : E557 22 = .int .i64 v170_5 := (congrFun hE 22).trans rfl
 have e23 : E557 23 = .int .i64 z385 := (congrFun hE 23).trans rfl
 have e169 := (congrFun hE 169).trans e169
 have e170 := (congrFun hE 170).trans e170
 have e171 : E557 171 = .bool (decide (v170_5 < b_0_0)) := (congrFun hE 171).trans rfl
 clear hE
 refine rg ?_
 refine lp (.pointer (some ((⟨g427, 0, none⟩ : Addr).add 1))) (pu_field (sz := 1) Try.underlying24 rfl Try.sizeOf22 (by decide) rfl e19) ?_
 refine lv (.slice Akf429_1_5 kf286_1_5.length ckf429_1_5) (ld_fld (hC.bx (i := 2) rfl) Try.isAgg22 rfl rfl) ?_
 refine lp (.int .i64 z385) (pu_move e23) ?_
 refine lex.op (hC.lit (s := (.int .i64)) (vs := [.int .i64 z385]) (xs := [z385]) Try.underlying22 Try.type3 rfl rfl (Nat.le_of_ble_eq_true rfl) rfl rfl (by simp [Value.cells, Sh.n]) rfl (show Elems _ _ (.int .i64) ([.int .i64 z385] ++ ([])) ([z385] : List Int) from Elems.cons (⟨rfl, I64.wr (chk_rng h537)⟩) (Elems.nil _ _ _))) ?_
 rintro _ w562 ⟨A558, c559, rfl, hl560, hc561, hC, hF, hN⟩
 clear hF hN
 obtain ⟨u413, h565, hb⟩ := bd hb
 refine lex.op (hC.app (i := 5) (s := (.int .i64)) (xs := kf286_1_5) (ys := ([z385] : List Int)) (m := ((([z385] : List Int)).length)) rfl Try.underlying22 Try.underlying22 Try.type3 rfl rfl rfl (hC.srco (i := 0) rfl) rfl rfl (by have := lim_some h565; simp at this ⊢ <;> omega) (by decide)) ?_
 rintro _ w570 ⟨A566, c567, rfl, hl568, hc569, hC, hF, hN⟩
 clear hF hN
 refine lp (.pointer (some ((⟨g427, 0, none⟩ : Addr).add 1))) (pu_field (sz := 1) Try.underlying24 rfl Try.sizeOf22 (by decide) rfl e19) ?_
 refine lex.sk (hC.setf (i := 3) (k := 1) (v := .slice A566 ((kf286_1_5 ++ ([z385] : List Int)).length) c567) rfl Try.sizeOf22 rfl rfl rfl rfl) ?_
 rintro w571 ⟨hC, hF⟩
 refine ln ?_
 refine hK531 _ _ ?_
 refine rg ?_
 obtain ⟨z421, h573, hb⟩ := bd hb
 refine lp (.int .i64 z421) (pu_addc (a := v170_5) (b := 1) e170 rfl h573) ?_
 refine lp (.int .i64 z421) (pu_move rfl) ?_
 refine ln ?_
 obtain rfl := os hb
 exact hK523 m524' _ _ (Nat.lt_succ_self _) ⟨z421, (kf286_0_5 ++ ([z390] : List Int)), (kf286_1_5 ++ ([z385] : List Int)), A551, (kf286_0_5 ++ ([z390] : List Int)).length, c552, A566, (kf286_1_5 ++ ([z385] : List Int)).length, c567, e2, e3, e4, e6, e19, e169, rfl, (chk_rng h573), hC.sel [2, 3, 4, 5] (by decide), lN hl5⟩
 replace hb := tf hq530 hb
 refine Wc.exit rfl ?_
 obtain rfl := os hb
 obtain rfl := (lX hl5).symm
 exact hK522 _ _ ⟨v170_5, kf286_0_5, kf286_1_5, Akf429_0_5, kf286_0_5.length, ckf429_0_5, Akf429_1_5, kf286_1_5.length, ckf429_1_5, e2, e3, e19, hrv170_5, hC.sel [0, 1, 2, 3] (by decide), hbK5⟩
 clear hb hC hl5
 rintro E575 w574 ⟨v170_5, kf286_0_5, kf286_1_5, Akf429_0_5, mkf429_0_5, ckf429_0_5, Akf429_1_5, mkf429_1_5, ckf429_1_5, e2, e3, e19, hrv170_5, hC, hb⟩
 obtain ⟨rfl, hlkf429_0_5, hckf429_0_5⟩ := (hC.ow (i := 2) rfl).sl_len
 obtain ⟨rfl, hlkf429_1_5, hckf429_1_5⟩ := (hC.ow (i := 3) rfl).sl_len
 refine hK519 _ _ ?_
 refine Wc.seq fun K576 hK576 => ?_
 refine rg ?_
 refine lv (.agg #[.slice Akf429_0_5 kf286_0_5.length ckf429_0_5, .slice Akf429_1_5 kf286_1_5.length ckf429_1_5]) (ld_blk (hC.bx (i := 1) rfl) Try.isAgg24 Try.sizeOf24 e19) ?_
 refine lex.sk (hC.seta (i := 0) (ds := [.slice Akf429_0_5 kf286_0_5.length ckf429_0_5, .slice Akf429_1_5 kf286_1_5.length ckf429_1_5]) rfl Try.type24 rfl rfl rfl e2 rfl) ?_
 rintro w577 ⟨hC, hF⟩
 refine lp (.int .i64 0) (pu_assign rfl) ?_
 refine ln ?_
 refine hK576 _ _ ?_
 obtain rfl := os hb
 refine Wc.ret ?_
 refine hKR _ _ ?_
 refine ⟨_, res2 Try.results18 ⟨_, e2, loadVar_blk (hC.bx (i := 0) rfl) Try.isAgg24 Try.sizeOf24⟩ (show RV _ _ _ (.tmp _) (.int .i64 0) from rfl), _, rfl, Akf429_0_5, kf286_0_5.length, ckf429_0_5, Akf429_1_5, kf286_1_5.length, ckf429_1_5, rfl, (show I64 0 from by unfold I64; omega), hC.sel [2, 3] (by decide)⟩
 refine mixPE_alt ?_ ?_
 refine mixPE_chain ?_
 obtain ⟨u268, h579, hb⟩ := bd hb
 refine mixE.op hM (hC.make0 (s := (.int .i64)) (n := z26) Try.underlying22 Try.type3 rfl rfl rfl rfl (pos_some h579).1 (pos_some h579).2 (by decide)) ?_
 rintro _ w584 ⟨A580, c581, rfl, hl582, hc583, hC, hF, hN⟩
 have hBf585 := Beside.new hM hN
 have hUf585 := Beside.new (hM.wide (H := ([] : List Fact))) hN
 replace hM := hM.none hF
 replace hD := hM.wide (H := ([] : List Fact))
 refine ⟨hM, ?_⟩
 clear hF hN
 refine mixE.nil ?_
 refine mixPE_alt ?_ ?_
 refine mixPE_chain ?_
 obtain ⟨u276, h587, hb⟩ := bd hb
 refine mixE.op hM (hC.make0 (s := (.int .i64)) (n := z26) Try.underlying22 Try.type3 rfl rfl rfl rfl (pos_some h587).1 (pos_some h587).2 (by decide)) ?_
 rintro _ w592 ⟨A588, c589, rfl, hl590, hc591, hC, hF, hN⟩
 have hBf593 := Beside.new hM hN
 have hUf593 := Beside.new (hM.wide (H := ([] : List Fact))) hN
 replace hM := hM.none hF
 replace hD := hM.wide (H := ([] : List Fact))
 refine ⟨hM, ?_⟩
 clear hF hN
 refine mixE.nil ?_
 refine mixPE_chain ?_
 refine mp (.agg #[.slice A588 ((([] : List Int)).length) c589, .slice A580 ((([] : List Int)).length) c581]) (pu_builds (places := [(0, 1), (1, 1)]) (pv := [(0, .slice A588 ((([] : List Int)).length) c589), (1, .slice A580 ((([] : List Int)).length) c581)]) Try.type24 Try.underlying24 rfl (mp_cons Try.type22 (mp_cons Try.type22 mp_nil rfl rfl) rfl rfl) rfl (by simp [Instr.fill, Value.cells])) ?_
 refine mixE.op hM (hC.alloc (cs := [.slice none 0 0, .slice none 0 0]) Try.zeroValue24 rfl) ?_
 rintro _ w595 ⟨g594, rfl, hC, hF, hG⟩
 have hUf596 : g594 < w267.heap.size → g594 ∈ blocks (([] : List Fact) ++ ([] : List Fact)) := fun h => absurd (Nat.lt_of_lt_of_le h (Nat.le_trans hM.size hG)) (Nat.lt_irrefl _)
 clear hG
 replace hM := hM.none hF
 replace hD := hM.wide (H := ([] : List Fact))
 refine ⟨hM, ?_⟩
 refine mixE.sk hD (hC.seta (i := 0) (ds := [.slice A588 ((([] : List Int)).length) c589, .slice A580 ((([] : List Int)).length) c581]) rfl Try.type24 rfl rfl rfl rfl rfl) ?_
 rintro w597 ⟨hC, hF⟩
 replace hD := hD.besideG hUf596 hF
 clear hF
 refine ⟨hD, ?_⟩
 refine mixE.nil ?_
 clear hS hM
 clear hD
 refine hK265 _ _ ?_
 refine Wc.seq fun K598 hK598 => ?_
 refine Wc.seq fun K599 hK599 => ?_
 refine rg ?_
 refine lp (.slice Al8_1 l8_1.length cl8_1) (pu_move e8) ?_
 refine lp (.int .i64 (l8_1.length : Int)) (pu_len (A := Al8_1) (n := l8_1.length) (m := cl8_1) Try.underlying22 rfl) ?_
 refine lp (.int .i64 0) (pu_move rfl) ?_
 refine ln ?_
 refine hK599 _ _ ?_
 obtain ⟨o290, hl4, hb⟩ := bd hb
 refine Wc.cut (fun E wv => ∃ (v144_4 : Int) (kf286_0_4 : List Int) (kf286_1_4 : List Int) (Akf596_0_4 : Option Addr) (mkf596_0_4 ckf596_0_4 : Nat) (Akf596_1_4 : Option Addr) (mkf596_1_4 ckf596_1_4 : Nat), E 2 = .pointer (some ⟨g6, 0, none⟩) ∧ E 3 = .int .i64 0 ∧ E 4 = .int .i64 b_0_0 ∧ E 6 = .int .i64 z26 ∧ E 19 = .pointer (some ⟨g594, 0, none⟩) ∧ I64 v144_4 ∧ Cx (fun _ => False) O0 w wv [.box g6 24 [.slice none 0 0, .slice none 0 0], .box g594 24 [.slice Akf596_0_4 mkf596_0_4 ckf596_0_4, .slice Akf596_1_4 mkf596_1_4 ckf596_1_4], .own 3 (.int .i64) (.slice Akf596_0_4 mkf596_0_4 ckf596_0_4) kf286_0_4, .own 3 (.int .i64) (.slice Akf596_1_4 mkf596_1_4 ckf596_1_4) kf286_1_4] ∧ (((loopN n (F.gridlink_Braid_b5 n b_0_0 z26) (0, kf286_0_4, kf286_1_4)).bind fun o370 => match o370 with     | (v170_5, kf286_0_5, kf286_1_5) => some (kf286_0_5, kf286_1_5, 0)) : Option ((List Int) × (List Int) × Int)) = some r) (fun K601 hK601 => ?_) ?_
 refine Wc.block ?_
 refine Wc.loop (fun m E wv => ∃ (v144_4 : Int) (kf286_0_4 : List Int) (kf286_1_4 : List Int) (Akf596_0_4 : Option Addr) (mkf596_0_4 ckf596_0_4 : Nat) (Akf596_1_4 : Option Addr) (mkf596_1_4 ckf596_1_4 : Nat), E 2 = .pointer (some ⟨g6, 0, none⟩) ∧ E 3 = .int .i64 0 ∧ E 4 = .int .i64 b_0_0 ∧ E 6 = .int .i64 z26 ∧ E 7 = .slice Al7_1 l7_1.length cl7_1 ∧ E 19 = .pointer (some ⟨g594, 0, none⟩) ∧ E 142 = .slice Al8_1 l8_1.length cl8_1 ∧ E 143 = .int .i64 (l8_1.length : Int) ∧ E 144 = .int .i64 v144_4 ∧ I64 v144_4 ∧ Cx (fun _ => False) O0 w wv [.box g6 24 [.slice none 0 0, .slice none 0 0], .own 67 (.pr (.int .i64) (.int .i64)) (.slice Al7_1 l7_1.length cl7_1) qF7_1_3, .box g594 24 [.slice Akf596_0_4 mkf596_0_4 ckf596_0_4, .slice Akf596_1_4 mkf596_1_4 ckf596_1_4], .own 3 (.int .i64) (.slice Akf596_0_4 mkf596_0_4 ckf596_0_4) kf286_0_4, .own 3 (.int .i64) (.slice Akf596_1_4 mkf596_1_4 ckf596_1_4) kf286_1_4, .own 3 (.int .i64) (.slice Al8_1 l8_1.length cl8_1) l8_1] ∧ loopN m (F.gridlink_Braid_b4 n l8_1 qF7_1_3) (v144_4, kf286_0_4, kf286_1_4) = some o290) n ⟨0, ([] : List Int), ([] : List Int), A588, (([] : List Int)).length, c589, A580, (([] : List Int)).length, c581, e2, e3, e4, e6, e7, rfl, rfl, rfl, rfl, (show I64 0 from by unfold I64; omega), hC.sel [3, 4, 0, 1, 2, 5] (by decide), hl4⟩ ?_
 have hbK4 := hb
 clear hb hC hl4
 rintro m603 E605 w604 ⟨v144_4, kf286_0_4, kf286_1_4, Akf596_0_4, mkf596_0_4, ckf596_0_4, Akf596_1_4, mkf596_1_4, ckf596_1_4, e2, e3, e4, e6, e7, e19, e142, e143, e144, hrv144_4, hC, hl4⟩ K602 hK602
 obtain ⟨m603', o606, rfl, hb, hl4⟩ := loopN_some hl4
 unfold F.gridlink_Braid_b4 at hb
 obtain ⟨rfl, hlkf596_0_4, hckf596_0_4⟩ := (hC.ow (i := 3) rfl).sl_len
 obtain ⟨rfl, hlkf596_1_4, hckf596_1_4⟩ := (hC.ow (i := 4) rfl).sl_len
 refine Wc.seq fun K607 hK607 => ?_
 refine rg ?_
 refine lp (.bool (decide (v144_4 < (l8_1.length : Int)))) (pu_lss (k := .i64) (a := v144_4) (b := (l8_1.length : Int)) e144 e143) ?_
 refine ln ?_
 refine hK607 _ _ ?_
 refine Wc.seq fun K608 hK608 => ?_
 refine Wc.cond (t := (decide (v144_4 < (l8_1.length : Int)))) (rfl) (fun hq609 => ?_) (fun hq609 => ?_)
 replace hb := tt hq609 hb
 refine Wc.skip ?_
 refine hK608 _ _ ?_
 refine Wc.seq fun K610 hK610 => ?_
 refine Wc.block ?_
 refine Wc.seq fun K611 hK611 => ?_
 refine rg ?_
 obtain ⟨x302, h613, hb⟩ := bd hb
 obtain ⟨ad614, cs615, hA, hc616, hr617⟩ := hC.elo (i := 5) rfl (get_some h613).2
 subst hA
 refine lp (.pointer (some (ad614.add (v144_4.toNat * 1)))) (pu_index (a := v144_4) Try.underlying22 Try.sizeOf3 e142 e144 (get_some h613).1) ?_
 obtain ⟨rfl, hr617'⟩ := hr617
 refine lv (.int .i64 x302) (ld_one Try.isAgg3 rfl (hc616 0 _ rfl)) ?_
 refine lp (.int .i64 x302) (pu_assign rfl) ?_
 refine ln ?_
 refine hK611 _ _ ?_
 refine Wc.seq fun K618 hK618 => ?_
 refine Wc.regionMix [154] (frm [154] [.own 3 (.int .i64) (.slice Akf596_0_4 kf286_0_4.length ckf596_0_4) kf286_0_4] [.box g594 24 [.slice Akf596_0_4 kf286_0_4.length ckf596_0_4, .slice Akf596_1_4 kf286_1_4.length ckf596_1_4]]) (fun _ => rfl) mixed (by decide +kernel) (by decide +kernel) fun w620 hw619 => ?_
 replace hC := hC.step (Fr.of_drew hw619)
 have hM := Fr.refl (fun k => k ∈ blocks [.own 3 (.int .i64) (.slice Akf596_0_4 kf286_0_4.length ckf596_0_4) kf286_0_4]) w620
 clear hw619
 have hS := hC
 have hBFf596_0_4 : Beside [.own 3 (.int .i64) (.slice Akf596_0_4 kf286_0_4.length ckf596_0_4) kf286_0_4] w620 (.slice Akf596_0_4 kf286_0_4.length ckf596_0_4) := Beside.of (i := 0) rfl
 have hD : Fr (fun k => k ∈ blocks ([.own 3 (.int .i64) (.slice Akf596_0_4 kf286_0_4.length ckf596_0_4) kf286_0_4] ++ [.box g594 24 [.slice Akf596_0_4 kf286_0_4.length ckf596_0_4, .slice Akf596_1_4 kf286_1_4.length ckf596_1_4]])) w620 w620 := hM.wide
 have hUFf596_0_4 : Beside ([.own 3 (.int .i64) (.slice Akf596_0_4 kf286_0_4.length ckf596_0_4) kf286_0_4] ++ [.box g594 24 [.slice Akf596_0_4 kf286_0_4.length ckf596_0_4, .slice Akf596_1_4 kf286_1_4.length ckf596_1_4]]) w620 (.slice Akf596_0_4 kf286_0_4.length ckf596_0_4) := Beside.of (i := 0) rfl
 have hUf596 : g594 < w620.heap.size → g594 ∈ blocks ([.own 3 (.int .i64) (.slice Akf596_0_4 kf286_0_4.length ckf596_0_4) kf286_0_4] ++ [.box g594 24 [.slice Akf596_0_4 kf286_0_4.length ckf596_0_4, .slice Akf596_1_4 kf286_1_4.length ckf596_1_4]]) := fun _ => box_in (i := 1) rfl
 refine mp (.pointer (some ((⟨g594, 0, none⟩ : Addr).add 0))) (pu_field (sz := 1) Try.underlying24 rfl Try.sizeOf22 (by decide) rfl e19) ?_
 refine mixE.load hM (v := .slice Akf596_0_4 kf286_0_4.length ckf596_0_4) (fun _ hF => ld_fld (hS.bx2 (i := 2) rfl [3] (by decide) hF) Try.isAgg22 rfl rfl) ?_
 refine mp (.slice Al7_1 l7_1.length cl7_1) (pu_move e7) ?_
 refine mp (.int .i64 x302) (pu_move rfl) ?_
 obtain ⟨x311, h622, hb⟩ := bd hb
 obtain ⟨ad623, cs624, hA, ho627, hc625, hr626⟩ := hS.elo2 (i := 1) rfl (get_some h622).2 [3, 2] (by decide)
 subst hA
 refine mp (.pointer (some (ad623.add (x302.toNat * 2)))) (pu_index (a := x302) Try.underlying33 Try.sizeOf67 rfl rfl (by rw [(hC.ow (i := 1) rfl).sl_len.1]; exact (get_some h622).1)) ?_
 obtain ⟨k628, k629, rfl, hr630, hr631⟩ := hr626
 obtain ⟨rfl, hr630⟩ := hr630
 obtain ⟨rfl, hr631⟩ := hr631
 refine mp (.pointer (some ((ad623.add (x302.toNat * 2)).add 0))) (pu_ixa (A := (ad623.add (x302.toNat * 2))) (a := 0) (sz := 1) Try.underlying67 Try.sizeOf3 rfl rfl (by decide)) ?_
 refine mixE.steady hD (v := .int .i64 x311.1) (fun _ hF => ld_one Try.isAgg3 rfl (hF.cell (hc625 0 _ rfl) (off2 ho627))) ?_
 refine mixE.op hM (hC.lit (s := (.int .i64)) (vs := [.int .i64 x311.1]) (xs := [x311.1]) Try.underlying22 Try.type3 rfl rfl (Nat.le_of_ble_eq_true rfl) rfl rfl (by simp [Value.cells, Sh.n]) rfl (show Elems _ _ (.int .i64) ([.int .i64 x311.1] ++ ([])) ([x311.1] : List Int) from Elems.cons (⟨rfl, I64.wr (wrap_I64 hr630)⟩) (Elems.nil _ _ _))) ?_
 rintro _ w636 ⟨A632, c633, rfl, hl634, hc635, hC, hF, hN⟩
 have hBf637 := Beside.new hM hN
 have hUf637 := Beside.new (hM.wide (H := [.box g594 24 [.slice Akf596_0_4 kf286_0_4.length ckf596_0_4, .slice Akf596_1_4 kf286_1_4.length ckf596_1_4]])) hN
 replace hM := hM.none hF
 replace hD := hM.wide (H := [.box g594 24 [.slice Akf596_0_4 kf286_0_4.length ckf596_0_4, .slice Akf596_1_4 kf286_1_4.length ckf596_1_4]])
 refine ⟨hM, ?_⟩
 clear hF hN
 obtain ⟨u328, h639, hb⟩ := bd hb
 refine mixE.op hM (hC.app (i := 4) (s := (.int .i64)) (xs := kf286_0_4) (ys := ([x311.1] : List Int)) (m := ((([x311.1] : List Int)).length)) rfl Try.underlying22 Try.underlying22 Try.type3 rfl rfl rfl (hC.srco (i := 0) rfl) rfl rfl (by have := lim_some h639; simp at this ⊢ <;> omega) (by decide)) ?_
 rintro _ w644 ⟨A640, c641, rfl, hl642, hc643, hC, hF, hN⟩
 have hB := hBFf596_0_4
 replace hBFf596_0_4 := hB.app hM hN
 replace hM := hM.beside hB hF
 clear hB
 replace hD := hM.wide (H := [.box g594 24 [.slice Akf596_0_4 kf286_0_4.length ckf596_0_4, .slice Akf596_1_4 kf286_1_4.length ckf596_1_4]])
 refine ⟨hM, ?_⟩
 clear hF hN
 refine mp (.pointer (some ((⟨g594, 0, none⟩ : Addr).add 0))) (pu_field (sz := 1) Try.underlying24 rfl Try.sizeOf22 (by decide) rfl e19) ?_
 refine mixE.sk hD (hC.setf (i := 3) (k := 0) (v := .slice A640 ((kf286_0_4 ++ ([x311.1] : List Int)).length) c641) rfl Try.sizeOf22 rfl rfl rfl rfl) ?_
 rintro w645 ⟨hC, hF⟩
 replace hD := hD.besideG hUf596 hF
 clear hF
 refine ⟨hD, ?_⟩
 refine mixE.nil ?_
 clear hS hM
 clear hD
 refine hK618 _ _ ?_
 refine Wc.fresh fun E646 hE => ?_
 have e2 := (congrFun hE 2).trans e2
 have e3 := (congrFun hE 3).trans e3
 have e4 := (congrFun hE 4).trans e4
 have e6 := (congrFun hE 6).trans e6
 have e7 := (congrFun hE 7).trans e7
 have e19 := (congrFun hE 19).trans e19
 have e21 : E646 21 = .int .i64 x302 := (congrFun hE 21).trans rfl
 have e142 := (congrFun hE 142).trans e142
 have e143 := (congrFun hE 143).trans e143
 have e144 := (congrFun hE 144).trans e144
 have e145 : E646 145 = .bool (decide (v144_4 < (l8_1.length : Int))) := (congrFun hE 145).trans rfl
 clear hE
 refine Wc.regionMix [164] (frm [164] [.own 3 (.int .i64) (.slice Akf596_1_4 kf286_1_4.length ckf596_1_4) kf286_1_4] [.box g594 24 [.slice A640 ((kf286_0_4 ++ ([x311.1] : List Int)).length) c641, .slice Akf596_1_4 kf286_1_4.length ckf596_1_4]]) (fun _ => rfl) mixed (by decide +kernel) (by decide +kernel) fun w648 hw647 => ?_
 replace hC := hC.step (Fr.of_drew hw647)
 have hM := Fr.refl (fun k => k ∈ blocks [.own 3 (.int .i64) (.slice Akf596_1_4 kf286_1_4.length ckf596_1_4) kf286_1_4]) w648
 clear hw647
 have hS := hC
 have hBFf596_1_4 : Beside [.own 3 (.int .i64) (.slice Akf596_1_4 kf286_1_4.length ckf596_1_4) kf286_1_4] w648 (.slice Akf596_1_4 kf286_1_4.length ckf596_1_4) := Beside.of (i := 0) rfl
 have hD : Fr (fun k => k ∈ blocks ([.own 3 (.int .i64) (.slice Akf596_1_4 kf286_1_4.length ckf596_1_4) kf286_1_4] ++ [.box g594 24 [.slice A640 ((kf286_0_4 ++ ([x311.1] : List Int)).length) c641, .slice Akf596_1_4 kf286_1_4.length ckf596_1_4]])) w648 w648 := hM.wide
 have hUFf596_1_4 : Beside ([.own 3 (.int .i64) (.slice Akf596_1_4 kf286_1_4.length ckf596_1_4) kf286_1_4] ++ [.box g594 24 [.slice A640 ((kf286_0_4 ++ ([x311.1] : List Int)).length) c641, .slice Akf596_1_4 kf286_1_4.length ckf596_1_4]]) w648 (.slice Akf596_1_4 kf286_1_4.length ckf596_1_4) := Beside.of (i := 0) rfl
 have hUf596 : g594 < w648.heap.size → g594 ∈ blocks ([.own 3 (.int .i64) (.slice Akf596_1_4 kf286_1_4.length ckf596_1_4) kf286_1_4] ++ [.box g594 24 [.slice A640 ((kf286_0_4 ++ ([x311.1] : List Int)).length) c641, .slice Akf596_1_4 kf286_1_4.length ckf596_1_4]]) := fun _ => box_in (i := 1) rfl
 refine mp (.pointer (some ((⟨g594, 0, none⟩ : Addr).add 1))) (pu_field (sz := 1) Try.underlying24 rfl Try.sizeOf22 (by decide) rfl e19) ?_
 refine mixE.load hM (v := .slice Akf596_1_4 kf286_1_4.length ckf596_1_4) (fun _ hF => ld_fld (hS.bx2 (i := 3) rfl [5] (by decide) hF) Try.isAgg22 rfl rfl) ?_
 refine mp (.slice (some ad623) l7_1.length cl7_1) (pu_move e7) ?_
 refine mp (.int .i64 x302) (pu_move e21) ?_
 obtain ⟨x339, h650, hb⟩ := bd hb
 obtain ⟨ad651, cs652, hA, ho655, hc653, hr654⟩ := hS.elo2 (i := 2) rfl (get_some h650).2 [5, 3] (by decide)
 obtain rfl := Option.some.inj hA
 refine mp (.pointer (some (ad623.add (x302.toNat * 2)))) (pu_index (a := x302) Try.underlying33 Try.sizeOf67 rfl rfl (by rw [(hC.ow (i := 2) rfl).sl_len.1]; exact (get_some h650).1)) ?_
 obtain ⟨k656, k657, rfl, hr658, hr659⟩ := hr654
 obtain ⟨rfl, hr658⟩ := hr658
 obtain ⟨rfl, hr659⟩ := hr659
 refine mp (.pointer (some ((ad623.add (x302.toNat * 2)).add 1))) (pu_ixa (A := (ad623.add (x302.toNat * 2))) (a := 1) (sz := 1) Try.underlying67 Try.sizeOf3 rfl rfl (by decide)) ?_
 refine mixE.steady hD (v := .int .i64 x339.2) (fun _ hF => ld_one Try.isAgg3 rfl (hF.cell (hc653 1 _ rfl) (off2 ho655))) ?_
 refine mixE.op hM (hC.lit (s := (.int .i64)) (vs := [.int .i64 x339.2]) (xs := [x339.2]) Try.underlying22 Try.type3 rfl rfl (Nat.le_of_ble_eq_true rfl) rfl rfl (by simp [Value.cells, Sh.n]) rfl (show Elems _ _ (.int .i64) ([.int .i64 x339.2] ++ ([])) ([x339.2] : List Int) from Elems.cons (⟨rfl, I64.wr (wrap_I64 hr659)⟩) (Elems.nil _ _ _))) ?_
 rintro _ w664 ⟨A660, c661, rfl, hl662, hc663, hC, hF, hN⟩
 have hBf665 := Beside.new hM hN
 have hUf665 := Beside.new (hM.wide (H := [.box g594 24 [.slice A640 ((kf286_0_4 ++ ([x311.1] : List Int)).length) c641, .slice Akf596_1_4 kf286_1_4.length ckf596_1_4]])) hN
 replace hM := hM.none hF
 replace hD := hM.wide (H := [.box g594 24 [.slice A640 ((kf286_0_4 ++ ([x311.1] : List Int)).length) c641, .slice Akf596_1_4 kf286_1_4.length ckf596_1_4]])
 refine ⟨hM, ?_⟩
 clear hF hN
 obtain ⟨u356, h667, hb⟩ := bd hb
 refine mixE.op hM (hC.app (i := 6) (s := (.int .i64)) (xs := kf286_1_4) (ys := ([x339.2] : List Int)) (m := ((([x339.2] : List Int)).length)) rfl Try.underlying22 Try.underlying22 Try.type3 rfl rfl rfl (hC.srco (i := 0) rfl) rfl rfl (by have := lim_some h667; simp at this ⊢ <;> omega) (by decide)) ?_
 rintro _ w672 ⟨A668, c669, rfl, hl670, hc671, hC, hF, hN⟩
 have hB := hBFf596_1_4
 replace hBFf596_1_4 := hB.app hM hN
 replace hM := hM.beside hB hF
 clear hB
 replace hD := hM.wide (H := [.box g594 24 [.slice A640 ((kf286_0_4 ++ ([x311.1] : List Int)).length) c641, .slice Akf596_1_4 kf286_1_4.length ckf596_1_4]])
 refine ⟨hM, ?_⟩
 clear hF hN
 refine mp (.pointer (some ((⟨g594, 0, none⟩ : Addr).add 1))) (pu_field (sz := 1) Try.underlying24 rfl Try.sizeOf22 (by decide) rfl e19) ?_
 refine mixE.sk hD (hC.setf (i := 4) (k := 1) (v := .slice A668 ((kf286_1_4 ++ ([x339.2] : List Int)).length) c669) rfl Try.sizeOf22 rfl rfl rfl rfl) ?_
 rintro w673 ⟨hC, hF⟩
 replace hD := hD.besideG hUf596 hF
 clear hF
 refine ⟨hD, ?_⟩
 refine mixE.nil ?_
 clear hS hM
 clear hD
 refine hK610 _ _ ?_
 refine rg ?_
 obtain ⟨z364, h675, hb⟩ := bd hb
 refine lp (.int .i64 z364) (pu_addc (a := v144_4) (b := 1) e144 rfl h675) ?_
 refine lp (.int .i64 z364) (pu_move rfl) ?_
 refine ln ?_
 obtain rfl := os hb
 exact hK602 m603' _ _ (Nat.lt_succ_self _) ⟨z364, (kf286_0_4 ++ ([x311.1] : List Int)), (kf286_1_4 ++ ([x339.2] : List Int)), A640, (kf286_0_4 ++ ([x311.1] : List Int)).length, c641, A668, (kf286_1_4 ++ ([x339.2] : List Int)).length, c669, e2, e3, e4, e6, e7, e19, e142, e143, rfl, (chk_rng h675), hC.sel [2, 3, 4, 5, 6, 7] (by decide), lN hl4⟩
 replace hb := tf hq609 hb
 refine Wc.exit rfl ?_
 obtain rfl := os hb
 obtain rfl := (lX hl4).symm
 exact hK601 _ _ ⟨v144_4, kf286_0_4, kf286_1_4, Akf596_0_4, kf286_0_4.length, ckf596_0_4, Akf596_1_4, kf286_1_4.length, ckf596_1_4, e2, e3, e4, e6, e19, hrv144_4, hC.sel [0, 2, 3, 4] (by decide), hbK4⟩
 clear hb hC hl4
 rintro E677 w676 ⟨v144_4, kf286_0_4, kf286_1_4, Akf596_0_4, mkf596_0_4, ckf596_0_4, Akf596_1_4, mkf596_1_4, ckf596_1_4, e2, e3, e4, e6, e19, hrv144_4, hC, hb⟩
 obtain ⟨rfl, hlkf596_0_4, hckf596_0_4⟩ := (hC.ow (i := 2) rfl).sl_len
 obtain ⟨rfl, hlkf596_1_4, hckf596_1_4⟩ := (hC.ow (i := 3) rfl).sl_len
 refine hK598 _ _ ?_
 refine Wc.seq fun K678 hK678 => ?_
 refine Wc.seq fun K679 hK679 => ?_
 refine rg ?_
 refine lp (.int .i64 b_0_0) (pu_move e4) ?_
 refine lp (.int .i64 0) (pu_move rfl) ?_
 refine ln ?_
 refine hK679 _ _ ?_
 obtain ⟨o370, hl5, hb⟩ := bd hb
 refine Wc.cut (fun E wv => ∃ (v170_5 : Int) (kf286_0_5 : List Int) (kf286_1_5 : List Int) (Akf596_0_5 : Option Addr) (mkf596_0_5 ckf596_0_5 : Nat) (Akf596_1_5 : Option Addr) (mkf596_1_5 ckf596_1_5 : Nat), E 2 = .pointer (some ⟨g6, 0, none⟩) ∧ E 3 = .int .i64 0 ∧ E 19 = .pointer (some ⟨g594, 0, none⟩) ∧ I64 v170_5 ∧ Cx (fun _ => False) O0 w wv [.box g6 24 [.slice none 0 0, .slice none 0 0], .box g594 24 [.slice Akf596_0_5 mkf596_0_5 ckf596_0_5, .slice Akf596_1_5 mkf596_1_5 ckf596_1_5], .own 3 (.int .i64) (.slice Akf596_0_5 mkf596_0_5 ckf596_0_5) kf286_0_5, .own 3 (.int .i64) (.slice Akf596_1_5 mkf596_1_5 ckf596_1_5) kf286_1_5] ∧ (some (kf286_0_5, kf286_1_5, 0) : Option ((List Int) × (List Int) × Int)) = some r) (fun K681 hK681 => ?_) ?_
 refine Wc.block ?_
 refine Wc.loop (fun m E wv => ∃ (v170_5 : Int) (kf286_0_5 : List Int) (kf286_1_5 : List Int) (Akf596_0_5 : Option Addr) (mkf596_0_5 ckf596_0_5 : Nat) (Akf596_1_5 : Option Addr) (mkf596_1_5 ckf596_1_5 : Nat), E 2 = .pointer (some ⟨g6, 0, none⟩) ∧ E 3 = .int .i64 0 ∧ E 4 = .int .i64 b_0_0 ∧ E 6 = .int .i64 z26 ∧ E 19 = .pointer (some ⟨g594, 0, none⟩) ∧ E 169 = .int .i64 b_0_0 ∧ E 170 = .int .i64 v170_5 ∧ I64 v170_5 ∧ Cx (fun _ => False) O0 w wv [.box g6 24 [.slice none 0 0, .slice none 0 0], .box g594 24 [.slice Akf596_0_5 mkf596_0_5 ckf596_0_5, .slice Akf596_1_5 mkf596_1_5 ckf596_1_5], .own 3 (.int .i64) (.slice Akf596_0_5 mkf596_0_5 ckf596_0_5) kf286_0_5, .own 3 (.int .i64) (.slice Akf596_1_5 mkf596_1_5 ckf596_1_5) kf286_1_5] ∧ loopN m (F.gridlink_Braid_b5 n b_0_0 z26) (v170_5, kf286_0_5, kf286_1_5) = some o370) n ⟨0, kf286_0_4, kf286_1_4, Akf596_0_4, kf286_0_4.length, ckf596_0_4, Akf596_1_4, kf286_1_4.length, ckf596_1_4, e2, e3, e4, e6, e19, rfl, rfl, (show I64 0 from by unfold I64; omega), hC.sel [0, 1, 2, 3] (by decide), hl5⟩ ?_
 have hbK5 := hb
 clear hb hC hl5
 rintro m683 E685 w684 ⟨v170_5, kf286_0_5, kf286_1_5, Akf596_0_5, mkf596_0_5, ckf596_0_5, Akf596_1_5, mkf596_1_5, ckf596_1_5, e2, e3, e4, e6, e19, e169, e170, hrv170_5, hC, hl5⟩ K682 hK682
 obtain ⟨m683', o686, rfl, hb, hl5⟩ := loopN_some hl5
 unfold F.gridlink_Braid_b5 at hb
 obtain ⟨rfl, hlkf596_0_5, hckf596_0_5⟩ := (hC.ow (i := 2) rfl).sl_len
 obtain ⟨rfl, hlkf596_1_5, hckf596_1_5⟩ := (hC.ow (i := 3) rfl).sl_len
 refine Wc.seq fun K687 hK687 => ?_
 refine rg ?_
 refine lp (.bool (decide (v170_5 < b_0_0))) (pu_lss (k := .i64) (a := v170_5) (b := b_0_0) e170 e169) ?_
 refine ln ?_
 refine hK687 _ _ ?_
 refine Wc.seq fun K688 hK688 => ?_
 refine Wc.cond (t := (decide (v170_5 < b_0_0))) (rfl) (fun hq689 => ?_) (fun hq689 => ?_)
 replace hb := tt hq689 hb
 refine Wc.skip ?_
 refine hK688 _ _ ?_
 refine Wc.seq fun K690 hK690 => ?_
 refine Wc.block ?_
 refine Wc.seq fun K691 hK691 => ?_
 refine rg ?_
 refine lp (.int .i64 v170_5) (pu_move e170) ?_
 refine lp (.int .i64 v170_5) (pu_assign rfl) ?_
 refine ln ?_
 refine hK691 _ _ ?_
 refine Wc.seq fun K692 hK692 => ?_
 refine rg ?_
 refine lp (.int .i64 b_0_0) (pu_move e4) ?_
 obtain ⟨z383, h694, hb⟩ := bd hb
 refine lp (.int .i64 z383) (pu_subc (a := b_0_0) (b := 1) rfl rfl h694) ?_
 refine lp (.int .i64 v170_5) (pu_move rfl) ?_
 obtain ⟨z385, h696, hb⟩ := bd hb
 refine lp (.int .i64 z385) (pu_subc (a := z383) (b := v170_5) rfl rfl h696) ?_
 refine lp (.int .i64 z385) (pu_assign rfl) ?_
 refine ln ?_
 refine hK692 _ _ ?_
 refine Wc.seq fun K697 hK697 => ?_
 refine rg ?_
 refine lp (.pointer (some ((⟨g594, 0, none⟩ : Addr).add 0))) (pu_field (sz := 1) Try.underlying24 rfl Try.sizeOf22 (by decide) rfl e19) ?_
 refine lv (.slice Akf596_0_5 kf286_0_5.length ckf596_0_5) (ld_fld (hC.bx (i := 1) rfl) Try.isAgg22 rfl rfl) ?_
 refine lp (.int .i64 z26) (pu_move e6) ?_
 obtain ⟨z388, h699, hb⟩ := bd hb
 refine lp (.int .i64 z388) (pu_subc (a := z26) (b := 1) rfl rfl h699) ?_
 refine lp (.int .i64 z385) (pu_move rfl) ?_
 obtain ⟨z390, h701, hb⟩ := bd hb
 refine lp (.int .i64 z390) (pu_subc (a := z388) (b := z385) rfl rfl h701) ?_
 refine lex.op (hC.lit (s := (.int .i64)) (vs := [.int .i64 z390]) (xs := [z390]) Try.underlying22 Try.type3 rfl rfl (Nat.le_of_ble_eq_true rfl) rfl rfl (by simp [Value.cells, Sh.n]) rfl (show Elems _ _ (.int .i64) ([.int .i64 z390] ++ ([])) ([z390] : List Int) from Elems.cons (⟨rfl, I64.wr (chk_rng h701)⟩) (Elems.nil _ _ _))) ?_
 rintro _ w706 ⟨A702, c703, rfl, hl704, hc705, hC, hF, hN⟩
 clear hF hN
 obtain ⟨u398, h709, hb⟩ := bd hb
 refine lex.op (hC.app (i := 3) (s := (.int .i64)) (xs := kf286_0_5) (ys := ([z390] : List Int)) (m := ((([z390] : List Int)).length)) rfl Try.underlying22 Try.underlying22 Try.type3 rfl rfl rfl (hC.srco (i := 0) rfl) rfl rfl (by have := lim_some h709; simp at this ⊢ <;> omega) (by decide)) ?_
 rintro _ w714 ⟨A710, c711, rfl, hl712, hc713, hC, hF, hN⟩
 clear hF hN
 refine lp (.pointer (some ((⟨g594, 0, none⟩ : Addr).add 0))) (pu_field (sz := 1) Try.underlying24 rfl Try.sizeOf22 (by decide) rfl e19) ?_
 refine lex.sk (hC.setf (i := 2) (k := 0) (v := .slice A710 ((kf286_0_5 ++ ([z390] : List Int)).length) c711) rfl Try.sizeOf22 rfl rfl rfl rfl) ?_
 rintro w715 ⟨hC, hF⟩
 refine ln ?_
 refine hK697 _ _ ?_
 refine Wc.fresh fun E716 hE => ?_
 have e2 := (congrFun hE 2).trans e2
 have e3 := (congrFun hE 3).trans e3
 have e4 := (congrFun hE 4).trans e4
 have e6 := (congrFun hE 6).trans e6
 have e19 := (congrFun hE 19).trans e19
 have e22 : E716 22 = .int .i64 v170_5 := (congrFun hE 22).trans rfl
 have e23 : E716 23 = .int .i64 z385 := (congrFun hE 23).trans rfl
 have e169 := (congrFun hE 169).trans e169
 have e170 := (congrFun hE 170).trans e170
 have e171 : E716 171 = .bool (decide (v170_5 < b_0_0)) := (congrFun hE 171).trans rfl
 clear hE
 refine rg ?_
 refine lp (.pointer (some ((⟨g594, 0, none⟩ : Addr).add 1))) (pu_field (sz := 1) Try.underlying24 rfl Try.sizeOf22 (by decide) rfl e19) ?_
 refine lv (.slice Akf596_1_5 kf286_1_5.length ckf596_1_5) (ld_fld (hC.bx (i := 2) rfl) Try.isAgg22 rfl rfl) ?_
 refine lp (.int .i64 z385) (pu_move e23) ?_
 refine lex.op (hC.lit (s := (.int .i64)) (vs := [.int .i64 z385]) (xs := [z385]) Try.underlying22 Try.type3 rfl rfl (Nat.le_of_ble_eq_true rfl) rfl rfl (by simp [Value.cells, Sh.n]) rfl (show Elems _ _ (.int .i64) ([.int .i64 z385] ++ ([])) ([z385] : List Int) from Elems.cons (⟨rfl, I64.wr (chk_rng h696)⟩) (Elems.nil _ _ _))) ?_
 rintro _ w721 ⟨A717, c718, rfl, hl719, hc720, hC, hF, hN⟩
 clear hF hN
 obtain ⟨u413, h724, hb⟩ := bd hb
 refine lex.op (hC.app (i := 5) (s := (.int .i64)) (xs := kf286_1_5) (ys := ([z385] : List Int)) (m := ((([z385] : List Int)).length)) rfl Try.underlying22 Try.underlying22 Try.type3 rfl rfl rfl (hC.srco (i := 0) rfl) rfl rfl (by have := lim_some h724; simp at this ⊢ <;> omega) (by decide)) ?_
 rintro _ w729 ⟨A725, c726, rfl, hl727, hc728, hC, hF, hN⟩
 clear hF hN
 refine lp (.pointer (some ((⟨g594, 0, none⟩ : Addr).add 1))) (pu_field (sz := 1) Try.underlying24 rfl Try.sizeOf22 (by decide) rfl e19) ?_
 refine lex.sk (hC.setf (i := 3) (k := 1) (v := .slice A725 ((kf286_1_5 ++ ([z385] : List Int)).length) c726) rfl Try.sizeOf22 rfl rfl rfl rfl) ?_
 rintro w730 ⟨hC, hF⟩
 refine ln ?_
 refine hK690 _ _ ?_
 refine rg ?_
 obtain ⟨z421, h732, hb⟩ := bd hb
 refine lp (.int .i64 z421) (pu_addc (a := v170_5) (b := 1) e170 rfl h732) ?_
 refine lp (.int .i64 z421) (pu_move rfl) ?_
 refine ln ?_
 obtain rfl := os hb
 exact hK682 m683' _ _ (Nat.lt_succ_self _) ⟨z421, (kf286_0_5 ++ ([z390] : List Int)), (kf286_1_5 ++ ([z385] : List Int)), A710, (kf286_0_5 ++ ([z390] : List Int)).length, c711, A725, (kf286_1_5 ++ ([z385] : List Int)).length, c726, e2, e3, e4, e6, e19, e169, rfl, (chk_rng h732), hC.sel [2, 3, 4, 5] (by decide), lN hl5⟩
 replace hb := tf hq689 hb
 refine Wc.exit rfl ?_
 obtain rfl := os hb
 obtain rfl := (lX hl5).symm
 exact hK681 _ _ ⟨v170_5, kf286_0_5, kf286_1_5, Akf596_0_5, kf286_0_5.length, ckf596_0_5, Akf596_1_5, kf286_1_5.length, ckf596_1_5, e2, e3, e19, hrv170_5, hC.sel [0, 1, 2, 3] (by decide), hbK5⟩
 clear hb hC hl5
 rintro E734 w733 ⟨v170_5, kf286_0_5, kf286_1_5, Akf596_0_5, mkf596_0_5, ckf596_0_5, Akf596_1_5, mkf596_1_5, ckf596_1_5, e2, e3, e19, hrv170_5, hC, hb⟩
 obtain ⟨rfl, hlkf596_0_5, hckf596_0_5⟩ := (hC.ow (i := 2) rfl).sl_len
 obtain ⟨rfl, hlkf596_1_5, hckf596_1_5⟩ := (hC.ow (i := 3) rfl).sl_len
 refine hK678 _ _ ?_
 refine Wc.seq fun K735 hK735 => ?_
 refine rg ?_
 refine lv (.agg #[.slice Akf596_0_5 kf286_0_5.length ckf596_0_5, .slice Akf596_1_5 kf286_1_5.length ckf596_1_5]) (ld_blk (hC.bx (i := 1) rfl) Try.isAgg24 Try.sizeOf24 e19) ?_
 refine lex.sk (hC.seta (i := 0) (ds := [.slice Akf596_0_5 kf286_0_5.length ckf596_0_5, .slice Akf596_1_5 kf286_1_5.length ckf596_1_5]) rfl Try.type24 rfl rfl rfl e2 rfl) ?_
 rintro w736 ⟨hC, hF⟩
 refine lp (.int .i64 0) (pu_assign rfl) ?_
 refine ln ?_
 refine hK735 _ _ ?_
 obtain rfl := os hb
 refine Wc.ret ?_
 refine hKR _ _ ?_
 refine ⟨_, res2 Try.results18 ⟨_, e2, loadVar_blk (hC.bx (i := 0) rfl) Try.isAgg24 Try.sizeOf24⟩ (show RV _ _ _ (.tmp _) (.int .i64 0) from rfl), _, rfl, Akf596_0_5, kf286_0_5.length, ckf596_0_5, Akf596_1_5, kf286_1_5.length, ckf596_1_5, rfl, (show I64 0 from by unfold I64; omega), hC.sel [2, 3] (by decide)⟩
 refine mixPE_chain ?_
 refine mixE.op hM (hC.alloc (cs := [.slice none 0 0, .slice none 0 0]) Try.zeroValue24 rfl) ?_
 rintro _ w738 ⟨g737, rfl, hC, hF, hG⟩
 have hUf739 : g737 < w267.heap.size → g737 ∈ blocks (([] : List Fact) ++ ([] : List Fact)) := fun h => absurd (Nat.lt_of_lt_of_le h (Nat.le_trans hM.size hG)) (Nat.lt_irrefl _)
 clear hG
 replace hM := hM.none hF
 replace hD := hM.wide (H := ([] : List Fact))
 refine ⟨hM, ?_⟩
 refine mixE.nil ?_
 refine mixPE_chain ?_
 obtain ⟨u276, h741, hb⟩ := bd hb
 refine mixE.op hM (hC.make0 (s := (.int .i64)) (n := z26) Try.underlying22 Try.type3 rfl rfl rfl rfl (pos_some h741).1 (pos_some h741).2 (by decide)) ?_
 rintro _ w746 ⟨A742, c743, rfl, hl744, hc745, hC, hF, hN⟩
 have hBf747 := Beside.new hM hN
 have hUf747 := Beside.new (hM.wide (H := ([] : List Fact))) hN
 replace hM := hM.none hF
 replace hD := hM.wide (H := ([] : List Fact))
 refine ⟨hM, ?_⟩
 clear hF hN
 refine mp (.agg #[.slice A742 ((([] : List Int)).length) c743, .slice A580 ((([] : List Int)).length) c581]) (pu_builds (places := [(0, 1), (1, 1)]) (pv := [(0, .slice A742 ((([] : List Int)).length) c743), (1, .slice A580 ((([] : List Int)).length) c581)]) Try.type24 Try.underlying24 rfl (mp_cons Try.type22 (mp_cons Try.type22 mp_nil rfl rfl) rfl rfl) rfl (by simp [Instr.fill, Value.cells])) ?_
 refine mixE.sk hD (hC.seta (i := 1) (ds := [.slice A742 ((([] : List Int)).length) c743, .slice A580 ((([] : List Int)).length) c581]) rfl Try.type24 rfl rfl rfl rfl rfl) ?_
 rintro w748 ⟨hC, hF⟩
 replace hD := hD.besideG hUf739 hF
 clear hF
 refine ⟨hD, ?_⟩
 refine mixE.nil ?_
 clear hS hM
 clear hD
 refine hK265 _ _ ?_
 refine Wc.seq fun K749 hK749 => ?_
 refine Wc.seq fun K750 hK750 => ?_
 refine rg ?_
 refine lp (.slice Al8_1 l8_1.length cl8_1) (pu_move e8) ?_
 refine lp (.int .i64 (l8_1.length : Int)) (pu_len (A := Al8_1) (n := l8_1.length) (m := cl8_1) Try.underlying22 rfl) ?_
 refine lp (.int .i64 0) (pu_move rfl) ?_
 refine ln ?_
 refine hK750 _ _ ?_
 obtain ⟨o290, hl4, hb⟩ := bd hb
 refine Wc.cut (fun E wv => ∃ (v144_4 : Int) (kf286_0_4 : List Int) (kf286_1_4 : List Int) (Akf739_0_4 : Option Addr) (mkf739_0_4 ckf739_0_4 : Nat) (Akf739_1_4 : Option Addr) (mkf739_1_4 ckf739_1_4 : Nat), E 2 = .pointer (some ⟨g6, 0, none⟩) ∧ E 3 = .int .i64 0 ∧ E 4 = .int .i64 b_0_0 ∧ E 6 = .int .i64 z26 ∧ E 19 = .pointer (some ⟨g737, 0, none⟩) ∧ I64 v144_4 ∧ Cx (fun _ => False) O0 w wv [.box g6 24 [.slice none 0 0, .slice none 0 0], .box g737 24 [.slice Akf739_0_4 mkf739_0_4 ckf739_0_4, .slice Akf739_1_4 mkf739_1_4 ckf739_1_4], .own 3 (.int .i64) (.slice Akf739_0_4 mkf739_0_4 ckf739_0_4) kf286_0_4, .own 3 (.int .i64) (.slice Akf739_1_4 mkf739_1_4 ckf739_1_4) kf286_1_4] ∧ (((loopN n (F.gridlink_Braid_b5 n b_0_0 z26) (0, kf286_0_4, kf286_1_4)).bind fun o370 => match o370 with     | (v170_5, kf286_0_5, kf286_1_5) => some (kf286_0_5, kf286_1_5, 0)) : Option ((List Int) × (List Int) × Int)) = some r) (fun K752 hK752 => ?_) ?_
 refine Wc.block ?_
 refine Wc.loop (fun m E wv => ∃ (v144_4 : Int) (kf286_0_4 : List Int) (kf286_1_4 : List Int) (Akf739_0_4 : Option Addr) (mkf739_0_4 ckf739_0_4 : Nat) (Akf739_1_4 : Option Addr) (mkf739_1_4 ckf739_1_4 : Nat), E 2 = .pointer (some ⟨g6, 0, none⟩) ∧ E 3 = .int .i64 0 ∧ E 4 = .int .i64 b_0_0 ∧ E 6 = .int .i64 z26 ∧ E 7 = .slice Al7_1 l7_1.length cl7_1 ∧ E 19 = .pointer (some ⟨g737, 0, none⟩) ∧ E 142 = .slice Al8_1 l8_1.length cl8_1 ∧ E 143 = .int .i64 (l8_1.length : Int) ∧ E 144 = .int .i64 v144_4 ∧ I64 v144_4 ∧ Cx (fun _ => False) O0 w wv [.box g6 24 [.slice none 0 0, .slice none 0 0], .own 67 (.pr (.int .i64) (.int .i64)) (.slice Al7_1 l7_1.length cl7_1) qF7_1_3, .box g737 24 [.slice Akf739_0_4 mkf739_0_4 ckf739_0_4, .slice Akf739_1_4 mkf739_1_4 ckf739_1_4], .own 3 (.int .i64) (.slice Akf739_0_4 mkf739_0_4 ckf739_0_4) kf286_0_4, .own 3 (.int .i64) (.slice Akf739_1_4 mkf739_1_4 ckf739_1_4) kf286_1_4, .own 3 (.int .i64) (.slice Al8_1 l8_1.length cl8_1) l8_1] ∧ loopN m (F.gridlink_Braid_b4 n l8_1 qF7_1_3) (v144_4, kf286_0_4, kf286_1_4) = some o290) n ⟨0, ([] : List Int), ([] : List Int), A742, (([] : List Int)).length, c743, A580, (([] : List Int)).length, c581, e2, e3, e4, e6, e7, rfl, rfl, rfl, rfl, (show I64 0 from by unfold I64; omega), hC.sel [3, 4, 1, 0, 2, 5] (by decide), hl4⟩ ?_
 have hbK4 := hb
 clear hb hC hl4
 rintro m754 E756 w755 ⟨v144_4, kf286_0_4, kf286_1_4, Akf739_0_4, mkf739_0_4, ckf739_0_4, Akf739_1_4, mkf739_1_4, ckf739_1_4, e2, e3, e4, e6, e7, e19, e142, e143, e144, hrv144_4, hC, hl4⟩ K753 hK753
 obtain ⟨m754', o757, rfl, hb, hl4⟩ := loopN_some hl4
 unfold F.gridlink_Braid_b4 at hb
 obtain ⟨rfl, hlkf739_0_4, hckf739_0_4⟩ := (hC.ow (i := 3) rfl).sl_len
 obtain ⟨rfl, hlkf739_1_4, hckf739_1_4⟩ := (hC.ow (i := 4) rfl).sl_len
 refine Wc.seq fun K758 hK758 => ?_
 refine rg ?_
 refine lp (.bool (decide (v144_4 < (l8_1.length : Int)))) (pu_lss (k := .i64) (a := v144_4) (b := (l8_1.length : Int)) e144 e143) ?_
 refine ln ?_
 refine hK758 _ _ ?_
 refine Wc.seq fun K759 hK759 => ?_
 refine Wc.cond (t := (decide (v144_4 < (l8_1.length : Int)))) (rfl) (fun hq760 => ?_) (fun hq760 => ?_)
 replace hb := tt hq760 hb
 refine Wc.skip ?_
 refine hK759 _ _ ?_
 refine Wc.seq fun K761 hK761 => ?_
 refine Wc.block ?_
 refine Wc.seq fun K762 hK762 => ?_
 refine rg ?_
 obtain ⟨x302, h764, hb⟩ := bd hb
 obtain ⟨ad765, cs766, hA, hc767, hr768⟩ := hC.elo (i := 5) rfl (get_some h764).2
 subst hA
 refine lp (.pointer (some (ad765.add (v144_4.toNat * 1)))) (pu_index (a := v144_4) Try.underlying22 Try.sizeOf3 e142 e144 (get_some h764).1) ?_
 obtain ⟨rfl, hr768'⟩ := hr768
 refine lv (.int .i64 x302) (ld_one Try.isAgg3 rfl (hc767 0 _ rfl)) ?_
 refine lp (.int .i64 x302) (pu_assign rfl) ?_
 refine ln ?_
 refine hK762 _ _ ?_
 refine Wc.seq fun K769 hK769 => ?_
 refine Wc.regionMix [154] (frm [154] [.own 3 (.int .i64) (.slice Akf739_0_4 kf286_0_4.length ckf739_0_4) kf286_0_4] [.box g737 24 [.slice Akf739_0_4 kf286_0_4.length ckf739_0_4, .slice Akf739_1_4 kf286_1_4.length ckf739_1_4]]) (fun _ => rfl) mixed (by decide +kernel) (by decide +kernel) fun w771 hw770 => ?_
 replace hC := hC.step (Fr.of_drew hw770)
 have hM := Fr.refl (fun k => k ∈ blocks [.own 3 (.int .i64) (.slice Akf739_0_4 kf286_0_4.length ckf739_0_4) kf286_0_4]) w771
 clear hw770
 have hS := hC
 have hBFf739_0_4 : Beside [.own 3 (.int .i64) (.slice Akf739_0_4 kf286_0_4.length ckf739_0_4) kf286_0_4] w771 (.slice Akf739_0_4 kf286_0_4.length ckf739_0_4) := Beside.of (i := 0) rfl
 have hD : Fr (fun k => k ∈ blocks ([.own 3 (.int .i64) (.slice Akf739_0_4 kf286_0_4.length ckf739_0_4) kf286_0_4] ++ [.box g737 24 [.slice Akf739_0_4 kf286_0_4.length ckf739_0_4, .slice Akf739_1_4 kf286_1_4.length ckf739_1_4]])) w771 w771 := hM.wide
 have hUFf739_0_4 : Beside ([.own 3 (.int .i64) (.slice Akf739_0_4 kf286_0_4.length ckf739_0_4) kf286_0_4] ++ [.box g737 24 [.slice Akf739_0_4 kf286_0_4.length ckf739_0_4, .slice Akf739_1_4 kf286_1_4.length ckf739_1_4]]) w771 (.slice Akf739_0_4 kf286_0_4.length ckf739_0_4) := Beside.of (i := 0) rfl
 have hUf739 : g737 < w771.heap.size → g737 ∈ blocks ([.own 3 (.int .i64) (.slice Akf739_0_4 kf286_0_4.length ckf739_0_4) kf286_0_4] ++ [.box g737 24 [.slice Akf739_0_4 kf286_0_4.length ckf739_0_4, .slice Akf739_1_4 kf286_1_4.length ckf739_1_4]]) := fun _ => box_in (i := 1) rfl
 refine mp (.pointer (some ((⟨g737, 0, none⟩ : Addr).add 0))) (pu_field (sz := 1) Try.underlying24 rfl Try.sizeOf22 (by decide) rfl e19) ?_
 refine mixE.load hM (v := .slice Akf739_0_4 kf286_0_4.length ckf739_0_4) (fun _ hF => ld_fld (hS.bx2 (i := 2) rfl [3] (by decide) hF) Try.isAgg22 rfl rfl) ?_
 refine mp (.slice Al7_1 l7_1.length cl7_1) (pu_move e7) ?_
 refine mp (.int .i64 x302) (pu_move rfl) ?_
 obtain ⟨x311, h773, hb⟩ := bd hb
 obtain ⟨ad774, cs775, hA, ho778, hc776, hr777⟩ := hS.elo2 (i := 1) rfl (get_some h773).2 [3, 2] (by decide)
 subst hA
 refine mp (.pointer (some (ad774.add (x302.toNat * 2)))) (pu_index (a := x302) Try.underlying33 Try.sizeOf67 rfl rfl (by rw [(hC.ow (i := 1) rfl).sl_len.1]; exact (get_some h773).1)) ?_
 obtain ⟨k779, k780, rfl, hr781, hr782⟩ := hr777
 obtain ⟨rfl, hr781⟩ := hr781
 obtain ⟨rfl, hr782⟩ := hr782
 refine mp (.pointer (some ((ad774.add (x302.toNat * 2)).add 0))) (pu_ixa (A := (ad774.add (x302.toNat * 2))) (a := 0) (sz := 1) Try.underlying67 Try.sizeOf3 rfl rfl (by decide)) ?_
 refine mixE.steady hD (v := .int .i64 x311.1) (fun _ hF => ld_one Try.isAgg3 rfl (hF.cell (hc776 0 _ rfl) (off2 ho778))) ?_
 refine mixE.op hM (hC.lit (s := (.int .i64)) (vs := [.int .i64 x311.1]) (xs := [x311.1]) Try.underlying22 Try.type3 rfl rfl (Nat.le_of_ble_eq_true rfl) rfl rfl (by simp [Value.cells, Sh.n]) rfl (show Elems _ _ (.int .i64) ([.int .i64 x311.1] ++ ([])) ([x311.1] : List Int) from Elems.cons (⟨rfl, I64.wr (wrap_I64 hr781)⟩) (Elems.nil _ _ _))) ?_
 rintro _ w787 ⟨A783, c784, rfl, hl785, hc786, hC, hF, hN⟩
 have hBf788 := Beside.new hM hN
 have hUf788 := Beside.new (hM.wide (H := [.box g737 24 [.slice Akf739_0_4 kf286_0_4.length ckf739_0_4, .slice Akf739_1_4 kf286_1_4.length ckf739_1_4]])) hN
 replace hM := hM.none hF
 replace hD := hM.wide (H := [.box g737 24 [.slice Akf739_0_4 kf286_0_4.length ckf739_0_4, .slice Akf739_1_4 kf286_1_4.length ckf739_1_4]])
 refine ⟨hM, ?_⟩
 clear hF hN
 obtain ⟨u328, h790, hb⟩ := bd hb
 refine mixE.op hM (hC.app (i := 4) (s := (.int .i64)) (xs := kf286_0_4) (ys := ([x311.1] : List Int)) (m := ((([x311.1] : List Int)).length)) rfl Try.underlying22 Try.underlying22 Try.type3 rfl rfl rfl (hC.srco (i := 0) rfl) rfl rfl (by have := lim_some h790; simp at this ⊢ <;> omega) (by decide)) ?_
 rintro _ w795 ⟨A791, c792, rfl, hl793, hc794, hC, hF, hN⟩
 have hB := hBFf739_0_4
 replace hBFf739_0_4 := hB.app hM hN
 replace hM := hM.beside hB hF
 clear hB
 replace hD := hM.wide (H := [.box g737 24 [.slice Akf739_0_4 kf286_0_4.length ckf739_0_4, .slice Akf739_1_4 kf286_1_4.length ckf739_1_4]])
 refine ⟨hM, ?_⟩
 clear hF hN
 refine mp (.pointer (some ((⟨g737, 0, none⟩ : Addr).add 0))) (pu_field (sz := 1) Try.underlying24 rfl Try.sizeOf22 (by decide) rfl e19) ?_
 refine mixE.sk hD (hC.setf (i := 3) (k := 0) (v := .slice A791 ((kf286_0_4 ++ ([x311.1] : List Int)).length) c792) rfl Try.sizeOf22 rfl rfl rfl rfl) ?_
 rintro w796 ⟨hC, hF⟩
 replace hD := hD.besideG hUf739 hF
 clear hF
 refine ⟨hD, ?_⟩
 refine mixE.nil ?_
 clear hS hM
 clear hD
 refine hK769 _ _ ?_
 refine Wc.fresh fun E797 hE => ?_
 have e2 := (congrFun hE 2).trans e2
 have e3 := (congrFun hE 3).trans e3
 have e4 := (congrFun hE 4).trans e4
 have e6 := (congrFun hE 6).trans e6
 have e7 := (congrFun hE 7).trans e7
 have e19 := (congrFun hE 19).trans e19
 have e21 : E797 21 = .int .i64 x302 := (congrFun hE 21).trans rfl
 have e142 := (congrFun hE 142).trans e142
 have e143 := (congrFun hE 143).trans e143
 have e144 := (congrFun hE 144).trans e144
 have e145 : E797 145 = .bool (decide (v144_4 < (l8_1.length : Int))) := (congrFun hE 145).trans rfl
 clear hE
 refine Wc.regionMix [164] (frm [164] [.own 3 (.int .i64) (.slice Akf739_1_4 kf286_1_4.length ckf739_1_4) kf286_1_4] [.box g737 24 [.slice A791 ((kf286_0_4 ++ ([x311.1] : List Int)).length) c792, .slice Akf739_1_4 kf286_1_4.length ckf739_1_4]]) (fun _ => rfl) mixed (by decide +kernel) (by decide +kernel) fun w799 hw798 => ?_
 replace hC := hC.step (Fr.of_drew hw798)
 have hM := Fr.refl (fun k => k ∈ blocks [.own 3 (.int .i64) (.slice Akf739_1_4 kf286_1_4.length ckf739_1_4) kf286_1_4]) w799
 clear hw798
 have hS := hC
 have hBFf739_1_4 : Beside [.own 3 (.int .i64) (.slice Akf739_1_4 kf286_1_4.length ckf739_1_4) kf286_1_4] w799 (.slice Akf739_1_4 kf286_1_4.length ckf739_1_4) := Beside.of (i := 0) rfl
 have hD : Fr (fun k => k ∈ blocks ([.own 3 (.int .i64) (.slice Akf739_1_4 kf286_1_4.length ckf739_1_4) kf286_1_4] ++ [.box g737 24 [.slice A791 ((kf286_0_4 ++ ([x311.1] : List Int)).length) c792, .slice Akf739_1_4 kf286_1_4.length ckf739_1_4]])) w799 w799 := hM.wide
 have hUFf739_1_4 : Beside ([.own 3 (.int .i64) (.slice Akf739_1_4 kf286_1_4.length ckf739_1_4) kf286_1_4] ++ [.box g737 24 [.slice A791 ((kf286_0_4 ++ ([x311.1] : List Int)).length) c792, .slice Akf739_1_4 kf286_1_4.length ckf739_1_4]]) w799 (.slice Akf739_1_4 kf286_1_4.length ckf739_1_4) := Beside.of (i := 0) rfl
 have hUf739 : g737 < w799.heap.size → g737 ∈ blocks ([.own 3 (.int .i64) (.slice Akf739_1_4 kf286_1_4.length ckf739_1_4) kf286_1_4] ++ [.box g737 24 [.slice A791 ((kf286_0_4 ++ ([x311.1] : List Int)).length) c792, .slice Akf739_1_4 kf286_1_4.length ckf739_1_4]]) := fun _ => box_in (i := 1) rfl
 refine mp (.pointer (some ((⟨g737, 0, none⟩ : Addr).add 1))) (pu_field (sz := 1) Try.underlying24 rfl Try.sizeOf22 (by decide) rfl e19) ?_
 refine mixE.load hM (v := .slice Akf739_1_4 kf286_1_4.length ckf739_1_4) (fun _ hF => ld_fld (hS.bx2 (i := 3) rfl [5] (by decide) hF) Try.isAgg22 rfl rfl) ?_
 refine mp (.slice (some ad774) l7_1.length cl7_1) (pu_move e7) ?_
 refine mp (.int .i64 x302) (pu_move e21) ?_
 obtain ⟨x339, h801, hb⟩ := bd hb
 obtain ⟨ad802, cs803, hA, ho806, hc804, hr805⟩ := hS.elo2 (i := 2) rfl (get_some h801).2 [5, 3] (by decide)
 obtain rfl := Option.some.inj hA
 refine mp (.pointer (some (ad774.add (x302.toNat * 2)))) (pu_index (a := x302) Try.underlying33 Try.sizeOf67 rfl rfl (by rw [(hC.ow (i := 2) rfl).sl_len.1]; exact (get_some h801).1)) ?_
 obtain ⟨k807, k808, rfl, hr809, hr810⟩ := hr805
 obtain ⟨rfl, hr809⟩ := hr809
 obtain ⟨rfl, hr810⟩ := hr810
 refine mp (.pointer (some ((ad774.add (x302.toNat * 2)).add 1))) (pu_ixa (A := (ad774.add (x302.toNat * 2))) (a := 1) (sz := 1) Try.underlying67 Try.sizeOf3 rfl rfl (by decide)) ?_
 refine mixE.steady hD (v := .int .i64 x339.2) (fun _ hF => ld_one Try.isAgg3 rfl (hF.cell (hc804 1 _ rfl) (off2 ho806))) ?_
 refine mixE.op hM (hC.lit (s := (.int .i64)) (vs := [.int .i64 x339.2]) (xs := [x339.2]) Try.underlying22 Try.type3 rfl rfl (Nat.le_of_ble_eq_true rfl) rfl rfl (by simp [Value.cells, Sh.n]) rfl (show Elems _ _ (.int .i64) ([.int .i64 x339.2] ++ ([])) ([x339.2] : List Int) from Elems.cons (⟨rfl, I64.wr (wrap_I64 hr810)⟩) (Elems.nil _ _ _))) ?_
 rintro _ w815 ⟨A811, c812, rfl, hl813, hc814, hC, hF, hN⟩
 have hBf816 := Beside.new hM hN
 have hUf816 := Beside.new (hM.wide (H := [.box g737 24 [.slice A791 ((kf286_0_4 ++ ([x311.1] : List Int)).length) c792, .slice Akf739_1_4 kf286_1_4.length ckf739_1_4]])) hN
 replace hM := hM.none hF
 replace hD := hM.wide (H := [.box g737 24 [.slice A791 ((kf286_0_4 ++ ([x311.1] : List Int)).length) c792, .slice Akf739_1_4 kf286_1_4.length ckf739_1_4]])
 refine ⟨hM, ?_⟩
 clear hF hN
 obtain ⟨u356, h818, hb⟩ := bd hb
 refine mixE.op hM (hC.app (i := 6) (s := (.int .i64)) (xs := kf286_1_4) (ys := ([x339.2] : List Int)) (m := ((([x339.2] : List Int)).length)) rfl Try.underlying22 Try.underlying22 Try.type3 rfl rfl rfl (hC.srco (i := 0) rfl) rfl rfl (by have := lim_some h818; simp at this ⊢ <;> omega) (by decide)) ?_
 rintro _ w823 ⟨A819, c820, rfl, hl821, hc822, hC, hF, hN⟩
 have hB := hBFf739_1_4
 replace hBFf739_1_4 := hB.app hM hN
 replace hM := hM.beside hB hF
 clear hB
 replace hD := hM.wide (H := [.box g737 24 [.slice A791 ((kf286_0_4 ++ ([x311.1] : List Int)).length) c792, .slice Akf739_1_4 kf286_1_4.length ckf739_1_4]])
 refine ⟨hM, ?_⟩
 clear hF hN
 refine mp (.pointer (some ((⟨g737, 0, none⟩ : Addr).add 1))) (pu_field (sz := 1) Try.underlying24 rfl Try.sizeOf22 (by decide) rfl e19) ?_
 refine mixE.sk hD (hC.setf (i := 4) (k := 1) (v := .slice A819 ((kf286_1_4 ++ ([x339.2] : List Int)).length) c820) rfl Try.sizeOf22 rfl rfl rfl rfl) ?_
 rintro w824 ⟨hC, hF⟩
 replace hD := hD.besideG hUf739 hF
 clear hF
 refine ⟨hD, ?_⟩
 refine mixE.nil ?_
 clear hS hM
 clear hD
 refine hK761 _ _ ?_
 refine rg ?_
 obtain ⟨z364, h826, hb⟩ := bd hb
 refine lp (.int .i64 z364) (pu_addc (a := v144_4) (b := 1) e144 rfl h826) ?_
 refine lp (.int .i64 z364) (pu_move rfl) ?_
 refine ln ?_
 obtain rfl := os hb
 exact hK753 m754' _ _ (Nat.lt_succ_self _) ⟨z364, (kf286_0_4 ++ ([x311.1] : List Int)), (kf286_1_4 ++ ([x339.2] : List Int)), A791, (kf286_0_4 ++ ([x311.1] : List Int)).length, c792, A819, (kf286_1_4 ++ ([x339.2] : List Int)).length, c820, e2, e3, e4, e6, e7, e19, e142, e143, rfl, (chk_rng h826), hC.sel [2, 3, 4, 5, 6, 7] (by decide), lN hl4⟩
 replace hb := tf hq760 hb
 refine Wc.exit rfl ?_
 obtain rfl := os hb
 obtain rfl := (lX hl4).symm
 exact hK752 _ _ ⟨v144_4, kf286_0_4, kf286_1_4, Akf739_0_4, kf286_0_4.length, ckf739_0_4, Akf739_1_4, kf286_1_4.length, ckf739_1_4, e2, e3, e4, e6, e19, hrv144_4, hC.sel [0, 2, 3, 4] (by decide), hbK4⟩
 clear hb hC hl4
 rintro E828 w827 ⟨v144_4, kf286_0_4, kf286_1_4, Akf739_0_4, mkf739_0_4, ckf739_0_4, Akf739_1_4, mkf739_1_4, ckf739_1_4, e2, e3, e4, e6, e19, hrv144_4, hC, hb⟩
 obtain ⟨rfl, hlkf739_0_4, hckf739_0_4⟩ := (hC.ow (i := 2) rfl).sl_len
 obtain ⟨rfl, hlkf739_1_4, hckf739_1_4⟩ := (hC.ow (i := 3) rfl).sl_len
 refine hK749 _ _ ?_
 refine Wc.seq fun K829 hK829 => ?_
 refine Wc.seq fun K830 hK830 => ?_
 refine rg ?_
 refine lp (.int .i64 b_0_0) (pu_move e4) ?_
 refine lp (.int .i64 0) (pu_move rfl) ?_
 refine ln ?_
 refine hK830 _ _ ?_
 obtain ⟨o370, hl5, hb⟩ := bd hb
 refine Wc.cut (fun E wv => ∃ (v170_5 : Int) (kf286_0_5 : List Int) (kf286_1_5 : List Int) (Akf739_0_5 : Option Addr) (mkf739_0_5 ckf739_0_5 : Nat) (Akf739_1_5 : Option Addr) (mkf739_1_5 ckf739_1_5 : Nat), E 2 = .pointer (some ⟨g6, 0, none⟩) ∧ E 3 = .int .i64 0 ∧ E 19 = .pointer (some ⟨g737, 0, none⟩) ∧ I64 v170_5 ∧ Cx (fun _ => False) O0 w wv [.box g6 24 [.slice none 0 0, .slice none 0 0], .box g737 24 [.slice Akf739_0_5 mkf739_0_5 ckf739_0_5, .slice Akf739_1_5 mkf739_1_5 ckf739_1_5], .own 3 (.int .i64) (.slice Akf739_0_5 mkf739_0_5 ckf739_0_5) kf286_0_5, .own 3 (.int .i64) (.slice Akf739_1_5 mkf739_1_5 ckf739_1_5) kf286_1_5] ∧ (some (kf286_0_5, kf286_1_5, 0) : Option ((List Int) × (List Int) × Int)) = some r) (fun K832 hK832 => ?_) ?_
 refine Wc.block ?_
 refine Wc.loop (fun m E wv => ∃ (v170_5 : Int) (kf286_0_5 : List Int) (kf286_1_5 : List Int) (Akf739_0_5 : Option Addr) (mkf739_0_5 ckf739_0_5 : Nat) (Akf739_1_5 : Option Addr) (mkf739_1_5 ckf739_1_5 : Nat), E 2 = .pointer (some ⟨g6, 0, none⟩) ∧ E 3 = .int .i64 0 ∧ E 4 = .int .i64 b_0_0 ∧ E 6 = .int .i64 z26 ∧ E 19 = .pointer (some ⟨g737, 0, none⟩) ∧ E 169 = .int .i64 b_0_0 ∧ E 170 = .int .i64 v170_5 ∧ I64 v170_5 ∧ Cx (fun _ => False) O0 w wv [.box g6 24 [.slice none 0 0, .slice none 0 0], .box g737 24 [.slice Akf739_0_5 mkf739_0_5 ckf739_0_5, .slice Akf739_1_5 mkf739_1_5 ckf739_1_5], .own 3 (.int .i64) (.slice Akf739_0_5 mkf739_0_5 ckf739_0_5) kf286_0_5, .own 3 (.int .i64) (.slice Akf739_1_5 mkf739_1_5 ckf739_1_5) kf286_1_5] ∧ loopN m (F.gridlink_Braid_b5 n b_0_0 z26) (v170_5, kf286_0_5, kf286_1_5) = some o370) n ⟨0, kf286_0_4, kf286_1_4, Akf739_0_4, kf286_0_4.length, ckf739_0_4, Akf739_1_4, kf286_1_4.length, ckf739_1_4, e2, e3, e4, e6, e19, rfl, rfl, (show I64 0 from by unfold I64; omega), hC.sel [0, 1, 2, 3] (by decide), hl5⟩ ?_
 have hbK5 := hb
 clear hb hC hl5
 rintro m834 E836 w835 ⟨v170_5, kf286_0_5, kf286_1_5, Akf739_0_5, mkf739_0_5, ckf739_0_5, Akf739_1_5, mkf739_1_5, ckf739_1_5, e2, e3, e4, e6, e19, e169, e170, hrv170_5, hC, hl5⟩ K833 hK833
 obtain ⟨m834', o837, rfl, hb, hl5⟩ := loopN_some hl5
 unfold F.gridlink_Braid_b5 at hb
 obtain ⟨rfl, hlkf739_0_5, hckf739_0_5⟩ := (hC.ow (i := 2) rfl).sl_len
 obtain ⟨rfl, hlkf739_1_5, hckf739_1_5⟩ := (hC.ow (i := 3) rfl).sl_len
 refine Wc.seq fun K838 hK838 => ?_
 refine rg ?_
 refine lp (.bool (decide (v170_5 < b_0_0))) (pu_lss (k := .i64) (a := v170_5) (b := b_0_0) e170 e169) ?_
 refine ln ?_
 refine hK838 _ _ ?_
 refine Wc.seq fun K839 hK839 => ?_
 refine Wc.cond (t := (decide (v170_5 < b_0_0))) (rfl) (fun hq840 => ?_) (fun hq840 => ?_)
 replace hb := tt hq840 hb
 refine Wc.skip ?_
 refine hK839 _ _ ?_
 refine Wc.seq fun K841 hK841 => ?_
 refine Wc.block ?_
 refine Wc.seq fun K842 hK842 => ?_
 refine rg ?_
 refine lp (.int .i64 v170_5) (pu_move e170) ?_
 refine lp (.int .i64 v170_5) (pu_assign rfl) ?_
 refine ln ?_
 refine hK842 _ _ ?_
 refine Wc.seq fun K843 hK843 => ?_
 refine rg ?_
 refine lp (.int .i64 b_0_0) (pu_move e4) ?_
 obtain ⟨z383, h845, hb⟩ := bd hb
 refine lp (.int .i64 z383) (pu_subc (a := b_0_0) (b := 1) rfl rfl h845) ?_
 refine lp (.int .i64 v170_5) (pu_move rfl) ?_
 obtain ⟨z385, h847, hb⟩ := bd hb
 refine lp (.int .i64 z385) (pu_subc (a := z383) (b := v170_5) rfl rfl h847) ?_
 refine lp (.int .i64 z385) (pu_assign rfl) ?_
 refine ln ?_
 refine hK843 _ _ ?_
 refine Wc.seq fun K848 hK848 => ?_
 refine rg ?_
 refine lp (.pointer (some ((⟨g737, 0, none⟩ : Addr).add 0))) (pu_field (sz := 1) Try.underlying24 rfl Try.sizeOf22 (by decide) rfl e19) ?_
 refine lv (.slice Akf739_0_5 kf286_0_5.length ckf739_0_5) (ld_fld (hC.bx (i := 1) rfl) Try.isAgg22 rfl rfl) ?_
 refine lp (.int .i64 z26) (pu_move e6) ?_
 obtain ⟨z388, h850, hb⟩ := bd hb
 refine lp (.int .i64 z388) (pu_subc (a := z26) (b := 1) rfl rfl h850) ?_
 refine lp (.int .i64 z385) (pu_move rfl) ?_
 obtain ⟨z390, h852, hb⟩ := bd hb
 refine lp (.int .i64 z390) (pu_subc (a := z388) (b := z385) rfl rfl h852) ?_
 refine lex.op (hC.lit (s := (.int .i64)) (vs := [.int .i64 z390]) (xs := [z390]) Try.underlying22 Try.type3 rfl rfl (Nat.le_of_ble_eq_true rfl) rfl rfl (by simp [Value.cells, Sh.n]) rfl (show Elems _ _ (.int .i64) ([.int .i64 z390] ++ ([])) ([z390] : List Int) from Elems.cons (⟨rfl, I64.wr (chk_rng h852)⟩) (Elems.nil _ _ _))) ?_
 rintro _ w857 ⟨A853, c854, rfl, hl855, hc856, hC, hF, hN⟩
 clear hF hN
 obtain ⟨u398, h860, hb⟩ := bd hb
 refine lex.op (hC.app (i := 3) (s := (.int .i64)) (xs := kf286_0_5) (ys := ([z390] : List Int)) (m := ((([z390] : List Int)).length)) rfl Try.underlying22 Try.underlying22 Try.type3 rfl rfl rfl (hC.srco (i := 0) rfl) rfl rfl (by have := lim_some h860; simp at this ⊢ <;> omega) (by decide)) ?_
 rintro _ w865 ⟨A861, c862, rfl, hl863, hc864, hC, hF, hN⟩
 clear hF hN
 refine lp (.pointer (some ((⟨g737, 0, none⟩ : Addr).add 0))) (pu_field (sz := 1) Try.underlying24 rfl Try.sizeOf22 (by decide) rfl e19) ?_
 refine lex.sk (hC.setf (i := 2) (k := 0) (v := .slice A861 ((kf286_0_5 ++ ([z390] : List Int)).length) c862) rfl Try.sizeOf22 rfl rfl rfl rfl) ?_
 rintro w866 ⟨hC, hF⟩
 refine ln ?_
 refine hK848 _ _ ?_
 refine Wc.fresh fun E867 hE => ?_
 have e2 := (congrFun hE 2).trans e2
 have e3 := (congrFun hE 3).trans e3
 have e4 := (congrFun hE 4).trans e4
 have e6 := (congrFun hE 6).trans e6
 have e19 := (congrFun hE 19).trans e19
 have e22 : E867 22 = .int .i64 v170_5 := (congrFun hE 22).trans rfl
 have e23 : E867 23 = .int .i64 z385 := (congrFun hE 23).trans rfl
 have e169 := (congrFun hE 169).trans e169
 have e170 := (congrFun hE 170).trans e170
 have e171 : E867 171 = .bool (decide (v170_5 < b_0_0)) := (congrFun hE 171).trans rfl
 clear hE
 refine rg ?_
 refine lp (.pointer (some ((⟨g737, 0, none⟩ : Addr).add 1))) (pu_field (sz := 1) Try.underlying24 rfl Try.sizeOf22 (by decide) rfl e19) ?_
 refine lv (.slice Akf739_1_5 kf286_1_5.length ckf739_1_5) (ld_fld (hC.bx (i := 2) rfl) Try.isAgg22 rfl rfl) ?_
 refine lp (.int .i64 z385) (pu_move e23) ?_
 refine lex.op (hC.lit (s := (.int .i64)) (vs := [.int .i64 z385]) (xs := [z385]) Try.underlying22 Try.type3 rfl rfl (Nat.le_of_ble_eq_true rfl) rfl rfl (by simp [Value.cells, Sh.n]) rfl (show Elems _ _ (.int .i64) ([.int .i64 z385] ++ ([])) ([z385] : List Int) from Elems.cons (⟨rfl, I64.wr (chk_rng h847)⟩) (Elems.nil _ _ _))) ?_
 rintro _ w872 ⟨A868, c869, rfl, hl870, hc871, hC, hF, hN⟩
 clear hF hN
 obtain ⟨u413, h875, hb⟩ := bd hb
 refine lex.op (hC.app (i := 5) (s := (.int .i64)) (xs := kf286_1_5) (ys := ([z385] : List Int)) (m := ((([z385] : List Int)).length)) rfl Try.underlying22 Try.underlying22 Try.type3 rfl rfl rfl (hC.srco (i := 0) rfl) rfl rfl (by have := lim_some h875; simp at this ⊢ <;> omega) (by decide)) ?_
 rintro _ w880 ⟨A876, c877, rfl, hl878, hc879, hC, hF, hN⟩
 clear hF hN
 refine lp (.pointer (some ((⟨g737, 0, none⟩ : Addr).add 1))) (pu_field (sz := 1) Try.underlying24 rfl Try.sizeOf22 (by decide) rfl e19) ?_
 refine lex.sk (hC.setf (i := 3) (k := 1) (v := .slice A876 ((kf286_1_5 ++ ([z385] : List Int)).length) c877) rfl Try.sizeOf22 rfl rfl rfl rfl) ?_
 rintro w881 ⟨hC, hF⟩
 refine ln ?_
 refine hK841 _ _ ?_
 refine rg ?_
 obtain ⟨z421, h883, hb⟩ := bd hb
 refine lp (.int .i64 z421) (pu_addc (a := v170_5) (b := 1) e170 rfl h883) ?_
 refine lp (.int .i64 z421) (pu_move rfl) ?_
 refine ln ?_
 obtain rfl := os hb
 exact hK833 m834' _ _ (Nat.lt_succ_self _) ⟨z421, (kf286_0_5 ++ ([z390] : List Int)), (kf286_1_5 ++ ([z385] : List Int)), A861, (kf286_0_5 ++ ([z390] : List Int)).length, c862, A876, (kf286_1_5 ++ ([z385] : List Int)).length, c877, e2, e3, e4, e6, e19, e169, rfl, (chk_rng h883), hC.sel [2, 3, 4, 5] (by decide), lN hl5⟩
 replace hb := tf hq840 hb
 refine Wc.exit rfl ?_
 obtain rfl := os hb
 obtain rfl := (lX hl5).symm
 exact hK832 _ _ ⟨v170_5, kf286_0_5, kf286_1_5, Akf739_0_5, kf286_0_5.length, ckf739_0_5, Akf739_1_5, kf286_1_5.length, ckf739_1_5, e2, e3, e19, hrv170_5, hC.sel [0, 1, 2, 3] (by decide), hbK5⟩
 clear hb hC hl5
 rintro E885 w884 ⟨v170_5, kf286_0_5, kf286_1_5, Akf739_0_5, mkf739_0_5, ckf739_0_5, Akf739_1_5, mkf739_1_5, ckf739_1_5, e2, e3, e19, hrv170_5, hC, hb⟩
 obtain ⟨rfl, hlkf739_0_5, hckf739_0_5⟩ := (hC.ow (i := 2) rfl).sl_len
 obtain ⟨rfl, hlkf739_1_5, hckf739_1_5⟩ := (hC.ow (i := 3) rfl).sl_len
 refine hK829 _ _ ?_
 refine Wc.seq fun K886 hK886 => ?_
 refine rg ?_
 refine lv (.agg #[.slice Akf739_0_5 kf286_0_5.length ckf739_0_5, .slice Akf739_1_5 kf286_1_5.length ckf739_1_5]) (ld_blk (hC.bx (i := 1) rfl) Try.isAgg24 Try.sizeOf24 e19) ?_
 refine lex.sk (hC.seta (i := 0) (ds := [.slice Akf739_0_5 kf286_0_5.length ckf739_0_5, .slice Akf739_1_5 kf286_1_5.length ckf739_1_5]) rfl Try.type24 rfl rfl rfl e2 rfl) ?_
 rintro w887 ⟨hC, hF⟩
 refine lp (.int .i64 0) (pu_assign rfl) ?_
 refine ln ?_
 refine hK886 _ _ ?_
 obtain rfl := os hb
 refine Wc.ret ?_
 refine hKR _ _ ?_
 refine ⟨_, res2 Try.results18 ⟨_, e2, loadVar_blk (hC.bx (i := 0) rfl) Try.isAgg24 Try.sizeOf24⟩ (show RV _ _ _ (.tmp _) (.int .i64 0) from rfl), _, rfl, Akf739_0_5, kf286_0_5.length, ckf739_0_5, Akf739_1_5, kf286_1_5.length, ckf739_1_5, rfl, (show I64 0 from by unfold I64; omega), hC.sel [2, 3] (by decide)⟩
 refine mixPE_chain ?_
 refine mixE.op hM (hC.alloc (cs := [.slice none 0 0, .slice none 0 0]) Try.zeroValue24 rfl) ?_
 rintro _ w889 ⟨g888, rfl, hC, hF, hG⟩
 have hUf890 : g888 < w267.heap.size → g888 ∈ blocks (([] : List Fact) ++ ([] : List Fact)) := fun h => absurd (Nat.lt_of_lt_of_le h (Nat.le_trans hM.size hG)) (Nat.lt_irrefl _)
 clear hG
 replace hM := hM.none hF
 replace hD := hM.wide (H := ([] : List Fact))
 refine ⟨hM, ?_⟩
 refine mixE.nil ?_
 refine mixPE_alt ?_ ?_
 refine mixPE_chain ?_
 obtain ⟨u268, h892, hb⟩ := bd hb
 refine mixE.op hM (hC.make0 (s := (.int .i64)) (n := z26) Try.underlying22 Try.type3 rfl rfl rfl rfl (pos_some h892).1 (pos_some h892).2 (by decide)) ?_
 rintro _ w897 ⟨A893, c894, rfl, hl895, hc896, hC, hF, hN⟩
 have hBf898 := Beside.new hM hN
 have hUf898 := Beside.new (hM.wide (H := ([] : List Fact))) hN
 replace hM := hM.none hF
 replace hD := hM.wide (H := ([] : List Fact))
 refine ⟨hM, ?_⟩
 clear hF hN
 refine mixE.nil ?_
 refine mixPE_chain ?_
 obtain ⟨u276, h900, hb⟩ := bd hb
 refine mixE.op hM (hC.make0 (s := (.int .i64)) (n := z26) Try.underlying22 Try.type3 rfl rfl rfl rfl (pos_some h900).1 (pos_some h900).2 (by decide)) ?_
 rintro _ w905 ⟨A901, c902, rfl, hl903, hc904, hC, hF, hN⟩
 have hBf906 := Beside.new hM hN
 have hUf906 := Beside.new (hM.wide (H := ([] : List Fact))) hN
 replace hM := hM.none hF
 replace hD := hM.wide (H := ([] : List Fact))
 refine ⟨hM, ?_⟩
 clear hF hN
 refine mp (.agg #[.slice A893 ((([] : List Int)).length) c894, .slice A901 ((([] : List Int)).length) c902]) (pu_builds (places := [(0, 1), (1, 1)]) (pv := [(0, .slice A893 ((([] : List Int)).length) c894), (1, .slice A901 ((([] : List Int)).length) c902)]) Try.type24 Try.underlying24 rfl (mp_cons Try.type22 (mp_cons Try.type22 mp_nil rfl rfl) rfl rfl) rfl (by simp [Instr.fill, Value.cells])) ?_
 refine mixE.sk hD (hC.seta (i := 2) (ds := [.slice A893 ((([] : List Int)).length) c894, .slice A901 ((([] : List Int)).length) c902]) rfl Try.type24 rfl rfl rfl rfl rfl) ?_
 rintro w907 ⟨hC, hF⟩
 replace hD := hD.besideG hUf890 hF
 clear hF
 refine ⟨hD, ?_⟩
 refine mixE.nil ?_
 clear hS hM
 clear hD
 refine hK265 _ _ ?_
 refine Wc.seq fun K908 hK908 => ?_
 refine Wc.seq fun K909 hK909 => ?_
 refine rg ?_
 refine lp (.slice Al8_1 l8_1.length cl8_1) (pu_move e8) ?_
 refine lp (.int .i64 (l8_1.length : Int)) (pu_len (A := Al8_1) (n := l8_1.length) (m := cl8_1) Try.underlying22 rfl) ?_
 refine lp (.int .i64 0) (pu_move rfl) ?_
 refine ln ?_
 refine hK909 _ _ ?_
 obtain ⟨o290, hl4, hb⟩ := bd hb
 refine Wc.cut (fun E wv => ∃ (v144_4 : Int) (kf286_0_4 : List Int) (kf286_1_4 : List Int) (Akf890_0_4 : Option Addr) (mkf890_0_4 ckf890_0_4 : Nat) (Akf890_1_4 : Option Addr) (mkf890_1_4 ckf890_1_4 : Nat), E 2 = .pointer (some ⟨g6, 0, none⟩) ∧ E 3 = .int .i64 0 ∧ E 4 = .int .i64 b_0_0 ∧ E 6 = .int .i64 z26 ∧ E 19 = .pointer (some ⟨g888, 0, none⟩) ∧ I64 v144_4 ∧ Cx (fun _ => False) O0 w wv [.box g6 24 [.slice none 0 0, .slice none 0 0], .box g888 24 [.slice Akf890_0_4 mkf890_0_4 ckf890_0_4, .slice Akf890_1_4 mkf890_1_4 ckf890_1_4], .own 3 (.int .i64) (.slice Akf890_0_4 mkf890_0_4 ckf890_0_4) kf286_0_4, .own 3 (.int .i64) (.slice Akf890_1_4 mkf890_1_4 ckf890_1_4) kf286_1_4] ∧ (((loopN n (F.gridlink_Braid_b5 n b_0_0 z26) (0, kf286_0_4, kf286_1_4)).bind fun o370 => match o370 with     | (v170_5, kf286_0_5, kf286_1_5) => some (kf286_0_5, kf286_1_5, 0)) : Option ((List Int) × (List Int) × Int)) = some r) (fun K911 hK911 => ?_) ?_
 refine Wc.block ?_
 refine Wc.loop (fun m E wv => ∃ (v144_4 : Int) (kf286_0_4 : List Int) (kf286_1_4 : List Int) (Akf890_0_4 : Option Addr) (mkf890_0_4 ckf890_0_4 : Nat) (Akf890_1_4 : Option Addr) (mkf890_1_4 ckf890_1_4 : Nat), E 2 = .pointer (some ⟨g6, 0, none⟩) ∧ E 3 = .int .i64 0 ∧ E 4 = .int .i64 b_0_0 ∧ E 6 = .int .i64 z26 ∧ E 7 = .slice Al7_1 l7_1.length cl7_1 ∧ E 19 = .pointer (some ⟨g888, 0, none⟩) ∧ E 142 = .slice Al8_1 l8_1.length cl8_1 ∧ E 143 = .int .i64 (l8_1.length : Int) ∧ E 144 = .int .i64 v144_4 ∧ I64 v144_4 ∧ Cx (fun _ => False) O0 w wv [.box g6 24 [.slice none 0 0, .slice none 0 0], .own 67 (.pr (.int .i64) (.int .i64)) (.slice Al7_1 l7_1.length cl7_1) qF7_1_3, .box g888 24 [.slice Akf890_0_4 mkf890_0_4 ckf890_0_4, .slice Akf890_1_4 mkf890_1_4 ckf890_1_4], .own 3 (.int .i64) (.slice Akf890_0_4 mkf890_0_4 ckf890_0_4) kf286_0_4, .own 3 (.int .i64) (.slice Akf890_1_4 mkf890_1_4 ckf890_1_4) kf286_1_4, .own 3 (.int .i64) (.slice Al8_1 l8_1.length cl8_1) l8_1] ∧ loopN m (F.gridlink_Braid_b4 n l8_1 qF7_1_3) (v144_4, kf286_0_4, kf286_1_4) = some o290) n ⟨0, ([] : List Int), ([] : List Int), A893, (([] : List Int)).length, c894, A901, (([] : List Int)).length, c902, e2, e3, e4, e6, e7, rfl, rfl, rfl, rfl, (show I64 0 from by unfold I64; omega), hC.sel [3, 4, 2, 1, 0, 5] (by decide), hl4⟩ ?_
 have hbK4 := hb
 clear hb hC hl4
 rintro m913 E915 w914 ⟨v144_4, kf286_0_4, kf286_1_4, Akf890_0_4, mkf890_0_4, ckf890_0_4, Akf890_1_4, mkf890_1_4, ckf890_1_4, e2, e3, e4, e6, e7, e19, e142, e143, e144, hrv144_4, hC, hl4⟩ K912 hK912
 obtain ⟨m913', o916, rfl, hb, hl4⟩ := loopN_some hl4
 unfold F.gridlink_Braid_b4 at hb
 obtain ⟨rfl, hlkf890_0_4, hckf890_0_4⟩ := (hC.ow (i := 3) rfl).sl_len
 obtain ⟨rfl, hlkf890_1_4, hckf890_1_4⟩ := (hC.ow (i := 4) rfl).sl_len
 refine Wc.seq fun K917 hK917 => ?_
 refine rg ?_
 refine lp (.bool (decide (v144_4 < (l8_1.length : Int)))) (pu_lss (k := .i64) (a := v144_4) (b := (l8_1.length : Int)) e144 e143) ?_
 refine ln ?_
 refine hK917 _ _ ?_
 refine Wc.seq fun K918 hK918 => ?_
 refine Wc.cond (t := (decide (v144_4 < (l8_1.length : Int)))) (rfl) (fun hq919 => ?_) (fun hq919 => ?_)
 replace hb := tt hq919 hb
 refine Wc.skip ?_
 refine hK918 _ _ ?_
 refine Wc.seq fun K920 hK920 => ?_
 refine Wc.block ?_
 refine Wc.seq fun K921 hK921 => ?_
 refine rg ?_
 obtain ⟨x302, h923, hb⟩ := bd hb
 obtain ⟨ad924, cs925, hA, hc926, hr927⟩ := hC.elo (i := 5) rfl (get_some h923).2
 subst hA
 refine lp (.pointer (some (ad924.add (v144_4.toNat * 1)))) (pu_index (a := v144_4) Try.underlying22 Try.sizeOf3 e142 e144 (get_some h923).1) ?_
 obtain ⟨rfl, hr927'⟩ := hr927
 refine lv (.int .i64 x302) (ld_one Try.isAgg3 rfl (hc926 0 _ rfl)) ?_
 refine lp (.int .i64 x302) (pu_assign rfl) ?_
 refine ln ?_
 refine hK921 _ _ ?_
 refine Wc.seq fun K928 hK928 => ?_
 refine Wc.regionMix [154] (frm [154] [.own 3 (.int .i64) (.slice Akf890_0_4 kf286_0_4.length ckf890_0_4) kf286_0_4] [.box g888 24 [.slice Akf890_0_4 kf286_0_4.length ckf890_0_4, .slice Akf890_1_4 kf286_1_4.length ckf890_1_4]]) (fun _ => rfl) mixed (by decide +kernel) (by decide +kernel) fun w930 hw929 => ?_
 replace hC := hC.step (Fr.of_drew hw929)
 have hM := Fr.refl (fun k => k ∈ blocks [.own 3 (.int .i64) (.slice Akf890_0_4 kf286_0_4.length ckf890_0_4) kf286_0_4]) w930
 clear hw929
 have hS := hC
 have hBFf890_0_4 : Beside [.own 3 (.int .i64) (.slice Akf890_0_4 kf286_0_4.length ckf890_0_4) kf286_0_4] w930 (.slice Akf890_0_4 kf286_0_4.length ckf890_0_4) := Beside.of (i := 0) rfl
 have hD : Fr (fun k => k ∈ blocks ([.own 3 (.int .i64) (.slice Akf890_0_4 kf286_0_4.length ckf890_0_4) kf286_0_4] ++ [.box g888 24 [.slice Akf890_0_4 kf286_0_4.length ckf890_0_4, .slice Akf890_1_4 kf286_1_4.length ckf890_1_4]])) w930 w930 := hM.wide
 have hUFf890_0_4 : Beside ([.own 3 (.int .i64) (.slice Akf890_0_4 kf286_0_4.length ckf890_0_4) kf286_0_4] ++ [.box g888 24 [.slice Akf890_0_4 kf286_0_4.length ckf890_0_4, .slice Akf890_1_4 kf286_1_4.length ckf890_1_4]]) w930 (.slice Akf890_0_4 kf286_0_4.length ckf890_0_4) := Beside.of (i := 0) rfl
 have hUf890 : g888 < w930.heap.size → g888 ∈ blocks ([.own 3 (.int .i64) (.slice Akf890_0_4 kf286_0_4.length ckf890_0_4) kf286_0_4] ++ [.box g888 24 [.slice Akf890_0_4 kf286_0_4.length ckf890_0_4, .slice Akf890_1_4 kf286_1_4.length ckf890_1_4]]) := fun _ => box_in (i := 1) rfl
 refine mp (.pointer (some ((⟨g888, 0, none⟩ : Addr).add 0))) (pu_field (sz := 1) Try.underlying24 rfl Try.sizeOf22 (by decide) rfl e19) ?_
 refine mixE.load hM (v := .slice Akf890_0_4 kf286_0_4.length ckf890_0_4) (fun _ hF => ld_fld (hS.bx2 (i := 2) rfl [3] (by decide) hF) Try.isAgg22 rfl rfl) ?_
 refine mp (.slice Al7_1 l7_1.length cl7_1) (pu_move e7) ?_
 refine mp (.int .i64 x302) (pu_move rfl) ?_
 obtain ⟨x311, h932, hb⟩ := bd hb
 obtain ⟨ad933, cs934, hA, ho937, hc935, hr936⟩ := hS.elo2 (i := 1) rfl (get_some h932).2 [3, 2] (by decide)
 subst hA
 refine mp (.pointer (some (ad933.add (x302.toNat * 2)))) (pu_index (a := x302) Try.underlying33 Try.sizeOf67 rfl rfl (by rw [(hC.ow (i := 1) rfl).sl_len.1]; exact (get_some h932).1)) ?_
 obtain ⟨k938, k939, rfl, hr940, hr941⟩ := hr936
 obtain ⟨rfl, hr940⟩ := hr940
 obtain ⟨rfl, hr941⟩ := hr941
 refine mp (.pointer (some ((ad933.add (x302.toNat * 2)).add 0))) (pu_ixa (A := (ad933.add (x302.toNat * 2))) (a := 0) (sz := 1) Try.underlying67 Try.sizeOf3 rfl rfl (by decide)) ?_
 refine mixE.steady hD (v := .int .i64 x311.1) (fun _ hF => ld_one Try.isAgg3 rfl (hF.cell (hc935 0 _ rfl) (off2 ho937))) ?_
 refine mixE.op hM (hC.lit (s := (.int .i64)) (vs := [.int .i64 x311.1]) (xs := [x311.1]) Try.underlying22 Try.type3 rfl rfl (Nat.le_of_ble_eq_true rfl) rfl rfl (by simp [Value.cells, Sh.n]) rfl (show Elems _ _ (.int .i64) ([.int .i64 x311.1] ++ ([])) ([x311.1] : List Int) from Elems.cons (⟨rfl, I64.wr (wrap_I64 hr940)⟩) (Elems.nil _ _ _))) ?_
 rintro _ w946 ⟨A942, c943, rfl, hl944, hc945, hC, hF, hN⟩
 have hBf947 := Beside.new hM hN
 have hUf947 := Beside.new (hM.wide (H := [.box g888 24 [.slice Akf890_0_4 kf286_0_4.length ckf890_0_4, .slice Akf890_1_4 kf286_1_4.length ckf890_1_4]])) hN
 replace hM := hM.none hF
 replace hD := hM.wide (H := [.box g888 24 [.slice Akf890_0_4 kf286_0_4.length ckf890_0_4, .slice Akf890_1_4 kf286_1_4.length ckf890_1_4]])
 refine ⟨hM, ?_⟩
 clear hF hN
 obtain ⟨u328, h949, hb⟩ := bd hb
 refine mixE.op hM (hC.app (i := 4) (s := (.int .i64)) (xs := kf286_0_4) (ys := ([x311.1] : List Int)) (m := ((([x311.1] : List Int)).length)) rfl Try.underlying22 Try.underlying22 Try.type3 rfl rfl rfl (hC.srco (i := 0) rfl) rfl rfl (by have := lim_some h949; simp at this ⊢ <;> omega) (by decide)) ?_
 rintro _ w954 ⟨A950, c951, rfl, hl952, hc953, hC, hF, hN⟩
 have hB := hBFf890_0_4
 replace hBFf890_0_4 := hB.app hM hN
 replace hM := hM.beside hB hF
 clear hB
 replace hD := hM.wide (H := [.box g888 24 [.slice Akf890_0_4 kf286_0_4.length ckf890_0_4, .slice Akf890_1_4 kf286_1_4.length ckf890_1_4]])
 refine ⟨hM, ?_⟩
 clear hF hN
 refine mp (.pointer (some ((⟨g888, 0, none⟩ : Addr).add 0))) (pu_field (sz := 1) Try.underlying24 rfl Try.sizeOf22 (by decide) rfl e19) ?_
 refine mixE.sk hD (hC.setf (i := 3) (k := 0) (v := .slice A950 ((kf286_0_4 ++ ([x311.1] : List Int)).length) c951) rfl Try.sizeOf22 rfl rfl rfl rfl) ?_
 rintro w955 ⟨hC, hF⟩
 replace hD := hD.besideG hUf890 hF
 clear hF
 refine ⟨hD, ?_⟩
 refine mixE.nil ?_
 clear hS hM
 clear hD
 refine hK928 _ _ ?_
 refine Wc.fresh fun E956 hE => ?_
 have e2 := (congrFun hE 2).trans e2
 have e3 := (congrFun hE 3).trans e3
 have e4 := (congrFun hE 4).trans e4
 have e6 := (congrFun hE 6).trans e6
 have e7 := (congrFun hE 7).trans e7
 have e19 := (congrFun hE 19).trans e19
 have e21 : E956 21 = .int .i64 x302 := (congrFun hE 21).trans rfl
 have e142 := (congrFun hE 142).trans e142
 have e143 := (congrFun hE 143).trans e143
 have e144 := (congrFun hE 144).trans e144
 have e145 : E956 145 = .bool (decide (v144_4 < (l8_1.length : Int))) := (congrFun hE 145).trans rfl
 clear hE
 refine Wc.regionMix [164] (frm [164] [.own 3 (.int .i64) (.slice Akf890_1_4 kf286_1_4.length ckf890_1_4) kf286_1_4] [.box g888 24 [.slice A950 ((kf286_0_4 ++ ([x311.1] : List Int)).length) c951, .slice Akf890_1_4 kf286_1_4.length ckf890_1_4]]) (fun _ => rfl) mixed (by decide +kernel) (by decide +kernel) fun w958 hw957 => ?_
 replace hC := hC.step (Fr.of_drew hw957)
 have hM := Fr.refl (fun k => k ∈ blocks [.own 3 (.int .i64) (.slice Akf890_1_4 kf286_1_4.length ckf890_1_4) kf286_1_4]) w958
 clear hw957
 have hS := hC
 have hBFf890_1_4 : Beside [.own 3 (.int .i64) (.slice Akf890_1_4 kf286_1_4.length ckf890_1_4) kf286_1_4] w958 (.slice Akf890_1_4 kf286_1_4.length ckf890_1_4) := Beside.of (i := 0) rfl
 have hD : Fr (fun k => k ∈ blocks ([.own 3 (.int .i64) (.slice Akf890_1_4 kf286_1_4.length ckf890_1_4) kf286_1_4] ++ [.box g888 24 [.slice A950 ((kf286_0_4 ++ ([x311.1] : List Int)).length) c951, .slice Akf890_1_4 kf286_1_4.length ckf890_1_4]])) w958 w958 := hM.wide
 have hUFf890_1_4 : Beside ([.own 3 (.int .i64) (.slice Akf890_1_4 kf286_1_4.length ckf890_1_4) kf286_1_4] ++ [.box g888 24 [.slice A950 ((kf286_0_4 ++ ([x311.1] : List Int)).length) c951, .slice Akf890_1_4 kf286_1_4.length ckf890_1_4]]) w958 (.slice Akf890_1_4 kf286_1_4.length ckf890_1_4) := Beside.of (i := 0) rfl
 have hUf890 : g888 < w958.heap.size → g888 ∈ blocks ([.own 3 (.int .i64) (.slice Akf890_1_4 kf286_1_4.length ckf890_1_4) kf286_1_4] ++ [.box g888 24 [.slice A950 ((kf286_0_4 ++ ([x311.1] : List Int)).length) c951, .slice Akf890_1_4 kf286_1_4.length ckf890_1_4]]) := fun _ => box_in (i := 1) rfl
 refine mp (.pointer (some ((⟨g888, 0, none⟩ : Addr).add 1))) (pu_field (sz := 1) Try.underlying24 rfl Try.sizeOf22 (by decide) rfl e19) ?_
 refine mixE.load hM (v := .slice Akf890_1_4 kf286_1_4.length ckf890_1_4) (fun _ hF => ld_fld (hS.bx2 (i := 3) rfl [5] (by decide) hF) Try.isAgg22 rfl rfl) ?_
 refine mp (.slice (some ad933) l7_1.length cl7_1) (pu_move e7) ?_
 refine mp (.int .i64 x302) (pu_move e21) ?_
 obtain ⟨x339, h960, hb⟩ := bd hb
 obtain ⟨ad961, cs962, hA, ho965, hc963, hr964⟩ := hS.elo2 (i := 2) rfl (get_some h960).2 [5, 3] (by decide)
 obtain rfl := Option.some.inj hA
 refine mp (.pointer (some (ad933.add (x302.toNat * 2)))) (pu_index (a := x302) Try.underlying33 Try.sizeOf67 rfl rfl (by rw [(hC.ow (i := 2) rfl).sl_len.1]; exact (get_some h960).1)) ?_
 obtain ⟨k966, k967, rfl, hr968, hr969⟩ := hr964
 obtain ⟨rfl, hr968⟩ := hr968
 obtain ⟨rfl, hr969⟩ := hr969
 refine mp (.pointer (some ((ad933.add (x302.toNat * 2)).add 1))) (pu_ixa (A := (ad933.add (x302.toNat * 2))) (a := 1) (sz := 1) Try.underlying67 Try.sizeOf3 rfl rfl (by decide)) ?_
 refine mixE.steady hD (v := .int .i64 x339.2) (fun _ hF => ld_one Try.isAgg3 rfl (hF.cell (hc963 1 _ rfl) (off2 ho965))) ?_
 refine mixE.op hM (hC.lit (s := (.int .i64)) (vs := [.int .i64 x339.2]) (xs := [x339.2]) Try.underlying22 Try.type3 rfl rfl (Nat.le_of_ble_eq_true rfl) rfl rfl (by simp [Value.cells, Sh.n]) rfl (show Elems _ _ (.int .i64) ([.int .i64 x339.2] ++ ([])) ([x339.2] : List Int) from Elems.cons (⟨rfl, I64.wr (wrap_I64 hr969)⟩) (Elems.nil _ _ _))) ?_
 rintro _ w974 ⟨A970, c971, rfl, hl972, hc973, hC, hF, hN⟩
 have hBf975 := Beside.new hM hN
 have hUf975 := Beside.new (hM.wide (H := [.box g888 24 [.slice A950 ((kf286_0_4 ++ ([x311.1] : List Int)).length) c951, .slice Akf890_1_4 kf286_1_4.length ckf890_1_4]])) hN
 replace hM := hM.none hF
 replace hD := hM.wide (H := [.box g888 24 [.slice A950 ((kf286_0_4 ++ ([x311.1] : List Int)).length) c951, .slice Akf890_1_4 kf286_1_4.length ckf890_1_4]])
 refine ⟨hM, ?_⟩
 clear hF hN
 obtain ⟨u356, h977, hb⟩ := bd hb
 refine mixE.op hM (hC.app (i := 6) (s := (.int .i64)) (xs := kf286_1_4) (ys := ([x339.2] : List Int)) (m := ((([x339.2] : List Int)).length)) rfl Try.underlying22 Try.underlying22 Try.type3 rfl rfl rfl (hC.srco (i := 0) rfl) rfl rfl (by have := lim_some h977; simp at this ⊢ <;> omega) (by decide)) ?_
 rintro _ w982 ⟨A978, c979, rfl, hl980, hc981, hC, hF, hN⟩
 have hB := hBFf890_1_4
 replace hBFf890_1_4 := hB.app hM hN
 replace hM := hM.beside hB hF
 clear hB
 replace hD := hM.wide (H := [.box g888 24 [.slice A950 ((kf286_0_4 ++ ([x311.1] : List Int)).length) c951, .slice Akf890_1_4 kf286_1_4.length ckf890_1_4]])
 refine ⟨hM, ?_⟩
 clear hF hN
 refine mp (.pointer (some ((⟨g888, 0, none⟩ : Addr).add 1))) (pu_field (sz := 1) Try.underlying24 rfl Try.sizeOf22 (by decide) rfl e19) ?_
 refine mixE.sk hD (hC.setf (i := 4) (k := 1) (v := .slice A978 ((kf286_1_4 ++ ([x339.2] : List Int)).length) c979) rfl Try.sizeOf22 rfl rfl rfl rfl) ?_
 rintro w983 ⟨hC, hF⟩
 replace hD := hD.besideG hUf890 hF
 clear hF
 refine ⟨hD, ?_⟩
 refine mixE.nil ?_
 clear hS hM
 clear hD
 refine hK920 _ _ ?_
 refine rg ?_
 obtain ⟨z364, h985, hb⟩ := bd hb
 refine lp (.int .i64 z364) (pu_addc (a := v144_4) (b := 1) e144 rfl h985) ?_
 refine lp (.int .i64 z364) (pu_move rfl) ?_
 refine ln ?_
 obtain rfl := os hb
 exact hK912 m913' _ _ (Nat.lt_succ_self _) ⟨z364, (kf286_0_4 ++ ([x311.1] : List Int)), (kf286_1_4 ++ ([x339.2] : List Int)), A950, (kf286_0_4 ++ ([x311.1] : List Int)).length, c951, A978, (kf286_1_4 ++ ([x339.2] : List Int)).length, c979, e2, e3, e4, e6, e7, e19, e142, e143, rfl, (chk_rng h985), hC.sel [2, 3, 4, 5, 6, 7] (by decide), lN hl4⟩
 replace hb := tf hq919 hb
 refine Wc.exit rfl ?_
 obtain rfl := os hb
 obtain rfl := (lX hl4).symm
 exact hK911 _ _ ⟨v144_4, kf286_0_4, kf286_1_4, Akf890_0_4, kf286_0_4.length, ckf890_0_4, Akf890_1_4, kf286_1_4.length, ckf890_1_4, e2, e3, e4, e6, e19, hrv144_4, hC.sel [0, 2, 3, 4] (by decide), hbK4⟩
 clear hb hC hl4
 rintro E987 w986 ⟨v144_4, kf286_0_4, kf286_1_4, Akf890_0_4, mkf890_0_4, ckf890_0_4, Akf890_1_4, mkf890_1_4, ckf890_1_4, e2, e3, e4, e6, e19, hrv144_4, hC, hb⟩
 obtain ⟨rfl, hlkf890_0_4, hckf890_0_4⟩ := (hC.ow (i := 2) rfl).sl_len
 obtain ⟨rfl, hlkf890_1_4, hckf890_1_4⟩ := (hC.ow (i := 3) rfl).sl_len
 refine hK908 _ _ ?_
 refine Wc.seq fun K988 hK988 => ?_
 refine Wc.seq fun K989 hK989 => ?_
 refine rg ?_
 refine lp (.int .i64 b_0_0) (pu_move e4) ?_
 refine lp (.int .i64 0) (pu_move rfl) ?_
 refine ln ?_
 refine hK989 _ _ ?_
 obtain ⟨o370, hl5, hb⟩ := bd hb
 refine Wc.cut (fun E wv => ∃ (v170_5 : Int) (kf286_0_5 : List Int) (kf286_1_5 : List Int) (Akf890_0_5 : Option Addr) (mkf890_0_5 ckf890_0_5 : Nat) (Akf890_1_5 : Option Addr) (mkf890_1_5 ckf890_1_5 : Nat), E 2 = .pointer (some ⟨g6, 0, none⟩) ∧ E 3 = .int .i64 0 ∧ E 19 = .pointer (some ⟨g888, 0, none⟩) ∧ I64 v170_5 ∧ Cx (fun _ => False) O0 w wv [.box g6 24 [.slice none 0 0, .slice none 0 0], .box g888 24 [.slice Akf890_0_5 mkf890_0_5 ckf890_0_5, .slice Akf890_1_5 mkf890_1_5 ckf890_1_5], .own 3 (.int .i64) (.slice Akf890_0_5 mkf890_0_5 ckf890_0_5) kf286_0_5, .own 3 (.int .i64) (.slice Akf890_1_5 mkf890_1_5 ckf890_1_5) kf286_1_5] ∧ (some (kf286_0_5, kf286_1_5, 0) : Option ((List Int) × (List Int) × Int)) = some r) (fun K991 hK991 => ?_) ?_
 refine Wc.block ?_
 refine Wc.loop (fun m E wv => ∃ (v170_5 : Int) (kf286_0_5 : List Int) (kf286_1_5 : List Int) (Akf890_0_5 : Option Addr) (mkf890_0_5 ckf890_0_5 : Nat) (Akf890_1_5 : Option Addr) (mkf890_1_5 ckf890_1_5 : Nat), E 2 = .pointer (some ⟨g6, 0, none⟩) ∧ E 3 = .int .i64 0 ∧ E 4 = .int .i64 b_0_0 ∧ E 6 = .int .i64 z26 ∧ E 19 = .pointer (some ⟨g888, 0, none⟩) ∧ E 169 = .int .i64 b_0_0 ∧ E 170 = .int .i64 v170_5 ∧ I64 v170_5 ∧ Cx (fun _ => False) O0 w wv [.box g6 24 [.slice none 0 0, .slice none 0 0], .box g888 24 [.slice Akf890_0_5 mkf890_0_5 ckf890_0_5, .slice Akf890_1_5 mkf890_1_5 ckf890_1_5], .own 3 (.int .i64) (.slice Akf890_0_5 mkf890_0_5 ckf890_0_5) kf286_0_5, .own 3 (.int .i64) (.slice Akf890_1_5 mkf890_1_5 ckf890_1_5) kf286_1_5] ∧ loopN m (F.gridlink_Braid_b5 n b_0_0 z26) (v170_5, kf286_0_5, kf286_1_5) = some o370) n ⟨0, kf286_0_4, kf286_1_4, Akf890_0_4, kf286_0_4.length, ckf890_0_4, Akf890_1_4, kf286_1_4.length, ckf890_1_4, e2, e3, e4, e6, e19, rfl, rfl, (show I64 0 from by unfold I64; omega), hC.sel [0, 1, 2, 3] (by decide), hl5⟩ ?_
 have hbK5 := hb
 clear hb hC hl5
 rintro m993 E995 w994 ⟨v170_5, kf286_0_5, kf286_1_5, Akf890_0_5, mkf890_0_5, ckf890_0_5, Akf890_1_5, mkf890_1_5, ckf890_1_5, e2, e3, e4, e6, e19, e169, e170, hrv170_5, hC, hl5⟩ K992 hK992
 obtain ⟨m993', o996, rfl, hb, hl5⟩ := loopN_some hl5
 unfold F.gridlink_Braid_b5 at hb
 obtain ⟨rfl, hlkf890_0_5, hckf890_0_5⟩ := (hC.ow (i := 2) rfl).sl_len
 obtain ⟨rfl, hlkf890_1_5, hckf890_1_5⟩ := (hC.ow (i := 3) rfl).sl_len
 refine Wc.seq fun K997 hK997 => ?_
 refine rg ?_
 refine lp (.bool (decide (v170_5 < b_0_0))) (pu_lss (k := .i64) (a := v170_5) (b := b_0_0) e170 e169) ?_
 refine ln ?_
 refine hK997 _ _ ?_
 refine Wc.seq fun K998 hK998 => ?_
 refine Wc.cond (t := (decide (v170_5 < b_0_0))) (rfl) (fun hq999 => ?_) (fun hq999 => ?_)
 replace hb := tt hq999 hb
 refine Wc.skip ?_
 refine hK998 _ _ ?_
 refine Wc.seq fun K1000 hK1000 => ?_
 refine Wc.block ?_
 refine Wc.seq fun K1001 hK1001 => ?_
 refine rg ?_
 refine lp (.int .i64 v170_5) (pu_move e170) ?_
 refine lp (.int .i64 v170_5) (pu_assign rfl) ?_
 refine ln ?_
 refine hK1001 _ _ ?_
 refine Wc.seq fun K1002 hK1002 => ?_
 refine rg ?_
 refine lp (.int .i64 b_0_0) (pu_move e4) ?_
 obtain ⟨z383, h1004, hb⟩ := bd hb
 refine lp (.int .i64 z383) (pu_subc (a := b_0_0) (b := 1) rfl rfl h1004) ?_
 refine lp (.int .i64 v170_5) (pu_move rfl) ?_
 obtain ⟨z385, h1006, hb⟩ := bd hb
 refine lp (.int .i64 z385) (pu_subc (a := z383) (b := v170_5) rfl rfl h1006) ?_
 refine lp (.int .i64 z385) (pu_assign rfl) ?_
 refine ln ?_
 refine hK1002 _ _ ?_
 refine Wc.seq fun K1007 hK1007 => ?_
 refine rg ?_
 refine lp (.pointer (some ((⟨g888, 0, none⟩ : Addr).add 0))) (pu_field (sz := 1) Try.underlying24 rfl Try.sizeOf22 (by decide) rfl e19) ?_
 refine lv (.slice Akf890_0_5 kf286_0_5.length ckf890_0_5) (ld_fld (hC.bx (i := 1) rfl) Try.isAgg22 rfl rfl) ?_
 refine lp (.int .i64 z26) (pu_move e6) ?_
 obtain ⟨z388, h1009, hb⟩ := bd hb
 refine lp (.int .i64 z388) (pu_subc (a := z26) (b := 1) rfl rfl h1009) ?_
 refine lp (.int .i64 z385) (pu_move rfl) ?_
 obtain ⟨z390, h1011, hb⟩ := bd hb
 refine lp (.int .i64 z390) (pu_subc (a := z388) (b := z385) rfl rfl h1011) ?_
 refine lex.op (hC.lit (s := (.int .i64)) (vs := [.int .i64 z390]) (xs := [z390]) Try.underlying22 Try.type3 rfl rfl (Nat.le_of_ble_eq_true rfl) rfl rfl (by simp [Value.cells, Sh.n]) rfl (show Elems _ _ (.int .i64) ([.int .i64 z390] ++ ([])) ([z390] : List Int) from Elems.cons (⟨rfl, I64.wr (chk_rng h1011)⟩) (Elems.nil _ _ _))) ?_
 rintro _ w1016 ⟨A1012, c1013, rfl, hl1014, hc1015, hC, hF, hN⟩
 clear hF hN
 obtain ⟨u398, h1019, hb⟩ := bd hb
 refine lex.op (hC.app (i := 3) (s := (.int .i64)) (xs := kf286_0_5) (ys := ([z390] : List Int)) (m := ((([z390] : List Int)).length)) rfl Try.underlying22 Try.underlying22 Try.type3 rfl rfl rfl (hC.srco (i := 0) rfl) rfl rfl (by have := lim_some h1019; simp at this ⊢ <;> omega) (by decide)) ?_
 rintro _ w1024 ⟨A1020, c1021, rfl, hl1022, hc1023, hC, hF, hN⟩
 clear hF hN
 refine lp (.pointer (some ((⟨g888, 0, none⟩ : Addr).add 0))) (pu_field (sz := 1) Try.underlying24 rfl Try.sizeOf22 (by decide) rfl e19) ?_
 refine lex.sk (hC.setf (i := 2) (k := 0) (v := .slice A1020 ((kf286_0_5 ++ ([z390] : List Int)).length) c1021) rfl Try.sizeOf22 rfl rfl rfl rfl) ?_
 rintro w1025 ⟨hC, hF⟩
 refine ln ?_
 refine hK1007 _ _ ?_
 refine Wc.fresh fun E1026 hE => ?_
 have e2 := (congrFun hE 2).trans e2
 have e3 := (congrFun hE 3).trans e3
 have e4 := (congrFun hE 4).trans e4
 have e6 := (congrFun hE 6).trans e6
 have e19 := (congrFun hE 19).trans e19
 have e22 : E1026 22 = .int .i64 v170_5 := (congrFun hE 22).trans rfl
 have e23 : E1026 23 = .int .i64 z385 := (congrFun hE 23).trans rfl
 have e169 := (congrFun hE 169).trans e169
 have e170 := (congrFun hE 170).trans e170
 have e171 : E1026 171 = .bool (decide (v170_5 < b_0_0)) := (congrFun hE 171).trans rfl
 clear hE
 refine rg ?_
 refine lp (.pointer (some ((⟨g888, 0, none⟩ : Addr).add 1))) (pu_field (sz := 1) Try.underlying24 rfl Try.sizeOf22 (by decide) rfl e19) ?_
 refine lv (.slice Akf890_1_5 kf286_1_5.length ckf890_1_5) (ld_fld (hC.bx (i := 2) rfl) Try.isAgg22 rfl rfl) ?_
 refine lp (.int .i64 z385) (pu_move e23) ?_
 refine lex.op (hC.lit (s := (.int .i64)) (vs := [.int .i64 z385]) (xs := [z385]) Try.underlying22 Try.type3 rfl rfl (Nat.le_of_ble_eq_true rfl) rfl rfl (by simp [Value.cells, Sh.n]) rfl (show Elems _ _ (.int .i64) ([.int .i64 z385] ++ ([])) ([z385] : List Int) from Elems.cons (⟨rfl, I64.wr (chk_rng h1006)⟩) (Elems.nil _ _ _))) ?_
 rintro _ w1031 ⟨A1027, c1028, rfl, hl1029, hc1030, hC, hF, hN⟩
 clear hF hN
 obtain ⟨u413, h1034, hb⟩ := bd hb
 refine lex.op (hC.app (i := 5) (s := (.int .i64)) (xs := kf286_1_5) (ys := ([z385] : List Int)) (m := ((([z385] : List Int)).length)) rfl Try.underlying22 Try.underlying22 Try.type3 rfl rfl rfl (hC.srco (i := 0) rfl) rfl rfl (by have := lim_some h1034; simp at this ⊢ <;> omega) (by decide)) ?_
 rintro _ w1039 ⟨A1035, c1036, rfl, hl1037, hc1038, hC, hF, hN⟩
 clear hF hN
 refine lp (.pointer (some ((⟨g888, 0, none⟩ : Addr).add 1))) (pu_field (sz := 1) Try.underlying24 rfl Try.sizeOf22 (by decide) rfl e19) ?_
 refine lex.sk (hC.setf (i := 3) (k := 1) (v := .slice A1035 ((kf286_1_5 ++ ([z385] : List Int)).length) c1036) rfl Try.sizeOf22 rfl rfl rfl rfl) ?_
 rintro w1040 ⟨hC, hF⟩
 refine ln ?_
 refine hK1000 _ _ ?_
 refine rg ?_
 obtain ⟨z421, h1042, hb⟩ := bd hb
 refine lp (.int .i64 z421) (pu_addc (a := v170_5) (b := 1) e170 rfl h1042) ?_
 refine lp (.int .i64 z421) (pu_move rfl) ?_
 refine ln ?_
 obtain rfl := os hb
 exact hK992 m993' _ _ (Nat.lt_succ_self _) ⟨z421, (kf286_0_5 ++ ([z390] : List Int)), (kf286_1_5 ++ ([z385] : List Int)), A1020, (kf286_0_5 ++ ([z390] : List Int)).length, c1021, A1035, (kf286_1_5 ++ ([z385] : List Int)).length, c1036, e2, e3, e4, e6, e19, e169, rfl, (chk_rng h1042), hC.sel [2, 3, 4, 5] (by decide), lN hl5⟩
 replace hb := tf hq999 hb
 refine Wc.exit rfl ?_
 obtain rfl := os hb
 obtain rfl := (lX hl5).symm
 exact hK991 _ _ ⟨v170_5, kf286_0_5, kf286_1_5, Akf890_0_5, kf286_0_5.length, ckf890_0_5, Akf890_1_5, kf286_1_5.length, ckf890_1_5, e2, e3, e19, hrv170_5, hC.sel [0, 1, 2, 3] (by decide), hbK5⟩
 clear hb hC hl5
 rintro E1044 w1043 ⟨v170_5, kf286_0_5, kf286_1_5, Akf890_0_5, mkf890_0_5, ckf890_0_5, Akf890_1_5, mkf890_1_5, ckf890_1_5, e2, e3, e19, hrv170_5, hC, hb⟩
 obtain ⟨rfl, hlkf890_0_5, hckf890_0_5⟩ := (hC.ow (i := 2) rfl).sl_len
 obtain ⟨rfl, hlkf890_1_5, hckf890_1_5⟩ := (hC.ow (i := 3) rfl).sl_len
 refine hK988 _ _ ?_
 refine Wc.seq fun K1045 hK1045 => ?_
 refine rg ?_
 refine lv (.agg #[.slice Akf890_0_5 kf286_0_5.length ckf890_0_5, .slice Akf890_1_5 kf286_1_5.length ckf890_1_5]) (ld_blk (hC.bx (i := 1) rfl) Try.isAgg24 Try.sizeOf24 e19) ?_
 refine lex.sk (hC.seta (i := 0) (ds := [.slice Akf890_0_5 kf286_0_5.length ckf890_0_5, .slice Akf890_1_5 kf286_1_5.length ckf890_1_5]) rfl Try.type24 rfl rfl rfl e2 rfl) ?_
 rintro w1046 ⟨hC, hF⟩
 refine lp (.int .i64 0) (pu_assign rfl) ?_
 refine ln ?_
 refine hK1045 _ _ ?_
 obtain rfl := os hb
 refine Wc.ret ?_
 refine hKR _ _ ?_
 refine ⟨_, res2 Try.results18 ⟨_, e2, loadVar_blk (hC.bx (i := 0) rfl) Try.isAgg24 Try.sizeOf24⟩ (show RV _ _ _ (.tmp _) (.int .i64 0) from rfl), _, rfl, Akf890_0_5, kf286_0_5.length, ckf890_0_5, Akf890_1_5, kf286_1_5.length, ckf890_1_5, rfl, (show I64 0 from by unfold I64; omega), hC.sel [2, 3] (by decide)⟩
 refine mixPE_chain ?_
 obtain ⟨u268, h1048, hb⟩ := bd hb
 refine mixE.op hM (hC.make0 (s := (.int .i64)) (n := z26) Try.underlying22 Try.type3 rfl rfl rfl rfl (pos_some h1048).1 (pos_some h1048).2 (by decide)) ?_
 rintro _ w1053 ⟨A1049, c1050, rfl, hl1051, hc1052, hC, hF, hN⟩
 have hBf1054 := Beside.new hM hN
 have hUf1054 := Beside.new (hM.wide (H := ([] : List Fact))) hN
 replace hM := hM.none hF
 replace hD := hM.wide (H := ([] : List Fact))
 refine ⟨hM, ?_⟩
 clear hF hN
 refine mixE.nil ?_
 refine mixPE_chain ?_
 obtain ⟨u276, h1056, hb⟩ := bd hb
 refine mixE.op hM (hC.make0 (s := (.int .i64)) (n := z26) Try.underlying22 Try.type3 rfl rfl rfl rfl (pos_some h1056).1 (pos_some h1056).2 (by decide)) ?_
 rintro _ w1061 ⟨A1057, c1058, rfl, hl1059, hc1060, hC, hF, hN⟩
 have hBf1062 := Beside.new hM hN
 have hUf1062 := Beside.new (hM.wide (H := ([] : List Fact))) hN
 replace hM := hM.none hF
 replace hD := hM.wide (H := ([] : List Fact))
 refine ⟨hM, ?_⟩
 clear hF hN
 refine mp (.agg #[.slice A1057 ((([] : List Int)).length) c1058, .slice A1049 ((([] : List Int)).length) c1050]) (pu_builds (places := [(0, 1), (1, 1)]) (pv := [(0, .slice A1057 ((([] : List Int)).length) c1058), (1, .slice A1049 ((([] : List Int)).length) c1050)]) Try.type24 Try.underlying24 rfl (mp_cons Try.type22 (mp_cons Try.type22 mp_nil rfl rfl) rfl rfl) rfl (by simp [Instr.fill, Value.cells])) ?_
 refine mixE.sk hD (hC.seta (i := 2) (ds := [.slice A1057 ((([] : List Int)).length) c1058, .slice A1049 ((([] : List Int)).length) c1050]) rfl Try.type24 rfl rfl rfl rfl rfl) ?_
 rintro w1063 ⟨hC, hF⟩
 replace hD := hD.besideG hUf890 hF
 clear hF
 refine ⟨hD, ?_⟩
 refine mixE.nil ?_
 clear hS hM
 clear hD
 refine hK265 _ _ ?_
 refine Wc.seq fun K1064 hK1064 => ?_
 refine Wc.seq fun K1065 hK1065 => ?_
 refine rg ?_
 refine lp (.slice Al8_1 l8_1.length cl8_1) (pu_move e8) ?_
 refine lp (.int .i64 (l8_1.length : Int)) (pu_len (A := Al8_1) (n := l8_1.length) (m := cl8_1) Try.underlying22 rfl) ?_
 refine lp (.int .i64 0) (pu_move rfl) ?_
 refine ln ?_
 refine hK1065 _ _ ?_
 obtain ⟨o290, hl4, hb⟩ := bd hb
 refine Wc.cut (fun E wv => ∃ (v144_4 : Int) (kf286_0_4 : List Int) (kf286_1_4 : List Int) (Akf890_0_4 : Option Addr) (mkf890_0_4 ckf890_0_4 : Nat) (Akf890_1_4 : Option Addr) (mkf890_1_4 ckf890_1_4 : Nat), E 2 = .pointer (some ⟨g6, 0, none⟩) ∧ E 3 = .int .i64 0 ∧ E 4 = .int .i64 b_0_0 ∧ E 6 = .int .i64 z26 ∧ E 19 = .pointer (some ⟨g888, 0, none⟩) ∧ I64 v144_4 ∧ Cx (fun _ => False) O0 w wv [.box g6 24 [.slice none 0 0, .slice none 0 0], .box g888 24 [.slice Akf890_0_4 mkf890_0_4 ckf890_0_4, .slice Akf890_1_4 mkf890_1_4 ckf890_1_4], .own 3 (.int .i64) (.slice Akf890_0_4 mkf890_0_4 ckf890_0_4) kf286_0_4, .own 3 (.int .i64) (.slice Akf890_1_4 mkf890_1_4 ckf890_1_4) kf286_1_4] ∧ (((loopN n (F.gridlink_Braid_b5 n b_0_0 z26) (0, kf286_0_4, kf286_1_4)).bind fun o370 => match o370 with     | (v170_5, kf286_0_5, kf286_1_5) => some (kf286_0_5, kf286_1_5, 0)) : Option ((List Int) × (List Int) × Int)) = some r) (fun K1067 hK1067 => ?_) ?_
 refine Wc.block ?_
 refine Wc.loop (fun m E wv => ∃ (v144_4 : Int) (kf286_0_4 : List Int) (kf286_1_4 : List Int) (Akf890_0_4 : Option Addr) (mkf890_0_4 ckf890_0_4 : Nat) (Akf890_1_4 : Option Addr) (mkf890_1_4 ckf890_1_4 : Nat), E 2 = .pointer (some ⟨g6, 0, none⟩) ∧ E 3 = .int .i64 0 ∧ E 4 = .int .i64 b_0_0 ∧ E 6 = .int .i64 z26 ∧ E 7 = .slice Al7_1 l7_1.length cl7_1 ∧ E 19 = .pointer (some ⟨g888, 0, none⟩) ∧ E 142 = .slice Al8_1 l8_1.length cl8_1 ∧ E 143 = .int .i64 (l8_1.length : Int) ∧ E 144 = .int .i64 v144_4 ∧ I64 v144_4 ∧ Cx (fun _ => False) O0 w wv [.box g6 24 [.slice none 0 0, .slice none 0 0], .own 67 (.pr (.int .i64) (.int .i64)) (.slice Al7_1 l7_1.length cl7_1) qF7_1_3, .box g888 24 [.slice Akf890_0_4 mkf890_0_4 ckf890_0_4, .slice Akf890_1_4 mkf890_1_4 ckf890_1_4], .own 3 (.int .i64) (.slice Akf890_0_4 mkf890_0_4 ckf890_0_4) kf286_0_4, .own 3 (.int .i64) (.slice Akf890_1_4 mkf890_1_4 ckf890_1_4) kf286_1_4, .own 3 (.int .i64) (.slice Al8_1 l8_1.length cl8_1) l8_1] ∧ loopN m (F.gridlink_Braid_b4 n l8_1 qF7_1_3) (v144_4, kf286_0_4, kf286_1_4) = some o290) n ⟨0, ([] : List Int), ([] : List Int), A1057, (([] : List Int)).length, c1058, A1049, (([] : List Int)).length, c1050, e2, e3, e4, e6, e7, rfl, rfl, rfl, rfl, (show I64 0 from by unfold I64; omega), hC.sel [3, 4, 2, 0, 1, 5] (by decide), hl4⟩ ?_
 have hbK4 := hb
 clear hb hC hl4
 rintro m1069 E1071 w1070 ⟨v144_4, kf286_0_4, kf286_1_4, Akf890_0_4, mkf890_0_4, ckf890_0_4, Akf890_1_4, mkf890_1_4, ckf890_1_4, e2, e3, e4, e6, e7, e19, e142, e143, e144, hrv144_4, hC, hl4⟩ K1068 hK1068
 obtain ⟨m1069', o1072, rfl, hb, hl4⟩ := loopN_some hl4
 unfold F.gridlink_Braid_b4 at hb
 obtain ⟨rfl, hlkf890_0_4, hckf890_0_4⟩ := (hC.ow (i := 3) rfl).sl_len
 obtain ⟨rfl, hlkf890_1_4, hckf890_1_4⟩ := (hC.ow (i := 4) rfl).sl_len
 refine Wc.seq fun K1073 hK1073 => ?_
 refine rg ?_
 refine lp (.bool (decide (v144_4 < (l8_1.length : Int)))) (pu_lss (k := .i64) (a := v144_4) (b := (l8_1.length : Int)) e144 e143) ?_
 refine ln ?_
 refine hK1073 _ _ ?_
 refine Wc.seq fun K1074 hK1074 => ?_
 refine Wc.cond (t := (decide (v144_4 < (l8_1.length : Int)))) (rfl) (fun hq1075 => ?_) (fun hq1075 => ?_)
 replace hb := tt hq1075 hb
 refine Wc.skip ?_
 refine hK1074 _ _ ?_
 refine Wc.seq fun K1076 hK1076 => ?_
 refine Wc.block ?_
 refine Wc.seq fun K1077 hK1077 => ?_
 refine rg ?_
 obtain ⟨x302, h1079, hb⟩ := bd hb
 obtain ⟨ad1080, cs1081, hA, hc1082, hr1083⟩ := hC.elo (i := 5) rfl (get_some h1079).2
 subst hA
 refine lp (.pointer (some (ad1080.add (v144_4.toNat * 1)))) (pu_index (a := v144_4) Try.underlying22 Try.sizeOf3 e142 e144 (get_some h1079).1) ?_
 obtain ⟨rfl, hr1083'⟩ := hr1083
 refine lv (.int .i64 x302) (ld_one Try.isAgg3 rfl (hc1082 0 _ rfl)) ?_
 refine lp (.int .i64 x302) (pu_assign rfl) ?_
 refine ln ?_
 refine hK1077 _ _ ?_
 refine Wc.seq fun K1084 hK1084 => ?_
 refine Wc.regionMix [154] (frm [154] [.own 3 (.int .i64) (.slice Akf890_0_4 kf286_0_4.length ckf890_0_4) kf286_0_4] [.box g888 24 [.slice Akf890_0_4 kf286_0_4.length ckf890_0_4, .slice Akf890_1_4 kf286_1_4.length ckf890_1_4]]) (fun _ => rfl) mixed (by decide +kernel) (by decide +kernel) fun w1086 hw1085 => ?_
 replace hC := hC.step (Fr.of_drew hw1085)
 have hM := Fr.refl (fun k => k ∈ blocks [.own 3 (.int .i64) (.slice Akf890_0_4 kf286_0_4.length ckf890_0_4) kf286_0_4]) w1086
 clear hw1085
 have hS := hC
 have hBFf890_0_4 : Beside [.own 3 (.int .i64) (.slice Akf890_0_4 kf286_0_4.length ckf890_0_4) kf286_0_4] w1086 (.slice Akf890_0_4 kf286_0_4.length ckf890_0_4) := Beside.of (i := 0) rfl
 have hD : Fr (fun k => k ∈ blocks ([.own 3 (.int .i64) (.slice Akf890_0_4 kf286_0_4.length ckf890_0_4) kf286_0_4] ++ [.box g888 24 [.slice Akf890_0_4 kf286_0_4.length ckf890_0_4, .slice Akf890_1_4 kf286_1_4.length ckf890_1_4]])) w1086 w1086 := hM.wide
 have hUFf890_0_4 : Beside ([.own 3 (.int .i64) (.slice Akf890_0_4 kf286_0_4.length ckf890_0_4) kf286_0_4] ++ [.box g888 24 [.slice Akf890_0_4 kf286_0_4.length ckf890_0_4, .slice Akf890_1_4 kf286_1_4.length ckf890_1_4]]) w1086 (.slice Akf890_0_4 kf286_0_4.length ckf890_0_4) := Beside.of (i := 0) rfl
 have hUf890 : g888 < w1086.heap.size → g888 ∈ blocks ([.own 3 (.int .i64) (.slice Akf890_0_4 kf286_0_4.length ckf890_0_4) kf286_0_4] ++ [.box g888 24 [.slice Akf890_0_4 kf286_0_4.length ckf890_0_4, .slice Akf890_1_4 kf286_1_4.length ckf890_1_4]]) := fun _ => box_in (i := 1) rfl
 refine mp (.pointer (some ((⟨g888, 0, none⟩ : Addr).add 0))) (pu_field (sz := 1) Try.underlying24 rfl Try.sizeOf22 (by decide) rfl e19) ?_
 refine mixE.load hM (v := .slice Akf890_0_4 kf286_0_4.length ckf890_0_4) (fun _ hF => ld_fld (hS.bx2 (i := 2) rfl [3] (by decide) hF) Try.isAgg22 rfl rfl) ?_
 refine mp (.slice Al7_1 l7_1.length cl7_1) (pu_move e7) ?_
 refine mp (.int .i64 x302) (pu_move rfl) ?_
 obtain ⟨x311, h1088, hb⟩ := bd hb
 obtain ⟨ad1089, cs1090, hA, ho1093, hc1091, hr1092⟩ := hS.elo2 (i := 1) rfl (get_some h1088).2 [3, 2] (by decide)
 subst hA
 refine mp (.pointer (some (ad1089.add (x302.toNat * 2)))) (pu_index (a := x302) Try.underlying33 Try.sizeOf67 rfl rfl (by rw [(hC.ow (i := 1) rfl).sl_len.1]; exact (get_some h1088).1)) ?_
 obtain ⟨k1094, k1095, rfl, hr1096, hr1097⟩ := hr1092
 obtain ⟨rfl, hr1096⟩ := hr1096
 obtain ⟨rfl, hr1097⟩ := hr1097
 refine mp (.pointer (some ((ad1089.add (x302.toNat * 2)).add 0))) (pu_ixa (A := (ad1089.add (x302.toNat * 2))) (a := 0) (sz := 1) Try.underlying67 Try.sizeOf3 rfl rfl (by decide)) ?_
 refine mixE.steady hD (v := .int .i64 x311.1) (fun _ hF => ld_one Try.isAgg3 rfl (hF.cell (hc1091 0 _ rfl) (off2 ho1093))) ?_
 refine mixE.op hM (hC.lit (s := (.int .i64)) (vs := [.int .i64 x311.1]) (xs := [x311.1]) Try.underlying22 Try.type3 rfl rfl (Nat.le_of_ble_eq_true rfl) rfl rfl (by simp [Value.cells, Sh.n]) rfl (show Elems _ _ (.int .i64) ([.int .i64 x311.1] ++ ([])) ([x311.1] : List Int) from Elems.cons (⟨rfl, I64.wr (wrap_I64 hr1096)⟩) (Elems.nil _ _ _))) ?_
 rintro _ w1102 ⟨A1098, c1099, rfl, hl1100, hc1101, hC, hF, hN⟩
 have hBf1103 := Beside.new hM hN
 have hUf1103 := Beside.new (hM.wide (H := [.box g888 24 [.slice Akf890_0_4 kf286_0_4.length ckf890_0_4, .slice Akf890_1_4 kf286_1_4.length ckf890_1_4]])) hN
 replace hM := hM.none hF
 replace hD := hM.wide (H := [.box g888 24 [.slice Akf890_0_4 kf286_0_4.length ckf890_0_4, .slice Akf890_1_4 kf286_1_4.length ckf890_1_4]])
 refine ⟨hM, ?_⟩
 clear hF hN
 obtain ⟨u328, h1105, hb⟩ := bd hb
 refine mixE.op hM (hC.app (i := 4) (s := (.int .i64)) (xs := kf286_0_4) (ys := ([x311.1] : List Int)) (m := ((([x311.1] : List Int)).length)) rfl Try.underlying22 Try.underlying22 Try.type3 rfl rfl rfl (hC.srco (i := 0) rfl) rfl rfl (by have := lim_some h1105; simp at this ⊢ <;> omega) (by decide)) ?_
 rintro _ w1110 ⟨A1106, c1107, rfl, hl1108, hc1109, hC, hF, hN⟩
 have hB := hBFf890_0_4
 replace hBFf890_0_4 := hB.app hM hN
 replace hM := hM.beside hB hF
 clear hB
 replace hD := hM.wide (H := [.box g888 24 [.slice Akf890_0_4 kf286_0_4.length ckf890_0_4, .slice Akf890_1_4 kf286_1_4.length ckf890_1_4]])
 refine ⟨hM, ?_⟩
 clear hF hN
 refine mp (.pointer (some ((⟨g888, 0, none⟩ : Addr).add 0))) (pu_field (sz := 1) Try.underlying24 rfl Try.sizeOf22 (by decide) rfl e19) ?_
 refine mixE.sk hD (hC.setf (i := 3) (k := 0) (v := .slice A1106 ((kf286_0_4 ++ ([x311.1] : List Int)).length) c1107) rfl Try.sizeOf22 rfl rfl rfl rfl) ?_
 rintro w1111 ⟨hC, hF⟩
 replace hD := hD.besideG hUf890 hF
 clear hF
 refine ⟨hD, ?_⟩
 refine mixE.nil ?_
 clear hS hM
 clear hD
 refine hK1084 _ _ ?_
 refine Wc.fresh fun E1112 hE => ?_
 have e2 := (congrFun hE 2).trans e2
 have e3 := (congrFun hE 3).trans e3
 have e4 := (congrFun hE 4).trans e4
 have e6 := (congrFun hE 6).trans e6
 have e7 := (congrFun hE 7).trans e7
 have e19 := (congrFun hE 19).trans e19
 have e21 : E1112 21 = .int .i64 x302 := (congrFun hE 21).trans rfl
 have e142 := (congrFun hE 142).trans e142
 have e143 := (congrFun hE 143).trans e143
 have e144 := (congrFun hE 144).trans e144
 have e145 : E1112 145 = .bool (decide (v144_4 < (l8_1.length : Int))) := (congrFun hE 145).trans rfl
 clear hE
 refine Wc.regionMix [164] (frm [164] [.own 3 (.int .i64) (.slice Akf890_1_4 kf286_1_4.length ckf890_1_4) kf286_1_4] [.box g888 24 [.slice A1106 ((kf286_0_4 ++ ([x311.1] : List Int)).length) c1107, .slice Akf890_1_4 kf286_1_4.length ckf890_1_4]]) (fun _ => rfl) mixed (by decide +kernel) (by decide +kernel) fun w1114 hw1113 => ?_
 replace hC := hC.step (Fr.of_drew hw1113)
 have hM := Fr.refl (fun k => k ∈ blocks [.own 3 (.int .i64) (.slice Akf890_1_4 kf286_1_4.length ckf890_1_4) kf286_1_4]) w1114
 clear hw1113
 have hS := hC
 have hBFf890_1_4 : Beside [.own 3 (.int .i64) (.slice Akf890_1_4 kf286_1_4.length ckf890_1_4) kf286_1_4] w1114 (.slice Akf890_1_4 kf286_1_4.length ckf890_1_4) := Beside.of (i := 0) rfl
 have hD : Fr (fun k => k ∈ blocks ([.own 3 (.int .i64) (.slice Akf890_1_4 kf286_1_4.length ckf890_1_4) kf286_1_4] ++ [.box g888 24 [.slice A1106 ((kf286_0_4 ++ ([x311.1] : List Int)).length) c1107, .slice Akf890_1_4 kf286_1_4.length ckf890_1_4]])) w1114 w1114 := hM.wide
 have hUFf890_1_4 : Beside ([.own 3 (.int .i64) (.slice Akf890_1_4 kf286_1_4.length ckf890_1_4) kf286_1_4] ++ [.box g888 24 [.slice A1106 ((kf286_0_4 ++ ([x311.1] : List Int)).length) c1107, .slice Akf890_1_4 kf286_1_4.length ckf890_1_4]]) w1114 (.slice Akf890_1_4 kf286_1_4.length ckf890_1_4) := Beside.of (i := 0) rfl
 have hUf890 : g888 < w1114.heap.size → g888 ∈ blocks ([.own 3 (.int .i64) (.slice Akf890_1_4 kf286_1_4.length ckf890_1_4) kf286_1_4] ++ [.box g888 24 [.slice A1106 ((kf286_0_4 ++ ([x311.1] : List Int)).length) c1107, .slice Akf890_1_4 kf286_1_4.length ckf890_1_4]]) := fun _ => box_in (i := 1) rfl
 refine mp (.pointer (some ((⟨g888, 0, none⟩ : Addr).add 1))) (pu_field (sz := 1) Try.underlying24 rfl Try.sizeOf22 (by decide) rfl e19) ?_
 refine mixE.load hM (v := .slice Akf890_1_4 kf286_1_4.length ckf890_1_4) (fun _ hF => ld_fld (hS.bx2 (i := 3) rfl [5] (by decide) hF) Try.isAgg22 rfl rfl) ?_
 refine mp (.slice (some ad1089) l7_1.length cl7_1) (pu_move e7) ?_
 refine mp (.int .i64 x302) (pu_move e21) ?_
 obtain ⟨x339, h1116, hb⟩ := bd hb
 obtain ⟨ad1117, cs1118, hA, ho1121, hc1119, hr1120⟩ := hS.elo2 (i := 2) rfl (get_some h1116).2 [5, 3] (by decide)
 obtain rfl := Option.some.inj hA
 refine mp (.pointer (some (ad1089.add (x302.toNat * 2)))) (pu_index (a := x302) Try.underlying33 Try.sizeOf67 rfl rfl (by rw [(hC.ow (i := 2) rfl).sl_len.1]; exact (get_some h1116).1)) ?_
 obtain ⟨k1122, k1123, rfl, hr1124, hr1125⟩ := hr1120
 obtain ⟨rfl, hr1124⟩ := hr1124
 obtain ⟨rfl, hr1125⟩ := hr1125
 refine mp (.pointer (some ((ad1089.add (x302.toNat * 2)).add 1))) (pu_ixa (A := (ad1089.add (x302.toNat * 2))) (a := 1) (sz := 1) Try.underlying67 Try.sizeOf3 rfl rfl (by decide)) ?_
 refine mixE.steady hD (v := .int .i64 x339.2) (fun _ hF => ld_one Try.isAgg3 rfl (hF.cell (hc1119 1 _ rfl) (off2 ho1121))) ?_
 refine mixE.op hM (hC.lit (s := (.int .i64)) (vs := [.int .i64 x339.2]) (xs := [x339.2]) Try.underlying22 Try.type3 rfl rfl (Nat.le_of_ble_eq_true rfl) rfl rfl (by simp [Value.cells, Sh.n]) rfl (show Elems _ _ (.int .i64) ([.int .i64 x339.2] ++ ([])) ([x339.2] : List Int) from Elems.cons (⟨rfl, I64.wr (wrap_I64 hr1125)⟩) (Elems.nil _ _ _))) ?_
 rintro _ w1130 ⟨A1126, c1127, rfl, hl1128, hc1129, hC, hF, hN⟩
 have hBf1131 := Beside.new hM hN
 have hUf1131 := Beside.new (hM.wide (H := [.box g888 24 [.slice A1106 ((kf286_0_4 ++ ([x311.1] : List Int)).length) c1107, .slice Akf890_1_4 kf286_1_4.length ckf890_1_4]])) hN
 replace hM := hM.none hF
 replace hD := hM.wide (H := [.box g888 24 [.slice A1106 ((kf286_0_4 ++ ([x311.1] : List Int)).length) c1107, .slice Akf890_1_4 kf286_1_4.length ckf890_1_4]])
 refine ⟨hM, ?_⟩
 clear hF hN
 obtain ⟨u356, h1133, hb⟩ := bd hb
 refine mixE.op hM (hC.app (i := 6) (s := (.int .i64)) (xs := kf286_1_4) (ys := ([x339.2] : List Int)) (m := ((([x339.2] : List Int)).length)) rfl Try.underlying22 Try.underlying22 Try.type3 rfl rfl rfl (hC.srco (i := 0) rfl) rfl rfl (by have := lim_some h1133; simp at this ⊢ <;> omega) (by decide)) ?_
 rintro _ w1138 ⟨A1134, c1135, rfl, hl1136, hc1137, hC, hF, hN⟩
 have hB := hBFf890_1_4
 replace hBFf890_1_4 := hB.app hM hN
 replace hM := hM.beside hB hF
 clear hB
 replace hD := hM.wide (H := [.box g888 24 [.slice A1106 ((kf286_0_4 ++ ([x311.1] : List Int)).length) c1107, .slice Akf890_1_4 kf286_1_4.length ckf890_1_4]])
 refine ⟨hM, ?_⟩
 clear hF hN
 refine mp (.pointer (some ((⟨g888, 0, none⟩ : Addr).add 1))) (pu_field (sz := 1) Try.underlying24 rfl Try.sizeOf22 (by decide) rfl e19) ?_
 refine mixE.sk hD (hC.setf (i := 4) (k := 1) (v := .slice A1134 ((kf286_1_4 ++ ([x339.2] : List Int)).length) c1135) rfl Try.sizeOf22 rfl rfl rfl rfl) ?_
 rintro w1139 ⟨hC, hF⟩
 replace hD := hD.besideG hUf890 hF
 clear hF
 refine ⟨hD, ?_⟩
 refine mixE.nil ?_
 clear hS hM
 clear hD
 refine hK1076 _ _ ?_
 refine rg ?_
 obtain ⟨z364, h1141, hb⟩ := bd hb
 refine lp (.int .i64 z364) (pu_addc (a := v144_4) (b := 1) e144 rfl h1141) ?_
 refine lp (.int .i64 z364) (pu_move rfl) ?_
 refine ln ?_
 obtain rfl := os hb
 exact hK1068 m1069' _ _ (Nat.lt_succ_self _) ⟨z364, (kf286_0_4 ++ ([x311.1] : List Int)), (kf286_1_4 ++ ([x339.2] : List Int)), A1106, (kf286_0_4 ++ ([x311.1] : List Int)).length, c1107, A1134, (kf286_1_4 ++ ([x339.2] : List Int)).length, c1135, e2, e3, e4, e6, e7, e19, e142, e143, rfl, (chk_rng h1141), hC.sel [2, 3, 4, 5, 6, 7] (by decide), lN hl4⟩
 replace hb := tf hq1075 hb
 refine Wc.exit rfl ?_
 obtain rfl := os hb
 obtain rfl := (lX hl4).symm
 exact hK1067 _ _ ⟨v144_4, kf286_0_4, kf286_1_4, Akf890_0_4, kf286_0_4.length, ckf890_0_4, Akf890_1_4, kf286_1_4.length, ckf890_1_4, e2, e3, e4, e6, e19, hrv144_4, hC.sel [0, 2, 3, 4] (by decide), hbK4⟩
 clear hb hC hl4
 rintro E1143 w1142 ⟨v144_4, kf286_0_4, kf286_1_4, Akf890_0_4, mkf890_0_4, ckf890_0_4, Akf890_1_4, mkf890_1_4, ckf890_1_4, e2, e3, e4, e6, e19, hrv144_4, hC, hb⟩
 obtain ⟨rfl, hlkf890_0_4, hckf890_0_4⟩ := (hC.ow (i := 2) rfl).sl_len
 obtain ⟨rfl, hlkf890_1_4, hckf890_1_4⟩ := (hC.ow (i := 3) rfl).sl_len
 refine hK1064 _ _ ?_
 refine Wc.seq fun K1144 hK1144 => ?_
 refine Wc.seq fun K1145 hK1145 => ?_
 refine rg ?_
 refine lp (.int .i64 b_0_0) (pu_move e4) ?_
 refine lp (.int .i64 0) (pu_move rfl) ?_
 refine ln ?_
 refine hK1145 _ _ ?_
 obtain ⟨o370, hl5, hb⟩ := bd hb
 refine Wc.cut (fun E wv => ∃ (v170_5 : Int) (kf286_0_5 : List Int) (kf286_1_5 : List Int) (Akf890_0_5 : Option Addr) (mkf890_0_5 ckf890_0_5 : Nat) (Akf890_1_5 : Option Addr) (mkf890_1_5 ckf890_1_5 : Nat), E 2 = .pointer (some ⟨g6, 0, none⟩) ∧ E 3 = .int .i64 0 ∧ E 19 = .pointer (some ⟨g888, 0, none⟩) ∧ I64 v170_5 ∧ Cx (fun _ => False) O0 w wv [.box g6 24 [.slice none 0 0, .slice none 0 0], .box g888 24 [.slice Akf890_0_5 mkf890_0_5 ckf890_0_5, .slice Akf890_1_5 mkf890_1_5 ckf890_1_5], .own 3 (.int .i64) (.slice Akf890_0_5 mkf890_0_5 ckf890_0_5) kf286_0_5, .own 3 (.int .i64) (.slice Akf890_1_5 mkf890_1_5 ckf890_1_5) kf286_1_5] ∧ (some (kf286_0_5, kf286_1_5, 0) : Option ((List Int) × (List Int) × Int)) = some r) (fun K1147 hK1147 => ?_) ?_
 refine Wc.block ?_
 refine Wc.loop (fun m E wv => ∃ (v170_5 : Int) (kf286_0_5 : List Int) (kf286_1_5 : List Int) (Akf890_0_5 : Option Addr) (mkf890_0_5 ckf890_0_5 : Nat) (Akf890_1_5 : Option Addr) (mkf890_1_5 ckf890_1_5 : Nat), E 2 = .pointer (some ⟨g6, 0, none⟩) ∧ E 3 = .int .i64 0 ∧ E 4 = .int .i64 b_0_0 ∧ E 6 = .int .i64 z26 ∧ E 19 = .pointer (some ⟨g888, 0, none⟩) ∧ E 169 = .int .i64 b_0_0 ∧ E 170 = .int .i64 v170_5 ∧ I64 v170_5 ∧ Cx (fun _ => False) O0 w wv [.box g6 24 [.slice none 0 0, .slice none 0 0], .box g888 24 [.slice Akf890_0_5 mkf890_0_5 ckf890_0_5, .slice Akf890_1_5 mkf890_1_5 ckf890_1_5], .own 3 (.int .i64) (.slice Akf890_0_5 mkf890_0_5 ckf890_0_5) kf286_0_5, .own 3 (.int .i64) (.slice Akf890_1_5 mkf890_1_5 ckf890_1_5) kf286_1_5] ∧ loopN m (F.gridlink_Braid_b5 n b_0_0 z26) (v170_5, kf286_0_5, kf286_1_5) = some o370) n ⟨0, kf286_0_4, kf286_1_4, Akf890_0_4, kf286_0_4.length, ckf890_0_4, Akf890_1_4, kf286_1_4.length, ckf890_1_4, e2, e3, e4, e6, e19, rfl, rfl, (show I64 0 from by unfold I64; omega), hC.sel [0, 1, 2, 3] (by decide), hl5⟩ ?_
 have hbK5 := hb
 clear hb hC hl5
 rintro m1149 E1151 w1150 ⟨v170_5, kf286_0_5, kf286_1_5, Akf890_0_5, mkf890_0_5, ckf890_0_5, Akf890_1_5, mkf890_1_5, ckf890_1_5, e2, e3, e4, e6, e19, e169, e170, hrv170_5, hC, hl5⟩ K1148 hK1148
 obtain ⟨m1149', o1152, rfl, hb, hl5⟩ := loopN_some hl5
 unfold F.gridlink_Braid_b5 at hb
 obtain ⟨rfl, hlkf890_0_5, hckf890_0_5⟩ := (hC.ow (i := 2) rfl).sl_len
 obtain ⟨rfl, hlkf890_1_5, hckf890_1_5⟩ := (hC.ow (i := 3) rfl).sl_len
 refine Wc.seq fun K1153 hK1153 => ?_
 refine rg ?_
 refine lp (.bool (decide (v170_5 < b_0_0))) (pu_lss (k := .i64) (a := v170_5) (b := b_0_0) e170 e169) ?_
 refine ln ?_
 refine hK1153 _ _ ?_
 refine Wc.seq fun K1154 hK1154 => ?_
 refine Wc.cond (t := (decide (v170_5 < b_0_0))) (rfl) (fun hq1155 => ?_) (fun hq1155 => ?_)
 replace hb := tt hq1155 hb
 refine Wc.skip ?_
 refine hK1154 _ _ ?_
 refine Wc.seq fun K1156 hK1156 => ?_
 refine Wc.block ?_
 refine Wc.seq fun K1157 hK1157 => ?_
 refine rg ?_
 refine lp (.int .i64 v170_5) (pu_move e170) ?_
 refine lp (.int .i64 v170_5) (pu_assign rfl) ?_
 refine ln ?_
 refine hK1157 _ _ ?_
 refine Wc.seq fun K1158 hK1158 => ?_
 refine rg ?_
 refine lp (.int .i64 b_0_0) (pu_move e4) ?_
 obtain ⟨z383, h1160, hb⟩ := bd hb
 refine lp (.int .i64 z383) (pu_subc (a := b_0_0) (b := 1) rfl rfl h1160) ?_
 refine lp (.int .i64 v170_5) (pu_move rfl) ?_
 obtain ⟨z385, h1162, hb⟩ := bd hb
 refine lp (.int .i64 z385) (pu_subc (a := z383) (b := v170_5) rfl rfl h1162) ?_
 refine lp (.int .i64 z385) (pu_assign rfl) ?_
 refine ln ?_
 refine hK1158 _ _ ?_
 refine Wc.seq fun K1163 hK1163 => ?_
 refine rg ?_
 refine lp (.pointer (some ((⟨g888, 0, none⟩ : Addr).add 0))) (pu_field (sz := 1) Try.underlying24 rfl Try.sizeOf22 (by decide) rfl e19) ?_
 refine lv (.slice Akf890_0_5 kf286_0_5.length ckf890_0_5) (ld_fld (hC.bx (i := 1) rfl) Try.isAgg22 rfl rfl) ?_
 refine lp (.int .i64 z26) (pu_move e6) ?_
 obtain ⟨z388, h1165, hb⟩ := bd hb
 refine lp (.int .i64 z388) (pu_subc (a := z26) (b := 1) rfl rfl h1165) ?_
 refine lp (.int .i64 z385) (pu_move rfl) ?_
 obtain ⟨z390, h1167, hb⟩ := bd hb
 refine lp (.int .i64 z390) (pu_subc (a := z388) (b := z385) rfl rfl h1167) ?_
 refine lex.op (hC.lit (s := (.int .i64)) (vs := [.int .i64 z390]) (xs := [z390]) Try.underlying22 Try.type3 rfl rfl (Nat.le_of_ble_eq_true rfl) rfl rfl (by simp [Value.cells, Sh.n]) rfl (show Elems _ _ (.int .i64) ([.int .i64 z390] ++ ([])) ([z390] : List Int) from Elems.cons (⟨rfl, I64.wr (chk_rng h1167)⟩) (Elems.nil _ _ _))) ?_
 rintro _ w1172 ⟨A1168, c1169, rfl, hl1170, hc1171, hC, hF, hN⟩
 clear hF hN
 obtain ⟨u398, h1175, hb⟩ := bd hb
 refine lex.op (hC.app (i := 3) (s := (.int .i64)) (xs := kf286_0_5) (ys := ([z390] : List Int)) (m := ((([z390] : List Int)).length)) rfl Try.underlying22 Try.underlying22 Try.type3 rfl rfl rfl (hC.srco (i := 0) rfl) rfl rfl (by have := lim_some h1175; simp at this ⊢ <;> omega) (by decide)) ?_
 rintro _ w1180 ⟨A1176, c1177, rfl, hl1178, hc1179, hC, hF, hN⟩
 clear hF hN
 refine lp (.pointer (some ((⟨g888, 0, none⟩ : Addr).add 0))) (pu_field (sz := 1) Try.underlying24 rfl Try.sizeOf22 (by decide) rfl e19) ?_
 refine lex.sk (hC.setf (i := 2) (k := 0) (v := .slice A1176 ((kf286_0_5 ++ ([z390] : List Int)).length) c1177) rfl Try.sizeOf22 rfl rfl rfl rfl) ?_
 rintro w1181 ⟨hC, hF⟩
 refine ln ?_
 refine hK1163 _ _ ?_
 refine Wc.fresh fun E1182 hE => ?_
 have e2 := (congrFun hE 2).trans e2
 have e3 := (congrFun hE 3).trans e3
 have e4 := (congrFun hE 4).trans e4
 have e6 := (congrFun hE 6).trans e6
 have e19 := (congrFun hE 19).trans e19
 have e22 : E1182 22 = .int .i64 v170_5 := (congrFun hE 22).trans rfl
 have e23 : E1182 23 = .int .i64 z385 := (congrFun hE 23).trans rfl
 have e169 := (congrFun hE 169).trans e169
 have e170 := (congrFun hE 170).trans e170
 have e171 : E1182 171 = .bool (decide (v170_5 < b_0_0)) := (congrFun hE 171).trans rfl
 clear hE
 refine rg ?_
 refine lp (.pointer (some ((⟨g888, 0, none⟩ : Addr).add 1))) (pu_field (sz := 1) Try.underlying24 rfl Try.sizeOf22 (by decide) rfl e19) ?_
 refine lv (.slice Akf890_1_5 kf286_1_5.length ckf890_1_5) (ld_fld (hC.bx (i := 2) rfl) Try.isAgg22 rfl rfl) ?_
 refine lp (.int .i64 z385) (pu_move e23) ?_
 refine lex.op (hC.lit (s := (.int .i64)) (vs := [.int .i64 z385]) (xs := [z385]) Try.underlying22 Try.type3 rfl rfl (Nat.le_of_ble_eq_true rfl) rfl rfl (by simp [Value.cells, Sh.n]) rfl (show Elems _ _ (.int .i64) ([.int .i64 z385] ++ ([])) ([z385] : List Int) from Elems.cons (⟨rfl, I64.wr (chk_rng h1162)⟩) (Elems.nil _ _ _))) ?_
 rintro _ w1187 ⟨A1183, c1184, rfl, hl1185, hc1186, hC, hF, hN⟩
 clear hF hN
 obtain ⟨u413, h1190, hb⟩ := bd hb
 refine lex.op (hC.app (i := 5) (s := (.int .i64)) (xs := kf286_1_5) (ys := ([z385] : List Int)) (m := ((([z385] : List Int)).length)) rfl Try.underlying22 Try.underlying22 Try.type3 rfl rfl rfl (hC.srco (i := 0) rfl) rfl rfl (by have := lim_some h1190; simp at this ⊢ <;> omega) (by decide)) ?_
 rintro _ w1195 ⟨A1191, c1192, rfl, hl1193, hc1194, hC, hF, hN⟩
 clear hF hN
 refine lp (.pointer (some ((⟨g888, 0, none⟩ : Addr).add 1))) (pu_field (sz := 1) Try.underlying24 rfl Try.sizeOf22 (by decide) rfl e19) ?_
 refine lex.sk (hC.setf (i := 3) (k := 1) (v := .slice A1191 ((kf286_1_5 ++ ([z385] : List Int)).length) c1192) rfl Try.sizeOf22 rfl rfl rfl rfl) ?_
 rintro w1196 ⟨hC, hF⟩
 refine ln ?_
 refine hK1156 _ _ ?_
 refine rg ?_
 obtain ⟨z421, h1198, hb⟩ := bd hb
 refine lp (.int .i64 z421) (pu_addc (a := v170_5) (b := 1) e170 rfl h1198) ?_
 refine lp (.int .i64 z421) (pu_move rfl) ?_
 refine ln ?_
 obtain rfl := os hb
 exact hK1148 m1149' _ _ (Nat.lt_succ_self _) ⟨z421, (kf286_0_5 ++ ([z390] : List Int)), (kf286_1_5 ++ ([z385] : List Int)), A1176, (kf286_0_5 ++ ([z390] : List Int)).length, c1177, A1191, (kf286_1_5 ++ ([z385] : List Int)).length, c1192, e2, e3, e4, e6, e19, e169, rfl, (chk_rng h1198), hC.sel [2, 3, 4, 5] (by decide), lN hl5⟩
 replace hb := tf hq1155 hb
 refine Wc.exit rfl ?_
 obtain rfl := os hb
 obtain rfl := (lX hl5).symm
 exact hK1147 _ _ ⟨v170_5, kf286_0_5, kf286_1_5, Akf890_0_5, kf286_0_5.length, ckf890_0_5, Akf890_1_5, kf286_1_5.length, ckf890_1_5, e2, e3, e19, hrv170_5, hC.sel [0, 1, 2, 3] (by decide), hbK5⟩
 clear hb hC hl5
 rintro E1200 w1199 ⟨v170_5, kf286_0_5, kf286_1_5, Akf890_0_5, mkf890_0_5, ckf890_0_5, Akf890_1_5, mkf890_1_5, ckf890_1_5, e2, e3, e19, hrv170_5, hC, hb⟩
 obtain ⟨rfl, hlkf890_0_5, hckf890_0_5⟩ := (hC.ow (i := 2) rfl).sl_len
 obtain ⟨rfl, hlkf890_1_5, hckf890_1_5⟩ := (hC.ow (i := 3) rfl).sl_len
 refine hK1144 _ _ ?_
 refine Wc.seq fun K1201 hK1201 => ?_
 refine rg ?_
 refine lv (.agg #[.slice Akf890_0_5 kf286_0_5.length ckf890_0_5, .slice Akf890_1_5 kf286_1_5.length ckf890_1_5]) (ld_blk (hC.bx (i := 1) rfl) Try.isAgg24 Try.sizeOf24 e19) ?_
 refine lex.sk (hC.seta (i := 0) (ds := [.slice Akf890_0_5 kf286_0_5.length ckf890_0_5, .slice Akf890_1_5 kf286_1_5.length ckf890_1_5]) rfl Try.type24 rfl rfl rfl e2 rfl) ?_
 rintro w1202 ⟨hC, hF⟩
 refine lp (.int .i64 0) (pu_assign rfl) ?_
 refine ln ?_
 refine hK1201 _ _ ?_
 obtain rfl := os hb
 refine Wc.ret ?_
 refine hKR _ _ ?_
 refine ⟨_, res2 Try.results18 ⟨_, e2, loadVar_blk (hC.bx (i := 0) rfl) Try.isAgg24 Try.sizeOf24⟩ (show RV _ _ _ (.tmp _) (.int .i64 0) from rfl), _, rfl, Akf890_0_5, kf286_0_5.length, ckf890_0_5, Akf890_1_5, kf286_1_5.length, ckf890_1_5, rfl, (show I64 0 from by unfold I64; omega), hC.sel [2, 3] (by decide)⟩
end Go.Proofs.Yticemffhlapnnaa
