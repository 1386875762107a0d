/- The walks: part 16. -/
import Derived.Test.YticemffhlapnnaaS
import Derived.Test.YticemffhlapnnaaG0
import Derived.Test.YticemffhlapnnaaG3
import Derived.Test.YticemffhlapnnaaG4
import Derived.Test.YticemffhlapnnaaG6
import Derived.Test.YticemffhlapnnaaG7
import Derived.Test.YticemffhlapnnaaG8
set_option linter.unusedVariables false
set_option linter.unusedSimpArgs false
namespace Go.Proofs.Yticemffhlapnnaa
open Ev
set_option maxRecDepth 100000 in
set_option maxHeartbeats 4000000 in
theorem slices_Clone_Lint_int_ok (n : Nat) {w : World} {O0 : List Nat} (hO : ∀ k ∈ O0, k < w.heap.size) {As_0 : Option Addr} {ms_0 cs_0 : Nat} {s_0 : List Int} (hs_0 : Rep O0 w (.sl (.int .i64)) [.slice As_0 ms_0 cs_0] s_0) {r : (List Int)} (hb : F.slices_Clone_Lint_int n s_0 = some r) :
    Calls Try.prog 48 #[.slice As_0 ms_0 cs_0] w fun e w' => ∃ v, e = .returned v ∧ ∃ (A0 : Option Addr) (m0 c0 : Nat), v = .slice A0 m0 c0 ∧ Cx (fun _ => False) O0 w w' [.own 3 (.int .i64) (.slice A0 m0 c0) r] := by
 unfold F.slices_Clone_Lint_int at hb
 have hC := Cx.start hO
 replace hC := hC.arg rfl hs_0
 clear hO
 obtain ⟨rfl, hls_0, hcs_0⟩ := hs_0.sl_len
 refine calls_of_Wc Try.func48 rfl (by rw [Try.ntmps48]; exact Nat.le_of_ble_eq_true rfl) fun KR hKR => ?_
 refine Wc.seq fun K2 hK2 => ?_
 refine rg ?_
 refine lp (.slice none 0 0) (pu_assign rfl) ?_
 refine ln ?_
 refine hK2 _ _ ?_
 refine Wc.seq fun K3 hK3 => ?_
 refine Wc.seq fun K4 hK4 => ?_
 refine rg ?_
 refine lp (.slice As_0 s_0.length cs_0) (pu_move rfl) ?_
 refine lp (.bool As_0.isNone) (pu_eqlnil Try.underlying22 rfl rfl) ?_
 refine ln ?_
 refine hK4 _ _ ?_
 refine Wc.cond (t := As_0.isNone) (rfl) (fun hq5 => ?_) (fun hq5 => ?_)
 have hz : As_0 = none := by simpa using hq5
 have hx := (hC.rd (i := 0) rfl).none_nil' hz
 replace hb : some ([]) = some r := by have hb2 := hb; rw [hx] at hb2; first | exact hb2 | simpa [lim] using hb2
 refine Wc.seq fun K7 hK7 => ?_
 refine rg ?_
 refine lp (.slice none 0 0) (pu_assign rfl) ?_
 refine ln ?_
 refine hK7 _ _ ?_
 replace hC := hC.nil 3 (.int .i64)
 obtain rfl := os hb
 refine Wc.ret ?_
 refine hKR _ _ ?_
 refine ⟨_, res1 Try.results48 (show RV _ _ _ (.tmp _) (.slice none 0 0) from rfl), _, rfl, none, 0, 0, rfl, hC.sel [0] (by decide)⟩
 refine Wc.skip ?_
 refine hK3 _ _ ?_
 refine Wc.seq fun K9 hK9 => ?_
 refine rg ?_
 refine lex.op (hC.lit (s := (.int .i64)) (vs := []) (xs := []) Try.underlying22 Try.type3 rfl rfl (Nat.le_of_ble_eq_true rfl) rfl rfl (by simp [Value.cells, Sh.n]) rfl (show Elems _ _ (.int .i64) ([]) ([] : List Int) from Elems.nil _ _ _)) ?_
 rintro _ w14 ⟨A10, c11, rfl, hl12, hc13, hC, hF, hN⟩
 clear hF hN
 refine lp (.slice As_0 s_0.length cs_0) (pu_move rfl) ?_
 obtain ⟨u16, h17, hb⟩ := bd hb
 refine lex.op (hC.app (i := 0) (s := (.int .i64)) (xs := ([] : List Int)) (ys := s_0) (m := s_0.length) rfl Try.underlying22 Try.underlying22 Try.type3 rfl rfl rfl (hC.srcr (i := 1) rfl) rfl rfl (by have := lim_some h17; simp at this ⊢ <;> omega) (by decide)) ?_
 rintro _ w22 ⟨A18, c19, rfl, hl20, hc21, hC, hF, hN⟩
 clear hF hN
 refine lp (.slice A18 ((([] : List Int) ++ s_0).length) c19) (pu_assign rfl) ?_
 refine ln ?_
 refine hK9 _ _ ?_
 obtain rfl := os hb
 refine Wc.ret ?_
 refine hKR _ _ ?_
 refine ⟨_, res1 Try.results48 (show RV _ _ _ (.tmp _) (.slice A18 ((([] : List Int) ++ s_0).length) c19) from rfl), _, rfl, A18, (([] : List Int) ++ s_0).length, c19, rfl, hC.sel [0] (by decide)⟩

set_option maxRecDepth 100000 in
set_option maxHeartbeats 4000000 in
theorem gridlink_Reverse_ok (n : Nat) {w : World} {O0 : List Nat} (hO : ∀ k ∈ O0, k < w.heap.size) {Ag_0_0 : Option Addr} {mg_0_0 cg_0_0 : Nat} {g_0_0 : List Int} (hg_0_0 : Rep O0 w (.sl (.int .i64)) [.slice Ag_0_0 mg_0_0 cg_0_0] g_0_0) {Ag_0_1 : Option Addr} {mg_0_1 cg_0_1 : Nat} {g_0_1 : List Int} (hg_0_1 : Rep O0 w (.sl (.int .i64)) [.slice Ag_0_1 mg_0_1 cg_0_1] g_0_1) {r : (List Int) × (List Int) × Int} (hb : F.gridlink_Reverse n g_0_0 g_0_1 = some r) :
    Calls Try.prog 23 #[.agg #[.slice Ag_0_0 mg_0_0 cg_0_0, .slice Ag_0_1 mg_0_1 cg_0_1]] w fun e w' => ∃ v, e = .returned v ∧ ∃ (A0 : Option Addr) (m0 c0 : Nat) (A1 : Option Addr) (m1 c1 : Nat), v = .tuple #[.agg #[.slice A0 m0 c0, .slice A1 m1 c1], .int .i64 r.2.2] ∧ I64 r.2.2 ∧ Cx (fun _ => False) O0 w w' [.own 3 (.int .i64) (.slice A0 m0 c0) r.1, .own 3 (.int .i64) (.slice A1 m1 c1) r.2.1] := by
 unfold F.gridlink_Reverse at hb
 have hC := Cx.start hO
 replace hC := hC.arg rfl hg_0_0
 replace hC := hC.arg rfl hg_0_1
 clear hO
 obtain ⟨rfl, hlg_0_0, hcg_0_0⟩ := hg_0_0.sl_len
 obtain ⟨rfl, hlg_0_1, hcg_0_1⟩ := hg_0_1.sl_len
 refine calls_of_Wc Try.func23 rfl (by rw [Try.ntmps23]; exact Nat.le_of_ble_eq_true rfl) fun KR hKR => ?_
 refine Wc.seq fun K3 hK3 => ?_
 refine rg ?_
 refine lex.op (hC.box (cs := [.slice Ag_0_0 g_0_0.length cg_0_0, .slice Ag_0_1 g_0_1.length cg_0_1]) rfl rfl) ?_
 rintro _ w5 ⟨g4, rfl, hC, hF, hG⟩
 clear hG
 refine lex.op (hC.alloc (cs := [.slice none 0 0, .slice none 0 0]) Try.zeroValue24 rfl) ?_
 rintro _ w8 ⟨g7, rfl, hC, hF, hG⟩
 clear hG
 refine lp (.int .i64 0) (pu_assign rfl) ?_
 refine ln ?_
 refine hK3 _ _ ?_
 refine Wc.seq fun K10 hK10 => ?_
 refine Wc.seq fun K11 hK11 => ?_
 refine rg ?_
 refine lv (.agg #[.slice Ag_0_0 g_0_0.length cg_0_0, .slice Ag_0_1 g_0_1.length cg_0_1]) (ld_blk (hC.bx (i := 1) rfl) Try.isAgg24 Try.sizeOf24 rfl) ?_
 obtain ⟨y12, h13, hb⟩ := bd hb
 refine lex.cl (⟨_, _, op_call (vs := [.agg #[.slice Ag_0_0 g_0_0.length cg_0_0, .slice Ag_0_1 g_0_1.length cg_0_1]]) Try.call26 rfl rfl rfl, grid_Valid_ok n hC.lt (hC.rd (i := 3) rfl) (hC.rd (i := 2) rfl) h13⟩) ?_
 rintro _ w14 ⟨rfl, hK⟩
 replace hC := hC.merge hK
 clear hK
 refine lp (.bool (!y12)) (pu_not (q := y12) rfl) ?_
 refine ln ?_
 refine hK11 _ _ ?_
 refine Wc.cond (t := (!y12)) (rfl) (fun hq15 => ?_) (fun hq15 => ?_)
 replace hb := tt hq15 hb
 refine Wc.seq fun K16 hK16 => ?_
 refine rg ?_
 refine lp (.agg #[.slice none 0 0, .slice none 0 0]) (pu_builds (places := [(0, 1), (1, 1)]) (pv := []) Try.type24 Try.underlying24 rfl (mp_cons Try.type22 (mp_cons Try.type22 mp_nil rfl rfl) rfl rfl) rfl (by simp [Instr.fill, Value.cells])) ?_
 refine lex.sk (hC.seta (i := 0) (ds := [.slice none 0 0, .slice none 0 0]) rfl Try.type24 rfl rfl rfl rfl rfl) ?_
 rintro w17 ⟨hC, hF⟩
 refine lp (.int .i64 1) (pu_assign rfl) ?_
 refine ln ?_
 refine hK16 _ _ ?_
 replace hC := hC.nil 3 (.int .i64)
 replace hC := hC.nil 3 (.int .i64)
 obtain rfl := os hb
 refine Wc.ret ?_
 refine hKR _ _ ?_
 refine ⟨_, res2 Try.results23 ⟨_, rfl, loadVar_blk (hC.bx (i := 2) rfl) Try.isAgg24 Try.sizeOf24⟩ (show RV _ _ _ (.tmp _) (.int .i64 1) from rfl), _, rfl, none, 0, 0, none, 0, 0, rfl, (show I64 1 from by unfold I64; omega), hC.sel [1, 0] (by decide)⟩
 replace hb := tf hq15 hb
 refine Wc.skip ?_
 refine hK10 _ _ ?_
 refine Wc.seq fun K20 hK20 => ?_
 refine Wc.regionMix [9, 12] (frm [9, 12] ([] : List Fact) [.box g7 24 [.slice none 0 0, .slice none 0 0]]) (fun _ => rfl) mixed (by decide +kernel) (by decide +kernel) fun w22 hw21 => ?_
 replace hC := hC.step (Fr.of_drew hw21)
 have hM := Fr.refl (fun k => k ∈ blocks ([] : List Fact)) w22
 clear hw21
 have hS := hC
 have hD : Fr (fun k => k ∈ blocks (([] : List Fact) ++ [.box g7 24 [.slice none 0 0, .slice none 0 0]])) w22 w22 := hM.wide
 have hUf9 : g7 < w22.heap.size → g7 ∈ blocks (([] : List Fact) ++ [.box g7 24 [.slice none 0 0, .slice none 0 0]]) := fun _ => box_in (i := 0) rfl
 refine mp (.pointer (some ((⟨g4, 0, none⟩ : Addr).add 1))) (pu_field (sz := 1) Try.underlying24 rfl Try.sizeOf22 (by decide) rfl rfl) ?_
 refine mixE.steady hD (v := .slice Ag_0_1 g_0_1.length cg_0_1) (fun _ hF => ld_fld (hS.bx2 (i := 1) rfl [0] (by decide) hF) Try.isAgg22 rfl rfl) ?_
 obtain ⟨y23, h24, hb⟩ := bd hb
 refine mixE.cl hM (⟨_, _, op_call (vs := [.slice Ag_0_1 g_0_1.length cg_0_1]) Try.call48 rfl rfl rfl, slices_Clone_Lint_int_ok n hC.lt (hC.rd (i := 2) rfl) h24⟩) ?_
 rintro _ w29 ⟨A25, m26, c27, rfl, hK⟩
 have hBf28 := Beside.cl (i := 0) hM hK rfl
 have hUf28 := hBf28.wide (H := [.box g7 24 [.slice none 0 0, .slice none 0 0]])
 replace hM := hM.none hK.fr
 replace hD := hM.wide (H := [.box g7 24 [.slice none 0 0, .slice none 0 0]])
 refine ⟨hM, ?_⟩
 replace hC := hC.merge hK
 clear hK
 obtain ⟨rfl, hl30, hc31⟩ := (hC.ow (i := 0) rfl).sl_len
 refine mp (.pointer (some ((⟨g4, 0, none⟩ : Addr).add 0))) (pu_field (sz := 1) Try.underlying24 rfl Try.sizeOf22 (by decide) rfl rfl) ?_
 refine mixE.steady hD (v := .slice Ag_0_0 g_0_0.length cg_0_0) (fun _ hF => ld_fld (hS.bx2 (i := 1) rfl [0] (by decide) hF) Try.isAgg22 rfl rfl) ?_
 obtain ⟨y32, h33, hb⟩ := bd hb
 refine mixE.cl hM (⟨_, _, op_call (vs := [.slice Ag_0_0 g_0_0.length cg_0_0]) Try.call48 rfl rfl rfl, slices_Clone_Lint_int_ok n hC.lt (hC.rd (i := 4) rfl) h33⟩) ?_
 rintro _ w38 ⟨A34, m35, c36, rfl, hK⟩
 have hBf37 := Beside.cl (i := 0) hM hK rfl
 have hUf37 := hBf37.wide (H := [.box g7 24 [.slice none 0 0, .slice none 0 0]])
 replace hM := hM.none hK.fr
 replace hD := hM.wide (H := [.box g7 24 [.slice none 0 0, .slice none 0 0]])
 refine ⟨hM, ?_⟩
 replace hC := hC.merge hK
 clear hK
 obtain ⟨rfl, hl39, hc40⟩ := (hC.ow (i := 0) rfl).sl_len
 refine mp (.agg #[.slice A25 y23.length c27, .slice A34 y32.length c36]) (pu_builds (places := [(0, 1), (1, 1)]) (pv := [(0, .slice A25 y23.length c27), (1, .slice A34 y32.length c36)]) Try.type24 Try.underlying24 rfl (mp_cons Try.type22 (mp_cons Try.type22 mp_nil rfl rfl) rfl rfl) rfl (by simp [Instr.fill, Value.cells])) ?_
 refine mixE.sk hD (hC.seta (i := 2) (ds := [.slice A25 y23.length c27, .slice A34 y32.length c36]) rfl Try.type24 rfl rfl rfl rfl rfl) ?_
 rintro w41 ⟨hC, hF⟩
 replace hD := hD.besideG hUf9 hF
 clear hF
 refine ⟨hD, ?_⟩
 refine mp (.int .i64 0) (pu_assign rfl) ?_
 refine mixE.nil ?_
 clear hS hM
 clear hD
 refine hK20 _ _ ?_
 obtain rfl := os hb
 refine Wc.ret ?_
 refine hKR _ _ ?_
 refine ⟨_, res2 Try.results23 ⟨_, rfl, loadVar_blk (hC.bx (i := 2) rfl) Try.isAgg24 Try.sizeOf24⟩ (show RV _ _ _ (.tmp _) (.int .i64 0) from rfl), _, rfl, A25, y23.length, c27, A34, y32.length, c36, rfl, (show I64 0 from by unfold I64; omega), hC.sel [1, 0] (by decide)⟩

set_option maxRecDepth 100000 in
set_option maxHeartbeats 4000000 in
theorem slices_Reverse_Lint_int_ok (n : Nat) {w : World} {O0 : List Nat} (hO : ∀ k ∈ O0, k < w.heap.size) {As_0 : Option Addr} {ms_0 cs_0 : Nat} {s_0 : List Int} (hio : Tk O0 w [.own 3 (.int .i64) (.slice As_0 ms_0 cs_0) s_0]) {r : (List Int)} (hb : F.slices_Reverse_Lint_int n s_0 = some r) :
    Calls Try.prog 49 #[.slice As_0 ms_0 cs_0] w fun e w' => ∃ v, e = .returned v ∧ v = .tuple #[] ∧ Cx (fun k => k ∈ blocks [.own 3 (.int .i64) (.slice As_0 ms_0 cs_0) s_0]) O0 w w' [.own 3 (.int .i64) (.slice As_0 ms_0 cs_0) r] := by
 unfold F.slices_Reverse_Lint_int at hb
 have hC := Cx.startTk hO hio
 have hsub := hio.2.2
 clear hO
 obtain ⟨rfl, hls_0, hcs_0⟩ := (hC.ow (i := 0) rfl).sl_len
 clear hio hsub
 obtain ⟨I, hI, hC⟩ : ∃ I : Nat → Prop, I = (fun k => k ∈ blocks [.own 3 (.int .i64) (.slice As_0 s_0.length cs_0) s_0]) ∧ Cx I O0 w w ([.own 3 (.int .i64) (.slice As_0 s_0.length cs_0) s_0]) := ⟨_, rfl, hC⟩
 refine calls_of_Wc Try.func49 rfl (by rw [Try.ntmps49]; exact Nat.le_of_ble_eq_true rfl) fun KR hKR => ?_
 refine Wc.seq fun K2 hK2 => ?_
 refine rg ?_
 refine lp (.slice As_0 s_0.length cs_0) (pu_move rfl) ?_
 refine lp (.int .i64 (s_0.length : Int)) (pu_len (A := As_0) (n := s_0.length) (m := cs_0) Try.underlying22 rfl) ?_
 obtain ⟨z3, h4, hb⟩ := bd hb
 refine lp (.int .i64 z3) (pu_subc (a := (s_0.length : Int)) (b := 1) rfl rfl h4) ?_
 refine lp (.int .i64 0) (pu_assign rfl) ?_
 refine lp (.int .i64 z3) (pu_assign rfl) ?_
 refine ln ?_
 refine hK2 _ _ ?_
 obtain ⟨o5, hl0, hb⟩ := bd hb
 refine Wc.cut (fun E wv => ∃ (v2_0 : Int) (v3_0 : Int) (qf1_0 : List Int), I64 v2_0 ∧ I64 v3_0 ∧ Cx I O0 w wv [.own 3 (.int .i64) (.slice As_0 s_0.length cs_0) qf1_0] ∧ (some qf1_0 : Option ((List Int))) = some r) (fun K6 hK6 => ?_) ?_
 refine Wc.block ?_
 refine Wc.loop (fun m E wv => ∃ (v2_0 : Int) (v3_0 : Int) (qf1_0 : List Int), E 0 = .slice As_0 s_0.length cs_0 ∧ E 2 = .int .i64 v2_0 ∧ E 3 = .int .i64 v3_0 ∧ I64 v2_0 ∧ I64 v3_0 ∧ Cx I O0 w wv [.own 3 (.int .i64) (.slice As_0 s_0.length cs_0) qf1_0] ∧ loopN m (F.slices_Reverse_Lint_int_b0 n) (v2_0, v3_0, qf1_0) = some o5) n ⟨0, z3, s_0, rfl, rfl, rfl, (show I64 0 from by unfold I64; omega), (chk_rng h4), hC.sel [0] (by decide), hl0⟩ ?_
 have hbK0 := hb
 clear hb hC hl0
 rintro m8 E10 w9 ⟨v2_0, v3_0, qf1_0, e0, e2, e3, hrv2_0, hrv3_0, hC, hl0⟩ K7 hK7
 obtain ⟨m8', o11, rfl, hb, hl0⟩ := loopN_some hl0
 unfold F.slices_Reverse_Lint_int_b0 at hb
 refine Wc.seq fun K12 hK12 => ?_
 refine Wc.seq fun K13 hK13 => ?_
 refine rg ?_
 refine lp (.int .i64 v2_0) (pu_move e2) ?_
 refine lp (.int .i64 v3_0) (pu_move e3) ?_
 refine lp (.bool (decide (v2_0 < v3_0))) (pu_lss (k := .i64) (a := v2_0) (b := v3_0) rfl rfl) ?_
 refine ln ?_
 refine hK13 _ _ ?_
 refine Wc.cond (t := (decide (v2_0 < v3_0))) (rfl) (fun hq14 => ?_) (fun hq14 => ?_)
 replace hb := tt hq14 hb
 refine Wc.skip ?_
 refine hK12 _ _ ?_
 refine Wc.seq fun K15 hK15 => ?_
 refine Wc.block ?_
 refine Wc.regionMix [] (frm [] ([] : List Fact) [.own 3 (.int .i64) (.slice As_0 s_0.length cs_0) qf1_0]) (fun _ => rfl) mixed (by decide +kernel) (by decide +kernel) fun w17 hw16 => ?_
 replace hC := hC.step (Fr.of_drew hw16)
 have hM := Fr.refl (fun k => k ∈ blocks ([] : List Fact)) w17
 clear hw16
 have hS := hC
 have hD : Fr (fun k => k ∈ blocks (([] : List Fact) ++ [.own 3 (.int .i64) (.slice As_0 s_0.length cs_0) qf1_0])) w17 w17 := hM.wide
 have hUf1 : Beside (([] : List Fact) ++ [.own 3 (.int .i64) (.slice As_0 s_0.length cs_0) qf1_0]) w17 (.slice As_0 s_0.length cs_0) := Beside.of (i := 0) rfl
 refine mp (.slice As_0 s_0.length cs_0) (pu_move e0) ?_
 refine mp (.int .i64 v2_0) (pu_move e2) ?_
 refine mp (.slice As_0 s_0.length cs_0) (pu_move e0) ?_
 refine mp (.int .i64 v3_0) (pu_move e3) ?_
 refine mp (.slice As_0 s_0.length cs_0) (pu_move e0) ?_
 refine mp (.int .i64 v3_0) (pu_move e3) ?_
 obtain ⟨x18, h19, hb⟩ := bd hb
 obtain ⟨ad20, cs21, hA, ho24, hc22, hr23⟩ := hS.elo2 (i := 0) rfl (get_some h19).2 [] (by decide)
 subst hA
 refine mp (.pointer (some (ad20.add (v3_0.toNat * 1)))) (pu_index (a := v3_0) Try.underlying22 Try.sizeOf3 rfl rfl (by rw [(hC.ow (i := 0) rfl).sl_len.1]; exact (get_some h19).1)) ?_
 obtain ⟨rfl, hr23'⟩ := hr23
 refine mixE.load hM (v := .int .i64 x18) (fun _ hF => ld_one Try.isAgg3 rfl (hF.cell (hc22 0 _ rfl) (off1 ho24))) ?_
 refine mp (.slice (some ad20) s_0.length cs_0) (pu_move e0) ?_
 refine mp (.int .i64 v2_0) (pu_move e2) ?_
 obtain ⟨x25, h26, hb⟩ := bd hb
 obtain ⟨ad27, cs28, hA, ho31, hc29, hr30⟩ := hS.elo2 (i := 0) rfl (get_some h26).2 [] (by decide)
 obtain rfl := Option.some.inj hA
 refine mp (.pointer (some (ad20.add (v2_0.toNat * 1)))) (pu_index (a := v2_0) Try.underlying22 Try.sizeOf3 rfl rfl (by rw [(hC.ow (i := 0) rfl).sl_len.1]; exact (get_some h26).1)) ?_
 obtain ⟨rfl, hr30'⟩ := hr30
 refine mixE.load hM (v := .int .i64 x25) (fun _ hF => ld_one Try.isAgg3 rfl (hF.cell (hc29 0 _ rfl) (off1 ho31))) ?_
 obtain ⟨x32, h33, hb⟩ := bd hb
 obtain ⟨ad34, cs35, hA, ho38, hc36, hr37⟩ := hS.elo2 (i := 0) rfl (get_some h33).2 [] (by decide)
 obtain rfl := Option.some.inj hA
 refine mp (.pointer (some (ad20.add (v2_0.toNat * 1)))) (pu_index (a := v2_0) Try.underlying22 Try.sizeOf3 rfl rfl (by rw [(hC.ow (i := 0) rfl).sl_len.1]; exact (get_some h33).1)) ?_
 refine mixE.sk hD (hC.put (i := 0) rfl rfl Try.sizeOf3 (k := v2_0.toNat) (a := x18) (by have := (get_some h33).1; simp at this ⊢; omega) (⟨rfl, I64.wr (wrap_I64 hr23')⟩) rfl rfl rfl) ?_
 rintro w39 ⟨hC, hF⟩
 replace hD := hD.beside hUf1 hF
 clear hF
 refine ⟨hD, ?_⟩
 obtain ⟨x40, h41, hb⟩ := bd hb
 obtain ⟨ad42, cs43, hA, hc44, hr45⟩ := hC.elo (i := 0) rfl (get_some h41).2
 obtain rfl := Option.some.inj hA
 refine mp (.pointer (some (ad20.add (v3_0.toNat * 1)))) (pu_index (a := v3_0) Try.underlying22 Try.sizeOf3 rfl rfl (by rw [(hC.ow (i := 0) rfl).sl_len.1]; exact (get_some h41).1)) ?_
 refine mixE.sk hD (hC.put (i := 0) rfl rfl Try.sizeOf3 (k := v3_0.toNat) (a := x25) (by have := (get_some h41).1; simp at this ⊢; omega) (⟨rfl, I64.wr (wrap_I64 hr30')⟩) rfl rfl rfl) ?_
 rintro w46 ⟨hC, hF⟩
 replace hD := hD.beside hUf1 hF
 clear hF
 refine ⟨hD, ?_⟩
 refine mixE.nil ?_
 clear hS hM
 clear hD
 refine hK15 _ _ ?_
 refine Wc.fresh fun E47 hE => ?_
 have e0 := (congrFun hE 0).trans e0
 have e2 := (congrFun hE 2).trans e2
 have e3 := (congrFun hE 3).trans e3
 have e9 : E47 9 = .bool (decide (v2_0 < v3_0)) := (congrFun hE 9).trans rfl
 clear hE
 refine rg ?_
 refine lp (.int .i64 v2_0) (pu_move e2) ?_
 obtain ⟨z48, h49, hb⟩ := bd hb
 refine lp (.int .i64 z48) (pu_addc (a := v2_0) (b := 1) rfl rfl h49) ?_
 refine lp (.int .i64 v3_0) (pu_move e3) ?_
 obtain ⟨z50, h51, hb⟩ := bd hb
 refine lp (.int .i64 z50) (pu_subc (a := v3_0) (b := 1) rfl rfl h51) ?_
 refine lp (.int .i64 z48) (pu_assign rfl) ?_
 refine lp (.int .i64 z50) (pu_assign rfl) ?_
 refine ln ?_
 obtain rfl := os hb
 exact hK7 m8' _ _ (Nat.lt_succ_self _) ⟨z48, z50, ((qf1_0.set v2_0.toNat x18).set v3_0.toNat x25), e0, rfl, rfl, (chk_rng h49), (chk_rng h51), hC.sel [0] (by decide), lN hl0⟩
 replace hb := tf hq14 hb
 refine Wc.exit rfl ?_
 obtain rfl := os hb
 obtain rfl := (lX hl0).symm
 exact hK6 _ _ ⟨v2_0, v3_0, qf1_0, hrv2_0, hrv3_0, hC.sel [0] (by decide), hbK0⟩
 clear hb hC hl0
 rintro E53 w52 ⟨v2_0, v3_0, qf1_0, hrv2_0, hrv3_0, hC, hb⟩
 obtain rfl := os hb
 subst hI
 refine hKR _ _ ?_
 refine ⟨_, res0 Try.results49, _, rfl, rfl, hC.sel [0] (by decide)⟩

set_option maxRecDepth 100000 in
set_option maxHeartbeats 4000000 in
theorem gridlink_Reflect_ok (n : Nat) {w : World} {O0 : List Nat} (hO : ∀ k ∈ O0, k < w.heap.size) {Ag_0_0 : Option Addr} {mg_0_0 cg_0_0 : Nat} {g_0_0 : List Int} (hg_0_0 : Rep O0 w (.sl (.int .i64)) [.slice Ag_0_0 mg_0_0 cg_0_0] g_0_0) {Ag_0_1 : Option Addr} {mg_0_1 cg_0_1 : Nat} {g_0_1 : List Int} (hg_0_1 : Rep O0 w (.sl (.int .i64)) [.slice Ag_0_1 mg_0_1 cg_0_1] g_0_1) {r : (List Int) × (List Int) × Int} (hb : F.gridlink_Reflect n g_0_0 g_0_1 = some r) :
    Calls Try.prog 24 #[.agg #[.slice Ag_0_0 mg_0_0 cg_0_0, .slice Ag_0_1 mg_0_1 cg_0_1]] w fun e w' => ∃ v, e = .returned v ∧ ∃ (A0 : Option Addr) (m0 c0 : Nat) (A1 : Option Addr) (m1 c1 : Nat), v = .tuple #[.agg #[.slice A0 m0 c0, .slice A1 m1 c1], .int .i64 r.2.2] ∧ I64 r.2.2 ∧ Cx (fun _ => False) O0 w w' [.own 3 (.int .i64) (.slice A0 m0 c0) r.1, .own 3 (.int .i64) (.slice A1 m1 c1) r.2.1] := by
 unfold F.gridlink_Reflect at hb
 have hC := Cx.start hO
 replace hC := hC.arg rfl hg_0_0
 replace hC := hC.arg rfl hg_0_1
 clear hO
 obtain ⟨rfl, hlg_0_0, hcg_0_0⟩ := hg_0_0.sl_len
 obtain ⟨rfl, hlg_0_1, hcg_0_1⟩ := hg_0_1.sl_len
 refine calls_of_Wc Try.func24 rfl (by rw [Try.ntmps24]; exact Nat.le_of_ble_eq_true rfl) fun KR hKR => ?_
 refine Wc.seq fun K3 hK3 => ?_
 refine rg ?_
 refine lex.op (hC.box (cs := [.slice Ag_0_0 g_0_0.length cg_0_0, .slice Ag_0_1 g_0_1.length cg_0_1]) rfl rfl) ?_
 rintro _ w5 ⟨g4, rfl, hC, hF, hG⟩
 clear hG
 refine lex.op (hC.alloc (cs := [.slice none 0 0, .slice none 0 0]) Try.zeroValue24 rfl) ?_
 rintro _ w8 ⟨g7, rfl, hC, hF, hG⟩
 clear hG
 refine lp (.int .i64 0) (pu_assign rfl) ?_
 refine ln ?_
 refine hK3 _ _ ?_
 refine Wc.seq fun K10 hK10 => ?_
 refine Wc.seq fun K11 hK11 => ?_
 refine rg ?_
 refine lv (.agg #[.slice Ag_0_0 g_0_0.length cg_0_0, .slice Ag_0_1 g_0_1.length cg_0_1]) (ld_blk (hC.bx (i := 1) rfl) Try.isAgg24 Try.sizeOf24 rfl) ?_
 obtain ⟨y12, h13, hb⟩ := bd hb
 refine lex.cl (⟨_, _, op_call (vs := [.agg #[.slice Ag_0_0 g_0_0.length cg_0_0, .slice Ag_0_1 g_0_1.length cg_0_1]]) Try.call26 rfl rfl rfl, grid_Valid_ok n hC.lt (hC.rd (i := 3) rfl) (hC.rd (i := 2) rfl) h13⟩) ?_
 rintro _ w14 ⟨rfl, hK⟩
 replace hC := hC.merge hK
 clear hK
 refine lp (.bool (!y12)) (pu_not (q := y12) rfl) ?_
 refine ln ?_
 refine hK11 _ _ ?_
 refine Wc.cond (t := (!y12)) (rfl) (fun hq15 => ?_) (fun hq15 => ?_)
 replace hb := tt hq15 hb
 refine Wc.seq fun K16 hK16 => ?_
 refine rg ?_
 refine lp (.agg #[.slice none 0 0, .slice none 0 0]) (pu_builds (places := [(0, 1), (1, 1)]) (pv := []) Try.type24 Try.underlying24 rfl (mp_cons Try.type22 (mp_cons Try.type22 mp_nil rfl rfl) rfl rfl) rfl (by simp [Instr.fill, Value.cells])) ?_
 refine lex.sk (hC.seta (i := 0) (ds := [.slice none 0 0, .slice none 0 0]) rfl Try.type24 rfl rfl rfl rfl rfl) ?_
 rintro w17 ⟨hC, hF⟩
 refine lp (.int .i64 1) (pu_assign rfl) ?_
 refine ln ?_
 refine hK16 _ _ ?_
 replace hC := hC.nil 3 (.int .i64)
 replace hC := hC.nil 3 (.int .i64)
 obtain rfl := os hb
 refine Wc.ret ?_
 refine hKR _ _ ?_
 refine ⟨_, res2 Try.results24 ⟨_, rfl, loadVar_blk (hC.bx (i := 2) rfl) Try.isAgg24 Try.sizeOf24⟩ (show RV _ _ _ (.tmp _) (.int .i64 1) from rfl), _, rfl, none, 0, 0, none, 0, 0, rfl, (show I64 1 from by unfold I64; omega), hC.sel [1, 0] (by decide)⟩
 replace hb := tf hq15 hb
 refine Wc.skip ?_
 refine hK10 _ _ ?_
 refine Wc.seq fun K20 hK20 => ?_
 refine Wc.regionPlan [10, 13] (frm [10, 13] ([] : List Fact) ([] : List Fact)) (chainP [0, 1, 3, 4] (.alt (chainP [2] (.alt (chainP [5] (chainP [6, 7, 8] .done)) (chainP [7] (chainP [5, 6, 8] .done)))) (chainP [7] (chainP [2, 5, 6, 8] .done)))) (fun _ => rfl) mixed (by decide +kernel) (by decide +kernel) fun w22 hw21 => ?_
 replace hC := hC.step (Fr.of_drew hw21)
 have hM := Fr.refl (fun k => k ∈ blocks ([] : List Fact)) w22
 clear hw21
 have hS := hC
 have hD : Fr (fun k => k ∈ blocks (([] : List Fact) ++ ([] : List Fact))) w22 w22 := hM.wide
 refine mixPE_chain ?_
 refine mp (.pointer (some ((⟨g4, 0, none⟩ : Addr).add 0))) (pu_field (sz := 1) Try.underlying24 rfl Try.sizeOf22 (by decide) rfl rfl) ?_
 refine mixE.steady hD (v := .slice Ag_0_0 g_0_0.length cg_0_0) (fun _ hF => ld_fld (hS.bx2 (i := 1) rfl [] (by decide) hF) Try.isAgg22 rfl rfl) ?_
 refine mp (.pointer (some ((⟨g4, 0, none⟩ : Addr).add 1))) (pu_field (sz := 1) Try.underlying24 rfl Try.sizeOf22 (by decide) rfl rfl) ?_
 refine mixE.steady hD (v := .slice Ag_0_1 g_0_1.length cg_0_1) (fun _ hF => ld_fld (hS.bx2 (i := 1) rfl [] (by decide) hF) Try.isAgg22 rfl rfl) ?_
 refine mixE.nil ?_
 refine mixPE_alt ?_ ?_
 refine mixPE_chain ?_
 obtain ⟨y23, h24, hb⟩ := bd hb
 refine mixE.cl hM (⟨_, _, op_call (vs := [.slice Ag_0_0 g_0_0.length cg_0_0]) Try.call48 rfl rfl rfl, slices_Clone_Lint_int_ok n hC.lt (hC.rd (i := 3) rfl) h24⟩) ?_
 rintro _ w29 ⟨A25, m26, c27, rfl, hK⟩
 have hBf28 := Beside.cl (i := 0) hM hK rfl
 have hUf28 := hBf28.wide (H := ([] : List Fact))
 replace hM := hM.none hK.fr
 replace hD := hM.wide (H := ([] : List Fact))
 refine ⟨hM, ?_⟩
 replace hC := hC.merge hK
 clear hK
 obtain ⟨rfl, hl30, hc31⟩ := (hC.ow (i := 0) rfl).sl_len
 refine mixE.nil ?_
 refine mixPE_alt ?_ ?_
 refine mixPE_chain ?_
 obtain ⟨y32, h33, hb⟩ := bd hb
 refine mixE.cl hM (⟨_, _, op_call (vs := [.slice Ag_0_1 g_0_1.length cg_0_1]) Try.call48 rfl rfl rfl, slices_Clone_Lint_int_ok n hC.lt (hC.rd (i := 3) rfl) h33⟩) ?_
 rintro _ w38 ⟨A34, m35, c36, rfl, hK⟩
 have hBf37 := Beside.cl (i := 0) hM hK rfl
 have hUf37 := hBf37.wide (H := ([] : List Fact))
 replace hM := hM.none hK.fr
 replace hD := hM.wide (H := ([] : List Fact))
 refine ⟨hM, ?_⟩
 replace hC := hC.merge hK
 clear hK
 obtain ⟨rfl, hl39, hc40⟩ := (hC.ow (i := 0) rfl).sl_len
 refine mixE.nil ?_
 refine mixPE_chain ?_
 refine mp (.agg #[.slice A25 y23.length c27, .slice A34 y32.length c36]) (pu_builds (places := [(0, 1), (1, 1)]) (pv := [(0, .slice A25 y23.length c27), (1, .slice A34 y32.length c36)]) Try.type24 Try.underlying24 rfl (mp_cons Try.type22 (mp_cons Try.type22 mp_nil rfl rfl) rfl rfl) rfl (by simp [Instr.fill, Value.cells])) ?_
 refine mixE.op hM (hC.alloc (cs := [.slice none 0 0, .slice none 0 0]) Try.zeroValue24 rfl) ?_
 rintro _ w42 ⟨g41, rfl, hC, hF, hG⟩
 have hUf43 : g41 < w22.heap.size → g41 ∈ blocks (([] : List Fact) ++ ([] : List Fact)) := fun h => absurd (Nat.lt_of_lt_of_le h (Nat.le_trans hM.size hG)) (Nat.lt_irrefl _)
 clear hG
 replace hM := hM.none hF
 replace hD := hM.wide (H := ([] : List Fact))
 refine ⟨hM, ?_⟩
 refine mixE.sk hD (hC.seta (i := 0) (ds := [.slice A25 y23.length c27, .slice A34 y32.length c36]) rfl Try.type24 rfl rfl rfl rfl rfl) ?_
 rintro w44 ⟨hC, hF⟩
 replace hD := hD.besideG hUf43 hF
 clear hF
 refine ⟨hD, ?_⟩
 refine mixE.nil ?_
 clear hS hM
 clear hD
 refine hK20 _ _ ?_
 refine Wc.fresh fun E45 hE => ?_
 have e2 : E45 2 = .pointer (some ⟨g7, 0, none⟩) := (congrFun hE 2).trans rfl
 have e3 : E45 3 = .int .i64 0 := (congrFun hE 3).trans rfl
 have e4 : E45 4 = .pointer (some ⟨g41, 0, none⟩) := (congrFun hE 4).trans rfl
 clear hE
 refine Wc.seq fun K46 hK46 => ?_
 refine rg ?_
 refine lp (.pointer (some ((⟨g41, 0, none⟩ : Addr).add 0))) (pu_field (sz := 1) Try.underlying24 rfl Try.sizeOf22 (by decide) rfl e4) ?_
 refine lv (.slice A25 y23.length c27) (ld_fld (hC.bx (i := 0) rfl) Try.isAgg22 rfl rfl) ?_
 replace hC : Cx (fun _ => False) O0 w w44 ([.own 3 (.int .i64) (.slice A25 y23.length c27) y23] ++ [.box g41 24 [.slice A25 y23.length c27, .slice A34 y32.length c36], .own 3 (.int .i64) (.slice A34 y32.length c36) y32, .box g7 24 [.slice none 0 0, .slice none 0 0], .box g4 24 [.slice Ag_0_0 g_0_0.length cg_0_0, .slice Ag_0_1 g_0_1.length cg_0_1], .ro (.sl (.int .i64)) [.slice Ag_0_1 g_0_1.length cg_0_1] g_0_1, .ro (.sl (.int .i64)) [.slice Ag_0_0 g_0_0.length cg_0_0] g_0_0]) := hC.sel [2, 0, 1, 3, 4, 5, 6] (by decide)
 obtain ⟨y47, h48, hb⟩ := bd hb
 refine lex.cl (⟨_, _, op_call (vs := [.slice A25 y23.length c27]) Try.call49 rfl rfl rfl, slices_Reverse_Lint_int_ok n hC.lt hC.give h48⟩) ?_
 rintro _ w49 ⟨rfl, hK⟩
 replace hC := hC.back hK
 clear hK
 refine ln ?_
 refine hK46 _ _ ?_
 refine Wc.seq fun K50 hK50 => ?_
 refine rg ?_
 refine lp (.pointer (some ((⟨g41, 0, none⟩ : Addr).add 1))) (pu_field (sz := 1) Try.underlying24 rfl Try.sizeOf22 (by decide) rfl e4) ?_
 refine lv (.slice A34 y32.length c36) (ld_fld (hC.bx (i := 1) rfl) Try.isAgg22 rfl rfl) ?_
 replace hC : Cx (fun _ => False) O0 w w49 ([.own 3 (.int .i64) (.slice A34 y32.length c36) y32] ++ [.own 3 (.int .i64) (.slice A25 y23.length c27) y47, .box g41 24 [.slice A25 y23.length c27, .slice A34 y32.length c36], .box g7 24 [.slice none 0 0, .slice none 0 0], .box g4 24 [.slice Ag_0_0 g_0_0.length cg_0_0, .slice Ag_0_1 g_0_1.length cg_0_1], .ro (.sl (.int .i64)) [.slice Ag_0_1 g_0_1.length cg_0_1] g_0_1, .ro (.sl (.int .i64)) [.slice Ag_0_0 g_0_0.length cg_0_0] g_0_0]) := hC.sel [2, 0, 1, 3, 4, 5, 6] (by decide)
 obtain ⟨y51, h52, hb⟩ := bd hb
 refine lex.cl (⟨_, _, op_call (vs := [.slice A34 y32.length c36]) Try.call49 rfl rfl rfl, slices_Reverse_Lint_int_ok n hC.lt hC.give h52⟩) ?_
 rintro _ w53 ⟨rfl, hK⟩
 replace hC := hC.back hK
 clear hK
 refine ln ?_
 refine hK50 _ _ ?_
 refine Wc.seq fun K54 hK54 => ?_
 refine rg ?_
 refine lv (.agg #[.slice A25 y23.length c27, .slice A34 y32.length c36]) (ld_blk (hC.bx (i := 2) rfl) Try.isAgg24 Try.sizeOf24 e4) ?_
 refine lex.sk (hC.seta (i := 3) (ds := [.slice A25 y23.length c27, .slice A34 y32.length c36]) rfl Try.type24 rfl rfl rfl e2 rfl) ?_
 rintro w55 ⟨hC, hF⟩
 refine lp (.int .i64 0) (pu_assign rfl) ?_
 refine ln ?_
 refine hK54 _ _ ?_
 obtain rfl := os hb
 refine Wc.ret ?_
 refine hKR _ _ ?_
 refine ⟨_, res2 Try.results24 ⟨_, e2, loadVar_blk (hC.bx (i := 3) rfl) Try.isAgg24 Try.sizeOf24⟩ (show RV _ _ _ (.tmp _) (.int .i64 0) from rfl), _, rfl, A25, y23.length, c27, A34, y32.length, c36, rfl, (show I64 0 from by unfold I64; omega), hC.sel [1, 0] (by decide)⟩
 refine mixPE_chain ?_
 refine mixE.op hM (hC.alloc (cs := [.slice none 0 0, .slice none 0 0]) Try.zeroValue24 rfl) ?_
 rintro _ w57 ⟨g56, rfl, hC, hF, hG⟩
 have hUf58 : g56 < w22.heap.size → g56 ∈ blocks (([] : List Fact) ++ ([] : List Fact)) := fun h => absurd (Nat.lt_of_lt_of_le h (Nat.le_trans hM.size hG)) (Nat.lt_irrefl _)
 clear hG
 replace hM := hM.none hF
 replace hD := hM.wide (H := ([] : List Fact))
 refine ⟨hM, ?_⟩
 refine mixE.nil ?_
 refine mixPE_chain ?_
 obtain ⟨y32, h60, hb⟩ := bd hb
 refine mixE.cl hM (⟨_, _, op_call (vs := [.slice Ag_0_1 g_0_1.length cg_0_1]) Try.call48 rfl rfl rfl, slices_Clone_Lint_int_ok n hC.lt (hC.rd (i := 4) rfl) h60⟩) ?_
 rintro _ w65 ⟨A61, m62, c63, rfl, hK⟩
 have hBf64 := Beside.cl (i := 0) hM hK rfl
 have hUf64 := hBf64.wide (H := ([] : List Fact))
 replace hM := hM.none hK.fr
 replace hD := hM.wide (H := ([] : List Fact))
 refine ⟨hM, ?_⟩
 replace hC := hC.merge hK
 clear hK
 obtain ⟨rfl, hl66, hc67⟩ := (hC.ow (i := 0) rfl).sl_len
 refine mp (.agg #[.slice A25 y23.length c27, .slice A61 y32.length c63]) (pu_builds (places := [(0, 1), (1, 1)]) (pv := [(0, .slice A25 y23.length c27), (1, .slice A61 y32.length c63)]) Try.type24 Try.underlying24 rfl (mp_cons Try.type22 (mp_cons Try.type22 mp_nil rfl rfl) rfl rfl) rfl (by simp [Instr.fill, Value.cells])) ?_
 refine mixE.sk hD (hC.seta (i := 1) (ds := [.slice A25 y23.length c27, .slice A61 y32.length c63]) rfl Try.type24 rfl rfl rfl rfl rfl) ?_
 rintro w68 ⟨hC, hF⟩
 replace hD := hD.besideG hUf58 hF
 clear hF
 refine ⟨hD, ?_⟩
 refine mixE.nil ?_
 clear hS hM
 clear hD
 refine hK20 _ _ ?_
 refine Wc.fresh fun E69 hE => ?_
 have e2 : E69 2 = .pointer (some ⟨g7, 0, none⟩) := (congrFun hE 2).trans rfl
 have e3 : E69 3 = .int .i64 0 := (congrFun hE 3).trans rfl
 have e4 : E69 4 = .pointer (some ⟨g56, 0, none⟩) := (congrFun hE 4).trans rfl
 clear hE
 refine Wc.seq fun K70 hK70 => ?_
 refine rg ?_
 refine lp (.pointer (some ((⟨g56, 0, none⟩ : Addr).add 0))) (pu_field (sz := 1) Try.underlying24 rfl Try.sizeOf22 (by decide) rfl e4) ?_
 refine lv (.slice A25 y23.length c27) (ld_fld (hC.bx (i := 1) rfl) Try.isAgg22 rfl rfl) ?_
 replace hC : Cx (fun _ => False) O0 w w68 ([.own 3 (.int .i64) (.slice A25 y23.length c27) y23] ++ [.own 3 (.int .i64) (.slice A61 y32.length c63) y32, .box g56 24 [.slice A25 y23.length c27, .slice A61 y32.length c63], .box g7 24 [.slice none 0 0, .slice none 0 0], .box g4 24 [.slice Ag_0_0 g_0_0.length cg_0_0, .slice Ag_0_1 g_0_1.length cg_0_1], .ro (.sl (.int .i64)) [.slice Ag_0_1 g_0_1.length cg_0_1] g_0_1, .ro (.sl (.int .i64)) [.slice Ag_0_0 g_0_0.length cg_0_0] g_0_0]) := hC.sel [2, 0, 1, 3, 4, 5, 6] (by decide)
 obtain ⟨y47, h72, hb⟩ := bd hb
 refine lex.cl (⟨_, _, op_call (vs := [.slice A25 y23.length c27]) Try.call49 rfl rfl rfl, slices_Reverse_Lint_int_ok n hC.lt hC.give h72⟩) ?_
 rintro _ w73 ⟨rfl, hK⟩
 replace hC := hC.back hK
 clear hK
 refine ln ?_
 refine hK70 _ _ ?_
 refine Wc.seq fun K74 hK74 => ?_
 refine rg ?_
 refine lp (.pointer (some ((⟨g56, 0, none⟩ : Addr).add 1))) (pu_field (sz := 1) Try.underlying24 rfl Try.sizeOf22 (by decide) rfl e4) ?_
 refine lv (.slice A61 y32.length c63) (ld_fld (hC.bx (i := 2) rfl) Try.isAgg22 rfl rfl) ?_
 replace hC : Cx (fun _ => False) O0 w w73 ([.own 3 (.int .i64) (.slice A61 y32.length c63) y32] ++ [.own 3 (.int .i64) (.slice A25 y23.length c27) y47, .box g56 24 [.slice A25 y23.length c27, .slice A61 y32.length c63], .box g7 24 [.slice none 0 0, .slice none 0 0], .box g4 24 [.slice Ag_0_0 g_0_0.length cg_0_0, .slice Ag_0_1 g_0_1.length cg_0_1], .ro (.sl (.int .i64)) [.slice Ag_0_1 g_0_1.length cg_0_1] g_0_1, .ro (.sl (.int .i64)) [.slice Ag_0_0 g_0_0.length cg_0_0] g_0_0]) := hC.sel [1, 0, 2, 3, 4, 5, 6] (by decide)
 obtain ⟨y51, h76, hb⟩ := bd hb
 refine lex.cl (⟨_, _, op_call (vs := [.slice A61 y32.length c63]) Try.call49 rfl rfl rfl, slices_Reverse_Lint_int_ok n hC.lt hC.give h76⟩) ?_
 rintro _ w77 ⟨rfl, hK⟩
 replace hC := hC.back hK
 clear hK
 refine ln ?_
 refine hK74 _ _ ?_
 refine Wc.seq fun K78 hK78 => ?_
 refine rg ?_
 refine lv (.agg #[.slice A25 y23.length c27, .slice A61 y32.length c63]) (ld_blk (hC.bx (i := 2) rfl) Try.isAgg24 Try.sizeOf24 e4) ?_
 refine lex.sk (hC.seta (i := 3) (ds := [.slice A25 y23.length c27, .slice A61 y32.length c63]) rfl Try.type24 rfl rfl rfl e2 rfl) ?_
 rintro w79 ⟨hC, hF⟩
 refine lp (.int .i64 0) (pu_assign rfl) ?_
 refine ln ?_
 refine hK78 _ _ ?_
 obtain rfl := os hb
 refine Wc.ret ?_
 refine hKR _ _ ?_
 refine ⟨_, res2 Try.results24 ⟨_, e2, loadVar_blk (hC.bx (i := 3) rfl) Try.isAgg24 Try.sizeOf24⟩ (show RV _ _ _ (.tmp _) (.int .i64 0) from rfl), _, rfl, A25, y23.length, c27, A61, y32.length, c63, rfl, (show I64 0 from by unfold I64; omega), hC.sel [1, 0] (by decide)⟩
 refine mixPE_chain ?_
 refine mixE.op hM (hC.alloc (cs := [.slice none 0 0, .slice none 0 0]) Try.zeroValue24 rfl) ?_
 rintro _ w81 ⟨g80, rfl, hC, hF, hG⟩
 have hUf82 : g80 < w22.heap.size → g80 ∈ blocks (([] : List Fact) ++ ([] : List Fact)) := fun h => absurd (Nat.lt_of_lt_of_le h (Nat.le_trans hM.size hG)) (Nat.lt_irrefl _)
 clear hG
 replace hM := hM.none hF
 replace hD := hM.wide (H := ([] : List Fact))
 refine ⟨hM, ?_⟩
 refine mixE.nil ?_
 refine mixPE_chain ?_
 obtain ⟨y23, h84, hb⟩ := bd hb
 refine mixE.cl hM (⟨_, _, op_call (vs := [.slice Ag_0_0 g_0_0.length cg_0_0]) Try.call48 rfl rfl rfl, slices_Clone_Lint_int_ok n hC.lt (hC.rd (i := 4) rfl) h84⟩) ?_
 rintro _ w89 ⟨A85, m86, c87, rfl, hK⟩
 have hBf88 := Beside.cl (i := 0) hM hK rfl
 have hUf88 := hBf88.wide (H := ([] : List Fact))
 replace hM := hM.none hK.fr
 replace hD := hM.wide (H := ([] : List Fact))
 refine ⟨hM, ?_⟩
 replace hC := hC.merge hK
 clear hK
 obtain ⟨rfl, hl90, hc91⟩ := (hC.ow (i := 0) rfl).sl_len
 obtain ⟨y32, h93, hb⟩ := bd hb
 refine mixE.cl hM (⟨_, _, op_call (vs := [.slice Ag_0_1 g_0_1.length cg_0_1]) Try.call48 rfl rfl rfl, slices_Clone_Lint_int_ok n hC.lt (hC.rd (i := 4) rfl) h93⟩) ?_
 rintro _ w98 ⟨A94, m95, c96, rfl, hK⟩
 have hBf97 := Beside.cl (i := 0) hM hK rfl
 have hUf97 := hBf97.wide (H := ([] : List Fact))
 replace hM := hM.none hK.fr
 replace hD := hM.wide (H := ([] : List Fact))
 refine ⟨hM, ?_⟩
 replace hC := hC.merge hK
 clear hK
 obtain ⟨rfl, hl99, hc100⟩ := (hC.ow (i := 0) rfl).sl_len
 refine mp (.agg #[.slice A85 y23.length c87, .slice A94 y32.length c96]) (pu_builds (places := [(0, 1), (1, 1)]) (pv := [(0, .slice A85 y23.length c87), (1, .slice A94 y32.length c96)]) Try.type24 Try.underlying24 rfl (mp_cons Try.type22 (mp_cons Try.type22 mp_nil rfl rfl) rfl rfl) rfl (by simp [Instr.fill, Value.cells])) ?_
 refine mixE.sk hD (hC.seta (i := 2) (ds := [.slice A85 y23.length c87, .slice A94 y32.length c96]) rfl Try.type24 rfl rfl rfl rfl rfl) ?_
 rintro w101 ⟨hC, hF⟩
 replace hD := hD.besideG hUf82 hF
 clear hF
 refine ⟨hD, ?_⟩
 refine mixE.nil ?_
 clear hS hM
 clear hD
 refine hK20 _ _ ?_
 refine Wc.fresh fun E102 hE => ?_
 have e2 : E102 2 = .pointer (some ⟨g7, 0, none⟩) := (congrFun hE 2).trans rfl
 have e3 : E102 3 = .int .i64 0 := (congrFun hE 3).trans rfl
 have e4 : E102 4 = .pointer (some ⟨g80, 0, none⟩) := (congrFun hE 4).trans rfl
 clear hE
 refine Wc.seq fun K103 hK103 => ?_
 refine rg ?_
 refine lp (.pointer (some ((⟨g80, 0, none⟩ : Addr).add 0))) (pu_field (sz := 1) Try.underlying24 rfl Try.sizeOf22 (by decide) rfl e4) ?_
 refine lv (.slice A85 y23.length c87) (ld_fld (hC.bx (i := 2) rfl) Try.isAgg22 rfl rfl) ?_
 replace hC : Cx (fun _ => False) O0 w w101 ([.own 3 (.int .i64) (.slice A85 y23.length c87) y23] ++ [.own 3 (.int .i64) (.slice A94 y32.length c96) y32, .box g80 24 [.slice A85 y23.length c87, .slice A94 y32.length c96], .box g7 24 [.slice none 0 0, .slice none 0 0], .box g4 24 [.slice Ag_0_0 g_0_0.length cg_0_0, .slice Ag_0_1 g_0_1.length cg_0_1], .ro (.sl (.int .i64)) [.slice Ag_0_1 g_0_1.length cg_0_1] g_0_1, .ro (.sl (.int .i64)) [.slice Ag_0_0 g_0_0.length cg_0_0] g_0_0]) := hC.sel [1, 0, 2, 3, 4, 5, 6] (by decide)
 obtain ⟨y47, h105, hb⟩ := bd hb
 refine lex.cl (⟨_, _, op_call (vs := [.slice A85 y23.length c87]) Try.call49 rfl rfl rfl, slices_Reverse_Lint_int_ok n hC.lt hC.give h105⟩) ?_
 rintro _ w106 ⟨rfl, hK⟩
 replace hC := hC.back hK
 clear hK
 refine ln ?_
 refine hK103 _ _ ?_
 refine Wc.seq fun K107 hK107 => ?_
 refine rg ?_
 refine lp (.pointer (some ((⟨g80, 0, none⟩ : Addr).add 1))) (pu_field (sz := 1) Try.underlying24 rfl Try.sizeOf22 (by decide) rfl e4) ?_
 refine lv (.slice A94 y32.length c96) (ld_fld (hC.bx (i := 2) rfl) Try.isAgg22 rfl rfl) ?_
 replace hC : Cx (fun _ => False) O0 w w106 ([.own 3 (.int .i64) (.slice A94 y32.length c96) y32] ++ [.own 3 (.int .i64) (.slice A85 y23.length c87) y47, .box g80 24 [.slice A85 y23.length c87, .slice A94 y32.length c96], .box g7 24 [.slice none 0 0, .slice none 0 0], .box g4 24 [.slice Ag_0_0 g_0_0.length cg_0_0, .slice Ag_0_1 g_0_1.length cg_0_1], .ro (.sl (.int .i64)) [.slice Ag_0_1 g_0_1.length cg_0_1] g_0_1, .ro (.sl (.int .i64)) [.slice Ag_0_0 g_0_0.length cg_0_0] g_0_0]) := hC.sel [1, 0, 2, 3, 4, 5, 6] (by decide)
 obtain ⟨y51, h109, hb⟩ := bd hb
 refine lex.cl (⟨_, _, op_call (vs := [.slice A94 y32.length c96]) Try.call49 rfl rfl rfl, slices_Reverse_Lint_int_ok n hC.lt hC.give h109⟩) ?_
 rintro _ w110 ⟨rfl, hK⟩
 replace hC := hC.back hK
 clear hK
 refine ln ?_
 refine hK107 _ _ ?_
 refine Wc.seq fun K111 hK111 => ?_
 refine rg ?_
 refine lv (.agg #[.slice A85 y23.length c87, .slice A94 y32.length c96]) (ld_blk (hC.bx (i := 2) rfl) Try.isAgg24 Try.sizeOf24 e4) ?_
 refine lex.sk (hC.seta (i := 3) (ds := [.slice A85 y23.length c87, .slice A94 y32.length c96]) rfl Try.type24 rfl rfl rfl e2 rfl) ?_
 rintro w112 ⟨hC, hF⟩
 refine lp (.int .i64 0) (pu_assign rfl) ?_
 refine ln ?_
 refine hK111 _ _ ?_
 obtain rfl := os hb
 refine Wc.ret ?_
 refine hKR _ _ ?_
 refine ⟨_, res2 Try.results24 ⟨_, e2, loadVar_blk (hC.bx (i := 3) rfl) Try.isAgg24 Try.sizeOf24⟩ (show RV _ _ _ (.tmp _) (.int .i64 0) from rfl), _, rfl, A85, y23.length, c87, A94, y32.length, c96, rfl, (show I64 0 from by unfold I64; omega), hC.sel [1, 0] (by decide)⟩

set_option maxRecDepth 100000 in
set_option maxHeartbeats 4000000 in
theorem law44_GridlinkErrors_ok (n : Nat) {w : World} {O0 : List Nat} (hO : ∀ k ∈ O0, k < w.heap.size) {Ag_0_0 : Option Addr} {mg_0_0 cg_0_0 : Nat} {g_0_0 : List Int} (hg_0_0 : Rep O0 w (.sl (.int .i64)) [.slice Ag_0_0 mg_0_0 cg_0_0] g_0_0) {Ag_0_1 : Option Addr} {mg_0_1 cg_0_1 : Nat} {g_0_1 : List Int} (hg_0_1 : Rep O0 w (.sl (.int .i64)) [.slice Ag_0_1 mg_0_1 cg_0_1] g_0_1) {r : Bool} (hb : F.law44_GridlinkErrors n g_0_0 g_0_1 = some r) :
    Calls Try.prog 6 #[.agg #[.slice Ag_0_0 mg_0_0 cg_0_0, .slice Ag_0_1 mg_0_1 cg_0_1]] w fun e w' => ∃ v, e = .returned v ∧ v = .bool r ∧ Cx (fun _ => False) O0 w w' [] := by
 unfold F.law44_GridlinkErrors at hb
 have hC := Cx.start hO
 replace hC := hC.arg rfl hg_0_0
 replace hC := hC.arg rfl hg_0_1
 clear hO
 obtain ⟨rfl, hlg_0_0, hcg_0_0⟩ := hg_0_0.sl_len
 obtain ⟨rfl, hlg_0_1, hcg_0_1⟩ := hg_0_1.sl_len
 refine calls_of_Wc Try.func6 rfl (by rw [Try.ntmps6]; exact Nat.le_of_ble_eq_true rfl) fun KR hKR => ?_
 refine Wc.seq fun K3 hK3 => ?_
 refine rg ?_
 refine lex.op (hC.box (cs := [.slice Ag_0_0 g_0_0.length cg_0_0, .slice Ag_0_1 g_0_1.length cg_0_1]) rfl rfl) ?_
 rintro _ w5 ⟨g4, rfl, hC, hF, hG⟩
 clear hG
 refine lp (.bool false) (pu_assign rfl) ?_
 refine ln ?_
 refine hK3 _ _ ?_
 refine Wc.seq fun K7 hK7 => ?_
 refine Wc.seq fun K8 hK8 => ?_
 refine rg ?_
 obtain ⟨y9, h10, hb⟩ := bd hb
 refine lex.cl (⟨_, _, op_call (vs := []) Try.call11 rfl rfl rfl, law44_awake_ok n hC.lt  h10⟩) ?_
 rintro _ w11 ⟨rfl, hK⟩
 replace hC := hC.merge hK
 clear hK
 refine lp (.bool (!y9)) (pu_not (q := y9) rfl) ?_
 refine ln ?_
 refine hK8 _ _ ?_
 refine Wc.cond (t := (!y9)) (rfl) (fun hq12 => ?_) (fun hq12 => ?_)
 replace hb := tt hq12 hb
 refine Wc.seq fun K13 hK13 => ?_
 refine rg ?_
 refine lp (.bool false) (pu_assign rfl) ?_
 refine ln ?_
 refine hK13 _ _ ?_
 obtain rfl := os hb
 refine Wc.ret ?_
 refine hKR _ _ ?_
 refine ⟨_, res1 Try.results6 (show RV _ _ _ (.tmp _) (.bool false) from rfl), _, rfl, rfl, hC.sel [] (by decide)⟩
 replace hb := tf hq12 hb
 refine Wc.skip ?_
 refine hK7 _ _ ?_
 refine Wc.seq fun K14 hK14 => ?_
 refine Wc.seq fun K15 hK15 => ?_
 refine rg ?_
 refine lv (.agg #[.slice Ag_0_0 g_0_0.length cg_0_0, .slice Ag_0_1 g_0_1.length cg_0_1]) (ld_blk (hC.bx (i := 0) rfl) Try.isAgg24 Try.sizeOf24 rfl) ?_
 obtain ⟨y16, h17, hb⟩ := bd hb
 refine lex.cl (⟨_, _, op_call (vs := [.agg #[.slice Ag_0_0 g_0_0.length cg_0_0, .slice Ag_0_1 g_0_1.length cg_0_1]]) Try.call12 rfl rfl rfl, law44_small_ok n hC.lt (hC.rd (i := 2) rfl) (hC.rd (i := 1) rfl) h17⟩) ?_
 rintro _ w19 ⟨rfl, hr18, hK⟩
 replace hC := hC.merge hK
 clear hK
 refine lp (.bool (decide (y16 = 0))) (pu_eql (k := .i64) (a := y16) (b := 0) rfl rfl) ?_
 refine ln ?_
 refine hK15 _ _ ?_
 refine Wc.cond (t := (decide (y16 = 0))) (rfl) (fun hq20 => ?_) (fun hq20 => ?_)
 replace hb := tt hq20 hb
 refine Wc.seq fun K21 hK21 => ?_
 refine rg ?_
 refine lp (.bool true) (pu_assign rfl) ?_
 refine ln ?_
 refine hK21 _ _ ?_
 obtain rfl := os hb
 refine Wc.ret ?_
 refine hKR _ _ ?_
 refine ⟨_, res1 Try.results6 (show RV _ _ _ (.tmp _) (.bool true) from rfl), _, rfl, rfl, hC.sel [] (by decide)⟩
 replace hb := tf hq20 hb
 refine Wc.skip ?_
 refine hK14 _ _ ?_
 refine Wc.seqJ (fun E wv => ∃ (l3_0 : List Int) (l4_0 : List Int) (Al3_0 : Option Addr) (ml3_0 cl3_0 : Nat) (Al4_0 : Option Addr) (ml4_0 cl4_0 : Nat), E 1 = .pointer (some ⟨g4, 0, none⟩) ∧ E 2 = .bool false ∧ E 3 = .slice Al3_0 ml3_0 cl3_0 ∧ E 4 = .slice Al4_0 ml4_0 cl4_0 ∧ Cx (fun _ => False) O0 w wv [.box g4 24 [.slice Ag_0_0 g_0_0.length cg_0_0, .slice Ag_0_1 g_0_1.length cg_0_1], .ro (.sl (.int .i64)) [.slice Ag_0_0 g_0_0.length cg_0_0] g_0_0, .ro (.sl (.int .i64)) [.slice Ag_0_1 g_0_1.length cg_0_1] g_0_1, .own 3 (.int .i64) (.slice Al3_0 ml3_0 cl3_0) l3_0, .own 3 (.int .i64) (.slice Al4_0 ml4_0 cl4_0) l4_0] ∧ F.law44_GridlinkErrors_j0 n g_0_0 g_0_1 l3_0 l4_0 = some r) (fun K22 hK22 => ?_) ?_
 refine Wc.regionPlan [] (frm [] ([] : List Fact) ([] : List Fact)) (chainP [1, 2, 5, 6] (.alt (chainP [0] (.alt (chainP [3] (chainP [4, 7, 8, 9] .done)) (chainP [4] (chainP [3, 7, 8, 9] .done)))) (chainP [4] (chainP [0, 3, 7, 8, 9] .done)))) (fun _ => rfl) mixed (by decide +kernel) (by decide +kernel) fun w24 hw23 => ?_
 replace hC := hC.step (Fr.of_drew hw23)
 have hM := Fr.refl (fun k => k ∈ blocks ([] : List Fact)) w24
 clear hw23
 have hS := hC
 refine mixPE_chain ?_
 refine mp (.pointer (some ((⟨g4, 0, none⟩ : Addr).add 0))) (pu_field (sz := 1) Try.underlying24 rfl Try.sizeOf22 (by decide) rfl rfl) ?_
 refine mixE.load hM (v := .slice Ag_0_0 g_0_0.length cg_0_0) (fun _ hF => ld_fld (hS.bx2 (i := 0) rfl [] (by decide) hF) Try.isAgg22 rfl rfl) ?_
 refine mp (.pointer (some ((⟨g4, 0, none⟩ : Addr).add 1))) (pu_field (sz := 1) Try.underlying24 rfl Try.sizeOf22 (by decide) rfl rfl) ?_
 refine mixE.load hM (v := .slice Ag_0_1 g_0_1.length cg_0_1) (fun _ hF => ld_fld (hS.bx2 (i := 0) rfl [] (by decide) hF) Try.isAgg22 rfl rfl) ?_
 refine mixE.nil ?_
 refine mixPE_alt ?_ ?_
 refine mixPE_chain ?_
 refine mixE.op hM (hC.lit (s := (.int .i64)) (vs := []) (xs := []) Try.underlying22 Try.type3 rfl rfl (Nat.le_of_ble_eq_true rfl) rfl rfl (by simp [Value.cells, Sh.n]) rfl (show Elems _ _ (.int .i64) ([]) ([] : List Int) from Elems.nil _ _ _)) ?_
 rintro _ w29 ⟨A25, c26, rfl, hl27, hc28, hC, hF, hN⟩
 have hBf30 := Beside.new hM hN
 replace hM := hM.none hF
 refine ⟨hM, ?_⟩
 clear hF hN
 refine mixE.nil ?_
 refine mixPE_alt ?_ ?_
 refine mixPE_chain ?_
 obtain ⟨u31, h32, hb⟩ := bd hb
 refine mixE.op hM (hC.app (i := 0) (s := (.int .i64)) (xs := ([] : List Int)) (ys := g_0_0) (m := g_0_0.length) rfl Try.underlying22 Try.underlying22 Try.type3 rfl rfl rfl (hC.srcr (i := 3) rfl) rfl rfl (by have := lim_some h32; simp at this ⊢ <;> omega) (by decide)) ?_
 rintro _ w37 ⟨A33, c34, rfl, hl35, hc36, hC, hF, hN⟩
 have hB := hBf30
 replace hBf30 := hB.app hM hN
 replace hM := hM.beside hB hF
 clear hB
 refine ⟨hM, ?_⟩
 clear hF hN
 refine mixE.nil ?_
 refine mixPE_chain ?_
 refine mixE.op hM (hC.lit (s := (.int .i64)) (vs := []) (xs := []) Try.underlying22 Try.type3 rfl rfl (Nat.le_of_ble_eq_true rfl) rfl rfl (by simp [Value.cells, Sh.n]) rfl (show Elems _ _ (.int .i64) ([]) ([] : List Int) from Elems.nil _ _ _)) ?_
 rintro _ w42 ⟨A38, c39, rfl, hl40, hc41, hC, hF, hN⟩
 have hBf43 := Beside.new hM hN
 replace hM := hM.none hF
 refine ⟨hM, ?_⟩
 clear hF hN
 obtain ⟨u44, h45, hb⟩ := bd hb
 refine mixE.op hM (hC.app (i := 0) (s := (.int .i64)) (xs := ([] : List Int)) (ys := g_0_1) (m := g_0_1.length) rfl Try.underlying22 Try.underlying22 Try.type3 rfl rfl rfl (hC.srcr (i := 3) rfl) rfl rfl (by have := lim_some h45; simp at this ⊢ <;> omega) (by decide)) ?_
 rintro _ w50 ⟨A46, c47, rfl, hl48, hc49, hC, hF, hN⟩
 have hB := hBf43
 replace hBf43 := hB.app hM hN
 replace hM := hM.beside hB hF
 clear hB
 refine ⟨hM, ?_⟩
 clear hF hN
 refine mp (.slice A33 ((([] : List Int) ++ g_0_0).length) c34) (pu_assign rfl) ?_
 refine mp (.slice A46 ((([] : List Int) ++ g_0_1).length) c47) (pu_assign rfl) ?_
 refine mixE.nil ?_
 clear hS hM
 exact hK22 _ _ ⟨(([] : List Int) ++ g_0_0), (([] : List Int) ++ g_0_1), A33, (([] : List Int) ++ g_0_0).length, c34, A46, (([] : List Int) ++ g_0_1).length, c47, rfl, rfl, rfl, rfl, hC.sel [2, 4, 3, 1, 0] (by decide), hb⟩
 refine mixPE_chain ?_
 refine mixE.op hM (hC.lit (s := (.int .i64)) (vs := []) (xs := []) Try.underlying22 Try.type3 rfl rfl (Nat.le_of_ble_eq_true rfl) rfl rfl (by simp [Value.cells, Sh.n]) rfl (show Elems _ _ (.int .i64) ([]) ([] : List Int) from Elems.nil _ _ _)) ?_
 rintro _ w55 ⟨A51, c52, rfl, hl53, hc54, hC, hF, hN⟩
 have hBf56 := Beside.new hM hN
 replace hM := hM.none hF
 refine ⟨hM, ?_⟩
 clear hF hN
 refine mixE.nil ?_
 refine mixPE_chain ?_
 obtain ⟨u31, h58, hb⟩ := bd hb
 refine mixE.op hM (hC.app (i := 1) (s := (.int .i64)) (xs := ([] : List Int)) (ys := g_0_0) (m := g_0_0.length) rfl Try.underlying22 Try.underlying22 Try.type3 rfl rfl rfl (hC.srcr (i := 4) rfl) rfl rfl (by have := lim_some h58; simp at this ⊢ <;> omega) (by decide)) ?_
 rintro _ w63 ⟨A59, c60, rfl, hl61, hc62, hC, hF, hN⟩
 have hB := hBf30
 replace hBf30 := hB.app hM hN
 replace hM := hM.beside hB hF
 clear hB
 refine ⟨hM, ?_⟩
 clear hF hN
 obtain ⟨u44, h65, hb⟩ := bd hb
 refine mixE.op hM (hC.app (i := 0) (s := (.int .i64)) (xs := ([] : List Int)) (ys := g_0_1) (m := g_0_1.length) rfl Try.underlying22 Try.underlying22 Try.type3 rfl rfl rfl (hC.srcr (i := 3) rfl) rfl rfl (by have := lim_some h65; simp at this ⊢ <;> omega) (by decide)) ?_
 rintro _ w70 ⟨A66, c67, rfl, hl68, hc69, hC, hF, hN⟩
 have hB := hBf56
 replace hBf56 := hB.app hM hN
 replace hM := hM.beside hB hF
 clear hB
 refine ⟨hM, ?_⟩
 clear hF hN
 refine mp (.slice A59 ((([] : List Int) ++ g_0_0).length) c60) (pu_assign rfl) ?_
 refine mp (.slice A66 ((([] : List Int) ++ g_0_1).length) c67) (pu_assign rfl) ?_
 refine mixE.nil ?_
 clear hS hM
 exact hK22 _ _ ⟨(([] : List Int) ++ g_0_0), (([] : List Int) ++ g_0_1), A59, (([] : List Int) ++ g_0_0).length, c60, A66, (([] : List Int) ++ g_0_1).length, c67, rfl, rfl, rfl, rfl, hC.sel [2, 4, 3, 1, 0] (by decide), hb⟩
 refine mixPE_chain ?_
 refine mixE.op hM (hC.lit (s := (.int .i64)) (vs := []) (xs := []) Try.underlying22 Try.type3 rfl rfl (Nat.le_of_ble_eq_true rfl) rfl rfl (by simp [Value.cells, Sh.n]) rfl (show Elems _ _ (.int .i64) ([]) ([] : List Int) from Elems.nil _ _ _)) ?_
 rintro _ w75 ⟨A71, c72, rfl, hl73, hc74, hC, hF, hN⟩
 have hBf76 := Beside.new hM hN
 replace hM := hM.none hF
 refine ⟨hM, ?_⟩
 clear hF hN
 refine mixE.nil ?_
 refine mixPE_chain ?_
 refine mixE.op hM (hC.lit (s := (.int .i64)) (vs := []) (xs := []) Try.underlying22 Try.type3 rfl rfl (Nat.le_of_ble_eq_true rfl) rfl rfl (by simp [Value.cells, Sh.n]) rfl (show Elems _ _ (.int .i64) ([]) ([] : List Int) from Elems.nil _ _ _)) ?_
 rintro _ w81 ⟨A77, c78, rfl, hl79, hc80, hC, hF, hN⟩
 have hBf82 := Beside.new hM hN
 replace hM := hM.none hF
 refine ⟨hM, ?_⟩
 clear hF hN
 obtain ⟨u31, h84, hb⟩ := bd hb
 refine mixE.op hM (hC.app (i := 0) (s := (.int .i64)) (xs := ([] : List Int)) (ys := g_0_0) (m := g_0_0.length) rfl Try.underlying22 Try.underlying22 Try.type3 rfl rfl rfl (hC.srcr (i := 4) rfl) rfl rfl (by have := lim_some h84; simp at this ⊢ <;> omega) (by decide)) ?_
 rintro _ w89 ⟨A85, c86, rfl, hl87, hc88, hC, hF, hN⟩
 have hB := hBf82
 replace hBf82 := hB.app hM hN
 replace hM := hM.beside hB hF
 clear hB
 refine ⟨hM, ?_⟩
 clear hF hN
 obtain ⟨u44, h91, hb⟩ := bd hb
 refine mixE.op hM (hC.app (i := 1) (s := (.int .i64)) (xs := ([] : List Int)) (ys := g_0_1) (m := g_0_1.length) rfl Try.underlying22 Try.underlying22 Try.type3 rfl rfl rfl (hC.srcr (i := 3) rfl) rfl rfl (by have := lim_some h91; simp at this ⊢ <;> omega) (by decide)) ?_
 rintro _ w96 ⟨A92, c93, rfl, hl94, hc95, hC, hF, hN⟩
 have hB := hBf76
 replace hBf76 := hB.app hM hN
 replace hM := hM.beside hB hF
 clear hB
 refine ⟨hM, ?_⟩
 clear hF hN
 refine mp (.slice A85 ((([] : List Int) ++ g_0_0).length) c86) (pu_assign rfl) ?_
 refine mp (.slice A92 ((([] : List Int) ++ g_0_1).length) c93) (pu_assign rfl) ?_
 refine mixE.nil ?_
 clear hS hM
 exact hK22 _ _ ⟨(([] : List Int) ++ g_0_0), (([] : List Int) ++ g_0_1), A85, (([] : List Int) ++ g_0_0).length, c86, A92, (([] : List Int) ++ g_0_1).length, c93, rfl, rfl, rfl, rfl, hC.sel [2, 4, 3, 0, 1] (by decide), hb⟩
 clear hb hC
 rintro E98 w97 ⟨l3_0, l4_0, Al3_0, ml3_0, cl3_0, Al4_0, ml4_0, cl4_0, e1, e2, e3, e4, hC, hb⟩
 unfold F.law44_GridlinkErrors_j0 at hb
 obtain ⟨rfl, hll3_0, hcl3_0⟩ := (hC.ow (i := 3) rfl).sl_len
 obtain ⟨rfl, hll4_0, hcl4_0⟩ := (hC.ow (i := 4) rfl).sl_len
 refine Wc.seq fun K99 hK99 => ?_
 refine rg ?_
 refine lv (.agg #[.slice Ag_0_0 g_0_0.length cg_0_0, .slice Ag_0_1 g_0_1.length cg_0_1]) (ld_blk (hC.bx (i := 0) rfl) Try.isAgg24 Try.sizeOf24 e1) ?_
 obtain ⟨y100, h101, hb⟩ := bd hb
 refine lex.cl (⟨_, _, op_call (vs := [.agg #[.slice Ag_0_0 g_0_0.length cg_0_0, .slice Ag_0_1 g_0_1.length cg_0_1]]) Try.call23 rfl rfl rfl, gridlink_Reverse_ok n hC.lt (hC.rd (i := 1) rfl) (hC.rd (i := 2) rfl) h101⟩) ?_
 rintro _ w111 ⟨A102, m103, c104, A106, m107, c108, rfl, hr110, hK⟩
 replace hC := hC.merge hK
 clear hK
 obtain ⟨rfl, hl112, hc113⟩ := (hC.ow (i := 0) rfl).sl_len
 obtain ⟨rfl, hl114, hc115⟩ := (hC.ow (i := 1) rfl).sl_len
 refine lp (.tuple #[.agg #[.slice A102 y100.1.length c104, .slice A106 y100.2.1.length c108], .int .i64 y100.2.2]) (pu_move rfl) ?_
 refine lp (.agg #[.slice A102 y100.1.length c104, .slice A106 y100.2.1.length c108]) (pu_extract rfl rfl) ?_
 refine lp (.int .i64 y100.2.2) (pu_extract rfl rfl) ?_
 refine lex.op (hC.alloc (cs := [.slice none 0 0, .slice none 0 0]) Try.zeroValue24 rfl) ?_
 rintro _ w117 ⟨g116, rfl, hC, hF, hG⟩
 clear hG
 refine lex.sk (hC.seta (i := 0) (ds := [.slice A102 y100.1.length c104, .slice A106 y100.2.1.length c108]) rfl Try.type24 rfl rfl rfl rfl rfl) ?_
 rintro w119 ⟨hC, hF⟩
 refine lp (.int .i64 y100.2.2) (pu_assign rfl) ?_
 refine ln ?_
 refine hK99 _ _ ?_
 refine Wc.seq fun K120 hK120 => ?_
 refine rg ?_
 refine lv (.agg #[.slice Ag_0_0 g_0_0.length cg_0_0, .slice Ag_0_1 g_0_1.length cg_0_1]) (ld_blk (hC.bx (i := 3) rfl) Try.isAgg24 Try.sizeOf24 e1) ?_
 obtain ⟨y121, h122, hb⟩ := bd hb
 refine lex.cl (⟨_, _, op_call (vs := [.agg #[.slice Ag_0_0 g_0_0.length cg_0_0, .slice Ag_0_1 g_0_1.length cg_0_1]]) Try.call24 rfl rfl rfl, gridlink_Reflect_ok n hC.lt (hC.rd (i := 4) rfl) (hC.rd (i := 5) rfl) h122⟩) ?_
 rintro _ w132 ⟨A123, m124, c125, A127, m128, c129, rfl, hr131, hK⟩
 replace hC := hC.merge hK
 clear hK
 obtain ⟨rfl, hl133, hc134⟩ := (hC.ow (i := 0) rfl).sl_len
 obtain ⟨rfl, hl135, hc136⟩ := (hC.ow (i := 1) rfl).sl_len
 refine lp (.tuple #[.agg #[.slice A123 y121.1.length c125, .slice A127 y121.2.1.length c129], .int .i64 y121.2.2]) (pu_move rfl) ?_
 refine lp (.agg #[.slice A123 y121.1.length c125, .slice A127 y121.2.1.length c129]) (pu_extract rfl rfl) ?_
 refine lp (.int .i64 y121.2.2) (pu_extract rfl rfl) ?_
 refine lex.op (hC.alloc (cs := [.slice none 0 0, .slice none 0 0]) Try.zeroValue24 rfl) ?_
 rintro _ w138 ⟨g137, rfl, hC, hF, hG⟩
 clear hG
 refine lex.sk (hC.seta (i := 0) (ds := [.slice A123 y121.1.length c125, .slice A127 y121.2.1.length c129]) rfl Try.type24 rfl rfl rfl rfl rfl) ?_
 rintro w140 ⟨hC, hF⟩
 refine lp (.int .i64 y121.2.2) (pu_assign rfl) ?_
 refine ln ?_
 refine hK120 _ _ ?_
 refine Wc.fresh fun E141 hE => ?_
 have e1 := (congrFun hE 1).trans e1
 have e2 := (congrFun hE 2).trans e2
 have e3 := (congrFun hE 3).trans e3
 have e4 := (congrFun hE 4).trans e4
 have e5 : E141 5 = .pointer (some ⟨g116, 0, none⟩) := (congrFun hE 5).trans rfl
 have e6 : E141 6 = .int .i64 y100.2.2 := (congrFun hE 6).trans rfl
 have e7 : E141 7 = .pointer (some ⟨g137, 0, none⟩) := (congrFun hE 7).trans rfl
 have e8 : E141 8 = .int .i64 y121.2.2 := (congrFun hE 8).trans rfl
 clear hE
 refine Wc.seq fun K142 hK142 => ?_
 refine rg ?_
 refine lv (.agg #[.slice Ag_0_0 g_0_0.length cg_0_0, .slice Ag_0_1 g_0_1.length cg_0_1]) (ld_blk (hC.bx (i := 6) rfl) Try.isAgg24 Try.sizeOf24 e1) ?_
 obtain ⟨y143, h144, hb⟩ := bd hb
 refine lex.cl (⟨_, _, op_call (vs := [.agg #[.slice Ag_0_0 g_0_0.length cg_0_0, .slice Ag_0_1 g_0_1.length cg_0_1]]) Try.call13 rfl rfl rfl, gridlink_Diagram_ok n hC.lt (hC.rd (i := 7) rfl) (hC.rd (i := 8) rfl) h144⟩) ?_
 rintro _ w155 ⟨A145, m146, c147, A149, m150, c151, rfl, hr153, hr154, hK⟩
 replace hC := hC.merge hK
 clear hK
 obtain ⟨rfl, hl156, hc157⟩ := (hC.ow (i := 0) rfl).sl_len
 obtain ⟨rfl, hl158, hc159⟩ := (hC.ow (i := 1) rfl).sl_len
 refine lp (.tuple #[.agg #[.slice A145 y143.1.length c147, .slice A149 y143.2.1.length c151, .int .i64 y143.2.2.1], .int .i64 y143.2.2.2]) (pu_move rfl) ?_
 refine lp (.agg #[.slice A145 y143.1.length c147, .slice A149 y143.2.1.length c151, .int .i64 y143.2.2.1]) (pu_extract rfl rfl) ?_
 refine lp (.int .i64 y143.2.2.2) (pu_extract rfl rfl) ?_
 refine lex.op (hC.alloc (cs := [.slice none 0 0, .slice none 0 0, .int .i64 0]) Try.zeroValue28 rfl) ?_
 rintro _ w161 ⟨g160, rfl, hC, hF, hG⟩
 clear hG
 refine lex.sk (hC.seta (i := 0) (ds := [.slice A145 y143.1.length c147, .slice A149 y143.2.1.length c151, .int .i64 y143.2.2.1]) rfl Try.type28 rfl rfl rfl rfl rfl) ?_
 rintro w163 ⟨hC, hF⟩
 refine lp (.int .i64 y143.2.2.2) (pu_assign rfl) ?_
 refine ln ?_
 refine hK142 _ _ ?_
 refine Wc.seq fun K164 hK164 => ?_
 refine Wc.seq fun K165 hK165 => ?_
 refine rg ?_
 refine lp (.slice Al3_0 l3_0.length cl3_0) (pu_move e3) ?_
 refine lp (.pointer (some ((⟨g4, 0, none⟩ : Addr).add 0))) (pu_field (sz := 1) Try.underlying24 rfl Try.sizeOf22 (by decide) rfl e1) ?_
 refine lv (.slice Ag_0_0 g_0_0.length cg_0_0) (ld_fld (hC.bx (i := 9) rfl) Try.isAgg22 rfl rfl) ?_
 obtain ⟨y166, h167, hb⟩ := bd hb
 refine lex.cl (⟨_, _, op_call (vs := [.slice Al3_0 l3_0.length cl3_0, .slice Ag_0_0 g_0_0.length cg_0_0]) Try.call25 rfl rfl rfl, ref01_Ints_ok n (hC.lentLt [.slice Al3_0 l3_0.length cl3_0]) ((hC.ow (i := 12) rfl).lend (vs := [.slice Al3_0 l3_0.length cl3_0]) (by simp)) ((hC.rd (i := 10) rfl).lent [.slice Al3_0 l3_0.length cl3_0]) h167⟩) ?_
 rintro _ w168 ⟨rfl, hK⟩
 replace hC := hC.mergeF hK rfl
 clear hK
 refine lp (.bool (!y166)) (pu_not (q := y166) rfl) ?_
 refine lp (.bool (!y166)) (pu_move rfl) ?_
 rcases bS (!y166) with hq169 | hq169
 replace hb := tt hq169 hb
 refine gs rfl rfl (!y166) rfl hq169 ?_
 refine gs rfl rfl (!y166) rfl hq169 ?_
 refine gs rfl rfl (!y166) rfl hq169 ?_
 refine gs rfl rfl (!y166) rfl hq169 ?_
 refine gs rfl rfl (!y166) rfl hq169 ?_
 refine lp (.bool true) (pu_pickT (q := (!y166)) rfl hq169 rfl) ?_
 refine ln ?_
 refine hK165 _ _ ?_
 refine Wc.cond_true (rfl) ?_
 refine Wc.seq fun K170 hK170 => ?_
 refine rg ?_
 refine lp (.bool false) (pu_assign rfl) ?_
 refine ln ?_
 refine hK170 _ _ ?_
 obtain rfl := os hb
 refine Wc.ret ?_
 refine hKR _ _ ?_
 refine ⟨_, res1 Try.results6 (show RV _ _ _ (.tmp _) (.bool false) from rfl), _, rfl, rfl, hC.sel [] (by decide)⟩
 replace hb := tf hq169 hb
 refine gp rfl rfl (!y166) rfl hq169 (.slice Al4_0 l4_0.length cl4_0) (pu_move e4) ?_
 refine gp rfl rfl (!y166) rfl hq169 (.pointer (some ((⟨g4, 0, none⟩ : Addr).add 1))) (pu_field (sz := 1) Try.underlying24 rfl Try.sizeOf22 (by decide) rfl e1) ?_
 refine gv rfl rfl (!y166) rfl hq169 (.slice Ag_0_1 g_0_1.length cg_0_1) (ld_fld (hC.bx (i := 9) rfl) Try.isAgg22 rfl rfl) ?_
 obtain ⟨y171, h172, hb⟩ := bd hb
 refine lex.gcl (want_t rfl rfl (show _ = Value.bool (!y166) from rfl) hq169) (⟨_, _, op_call (vs := [.slice Al4_0 l4_0.length cl4_0, .slice Ag_0_1 g_0_1.length cg_0_1]) Try.call25 rfl rfl rfl, ref01_Ints_ok n (hC.lentLt [.slice Al4_0 l4_0.length cl4_0]) ((hC.ow (i := 13) rfl).lend (vs := [.slice Al4_0 l4_0.length cl4_0]) (by simp)) ((hC.rd (i := 11) rfl).lent [.slice Al4_0 l4_0.length cl4_0]) h172⟩) ?_
 rintro _ w173 ⟨rfl, hK⟩
 replace hC := hC.mergeF hK rfl
 clear hK
 refine gp rfl rfl (!y166) rfl hq169 (.bool (!y171)) (pu_not (q := y171) rfl) ?_
 refine lp (.bool (!y171)) (pu_pickF (q := (!y166)) rfl hq169 rfl) ?_
 refine ln ?_
 refine hK165 _ _ ?_
 refine Wc.cond (t := (!y171)) (rfl) (fun hq174 => ?_) (fun hq174 => ?_)
 replace hb := tt hq174 hb
 refine Wc.seq fun K175 hK175 => ?_
 refine rg ?_
 refine lp (.bool false) (pu_assign rfl) ?_
 refine ln ?_
 refine hK175 _ _ ?_
 obtain rfl := os hb
 refine Wc.ret ?_
 refine hKR _ _ ?_
 refine ⟨_, res1 Try.results6 (show RV _ _ _ (.tmp _) (.bool false) from rfl), _, rfl, rfl, hC.sel [] (by decide)⟩
 replace hb := tf hq174 hb
 refine Wc.skip ?_
 refine hK164 _ _ ?_
 refine Wc.fresh fun E176 hE => ?_
 have e1 := (congrFun hE 1).trans e1
 have e2 := (congrFun hE 2).trans e2
 have e5 := (congrFun hE 5).trans e5
 have e6 := (congrFun hE 6).trans e6
 have e7 := (congrFun hE 7).trans e7
 have e8 := (congrFun hE 8).trans e8
 have e10 : E176 10 = .int .i64 y143.2.2.2 := (congrFun hE 10).trans rfl
 clear hE
 refine Wc.seq fun K177 hK177 => ?_
 refine Wc.seq fun K178 hK178 => ?_
 refine rg ?_
 refine lv (.agg #[.slice Ag_0_0 g_0_0.length cg_0_0, .slice Ag_0_1 g_0_1.length cg_0_1]) (ld_blk (hC.bx (i := 9) rfl) Try.isAgg24 Try.sizeOf24 e1) ?_
 obtain ⟨y179, h180, hb⟩ := bd hb
 refine lex.cl (⟨_, _, op_call (vs := [.agg #[.slice Ag_0_0 g_0_0.length cg_0_0, .slice Ag_0_1 g_0_1.length cg_0_1]]) Try.call14 rfl rfl rfl, ref42_Valid_ok n hC.lt (hC.rd (i := 10) rfl) (hC.rd (i := 11) rfl) h180⟩) ?_
 rintro _ w181 ⟨rfl, hK⟩
 replace hC := hC.merge hK
 clear hK
 refine ln ?_
 refine hK178 _ _ ?_
 refine Wc.cond (t := y179) (rfl) (fun hq182 => ?_) (fun hq182 => ?_)
 replace hb := tt hq182 hb
 refine Wc.seq fun K183 hK183 => ?_
 refine rg ?_
 refine lp (.int .i64 y100.2.2) (pu_move e6) ?_
 refine lp (.bool (decide (y100.2.2 = 0))) (pu_eql (k := .i64) (a := y100.2.2) (b := 0) rfl rfl) ?_
 refine lp (.bool (decide (y100.2.2 = 0))) (pu_move rfl) ?_
 rcases bS (decide (y100.2.2 = 0)) with hq184 | hq184
 replace hb := tt hq184 hb
 refine gp rfl rfl (decide (y100.2.2 = 0)) rfl hq184 (.int .i64 y121.2.2) (pu_move e8) ?_
 refine gp rfl rfl (decide (y100.2.2 = 0)) rfl hq184 (.bool (decide (y121.2.2 = 0))) (pu_eql (k := .i64) (a := y121.2.2) (b := 0) rfl rfl) ?_
 refine lp (.bool (decide (y121.2.2 = 0))) (pu_pickT (q := (decide (y100.2.2 = 0))) rfl hq184 rfl) ?_
 refine lp (.bool (decide (y121.2.2 = 0))) (pu_move rfl) ?_
 rcases bS (decide (y121.2.2 = 0)) with hq185 | hq185
 replace hb := tt hq185 hb
 refine gp rfl rfl (decide (y121.2.2 = 0)) rfl hq185 (.int .i64 y143.2.2.2) (pu_move e10) ?_
 refine gp rfl rfl (decide (y121.2.2 = 0)) rfl hq185 (.bool (decide (y143.2.2.2 = 0))) (pu_eql (k := .i64) (a := y143.2.2.2) (b := 0) rfl rfl) ?_
 refine gp rfl rfl (decide (y121.2.2 = 0)) rfl hq185 (.bool (decide (y143.2.2.2 = 0))) (pu_move rfl) ?_
 rcases bS (decide (y143.2.2.2 = 0)) with hq186 | hq186
 replace hb := tt hq186 hb
 refine gs rfl rfl (decide (y143.2.2.2 = 0)) rfl hq186 ?_
 refine gs rfl rfl (decide (y143.2.2.2 = 0)) rfl hq186 ?_
 refine gp rfl rfl (decide (y121.2.2 = 0)) rfl hq185 (.bool true) (pu_pickT (q := (decide (y143.2.2.2 = 0))) rfl hq186 rfl) ?_
 refine lp (.bool true) (pu_pickT (q := (decide (y121.2.2 = 0))) rfl hq185 rfl) ?_
 refine lp (.bool true) (pu_assign rfl) ?_
 refine ln ?_
 refine hK183 _ _ ?_
 obtain rfl := os hb
 refine Wc.ret ?_
 refine hKR _ _ ?_
 refine ⟨_, res1 Try.results6 (show RV _ _ _ (.tmp _) (.bool true) from rfl), _, rfl, rfl, hC.sel [] (by decide)⟩
 replace hb := tf hq186 hb
 refine gp rfl rfl (decide (y143.2.2.2 = 0)) rfl hq186 (.int .i64 y143.2.2.2) (pu_move e10) ?_
 refine gp rfl rfl (decide (y143.2.2.2 = 0)) rfl hq186 (.bool (decide (y143.2.2.2 = 5))) (pu_eql (k := .i64) (a := y143.2.2.2) (b := 5) rfl rfl) ?_
 refine gp rfl rfl (decide (y121.2.2 = 0)) rfl hq185 (.bool (decide (y143.2.2.2 = 5))) (pu_pickF (q := (decide (y143.2.2.2 = 0))) rfl hq186 rfl) ?_
 refine lp (.bool (decide (y143.2.2.2 = 5))) (pu_pickT (q := (decide (y121.2.2 = 0))) rfl hq185 rfl) ?_
 refine lp (.bool (decide (y143.2.2.2 = 5))) (pu_assign rfl) ?_
 refine ln ?_
 refine hK183 _ _ ?_
 obtain rfl := os hb
 refine Wc.ret ?_
 refine hKR _ _ ?_
 refine ⟨_, res1 Try.results6 (show RV _ _ _ (.tmp _) (.bool (decide (y143.2.2.2 = 5))) from rfl), _, rfl, rfl, hC.sel [] (by decide)⟩
 replace hb := tf hq185 hb
 refine gs rfl rfl (decide (y121.2.2 = 0)) rfl hq185 ?_
 refine gs rfl rfl (decide (y121.2.2 = 0)) rfl hq185 ?_
 refine gs rfl rfl (decide (y121.2.2 = 0)) rfl hq185 ?_
 refine lex.gskip (want_n rfl rfl rfl) ?_
 refine lex.gskip (want_n rfl rfl rfl) ?_
 refine gs rfl rfl (decide (y121.2.2 = 0)) rfl hq185 ?_
 refine lp (.bool false) (pu_pickF (q := (decide (y121.2.2 = 0))) rfl hq185 rfl) ?_
 refine lp (.bool false) (pu_assign rfl) ?_
 refine ln ?_
 refine hK183 _ _ ?_
 obtain rfl := os hb
 refine Wc.ret ?_
 refine hKR _ _ ?_
 refine ⟨_, res1 Try.results6 (show RV _ _ _ (.tmp _) (.bool false) from rfl), _, rfl, rfl, hC.sel [] (by decide)⟩
 replace hb := tf hq184 hb
 refine gs rfl rfl (decide (y100.2.2 = 0)) rfl hq184 ?_
 refine gs rfl rfl (decide (y100.2.2 = 0)) rfl hq184 ?_
 refine lp (.bool false) (pu_pickF (q := (decide (y100.2.2 = 0))) rfl hq184 rfl) ?_
 refine lp (.bool false) (pu_move rfl) ?_
 refine gs rfl rfl false rfl rfl ?_
 refine gs rfl rfl false rfl rfl ?_
 refine gs rfl rfl false rfl rfl ?_
 refine lex.gskip (want_n rfl rfl rfl) ?_
 refine lex.gskip (want_n rfl rfl rfl) ?_
 refine gs rfl rfl false rfl rfl ?_
 refine lp (.bool false) (pu_pickF (q := false) rfl rfl rfl) ?_
 refine lp (.bool false) (pu_assign rfl) ?_
 refine ln ?_
 refine hK183 _ _ ?_
 obtain rfl := os hb
 refine Wc.ret ?_
 refine hKR _ _ ?_
 refine ⟨_, res1 Try.results6 (show RV _ _ _ (.tmp _) (.bool false) from rfl), _, rfl, rfl, hC.sel [] (by decide)⟩
 replace hb := tf hq182 hb
 refine Wc.skip ?_
 refine hK177 _ _ ?_
 refine Wc.seq fun K187 hK187 => ?_
 refine rg ?_
 refine lp (.int .i64 y100.2.2) (pu_move e6) ?_
 refine lp (.bool (decide (y100.2.2 = 1))) (pu_eql (k := .i64) (a := y100.2.2) (b := 1) rfl rfl) ?_
 refine lp (.bool (decide (y100.2.2 = 1))) (pu_move rfl) ?_
 rcases bS (decide (y100.2.2 = 1)) with hq188 | hq188
 replace hb := tt hq188 hb
 refine gp rfl rfl (decide (y100.2.2 = 1)) rfl hq188 (.int .i64 y121.2.2) (pu_move e8) ?_
 refine gp rfl rfl (decide (y100.2.2 = 1)) rfl hq188 (.bool (decide (y121.2.2 = 1))) (pu_eql (k := .i64) (a := y121.2.2) (b := 1) rfl rfl) ?_
 refine lp (.bool (decide (y121.2.2 = 1))) (pu_pickT (q := (decide (y100.2.2 = 1))) rfl hq188 rfl) ?_
 refine lp (.bool (decide (y121.2.2 = 1))) (pu_move rfl) ?_
 rcases bS (decide (y121.2.2 = 1)) with hq189 | hq189
 replace hb := tt hq189 hb
 refine gp rfl rfl (decide (y121.2.2 = 1)) rfl hq189 (.int .i64 y143.2.2.2) (pu_move e10) ?_
 refine gp rfl rfl (decide (y121.2.2 = 1)) rfl hq189 (.bool (decide (y143.2.2.2 = 1))) (pu_eql (k := .i64) (a := y143.2.2.2) (b := 1) rfl rfl) ?_
 refine lp (.bool (decide (y143.2.2.2 = 1))) (pu_pickT (q := (decide (y121.2.2 = 1))) rfl hq189 rfl) ?_
 refine lp (.bool (decide (y143.2.2.2 = 1))) (pu_move rfl) ?_
 rcases bS (decide (y143.2.2.2 = 1)) with hq190 | hq190
 replace hb := tt hq190 hb
 refine gp rfl rfl (decide (y143.2.2.2 = 1)) rfl hq190 (.pointer (some ((⟨g116, 0, none⟩ : Addr).add 0))) (pu_field (sz := 1) Try.underlying24 rfl Try.sizeOf22 (by decide) rfl e5) ?_
 refine gv rfl rfl (decide (y143.2.2.2 = 1)) rfl hq190 (.slice A102 y100.1.length c104) (ld_fld (hC.bx (i := 6) rfl) Try.isAgg22 rfl rfl) ?_
 refine gp rfl rfl (decide (y143.2.2.2 = 1)) rfl hq190 (.int .i64 (y100.1.length : Int)) (pu_len (A := A102) (n := y100.1.length) (m := c104) Try.underlying22 rfl) ?_
 refine gp rfl rfl (decide (y143.2.2.2 = 1)) rfl hq190 (.bool (decide ((y100.1.length : Int) = 0))) (pu_eql (k := .i64) (a := (y100.1.length : Int)) (b := 0) rfl rfl) ?_
 refine lp (.bool (decide ((y100.1.length : Int) = 0))) (pu_pickT (q := (decide (y143.2.2.2 = 1))) rfl hq190 rfl) ?_
 refine lp (.bool (decide ((y100.1.length : Int) = 0))) (pu_move rfl) ?_
 rcases bS (decide ((y100.1.length : Int) = 0)) with hq191 | hq191
 replace hb := tt hq191 hb
 refine gp rfl rfl (decide ((y100.1.length : Int) = 0)) rfl hq191 (.pointer (some ((⟨g137, 0, none⟩ : Addr).add 0))) (pu_field (sz := 1) Try.underlying24 rfl Try.sizeOf22 (by decide) rfl e7) ?_
 refine gv rfl rfl (decide ((y100.1.length : Int) = 0)) rfl hq191 (.slice A123 y121.1.length c125) (ld_fld (hC.bx (i := 3) rfl) Try.isAgg22 rfl rfl) ?_
 refine gp rfl rfl (decide ((y100.1.length : Int) = 0)) rfl hq191 (.int .i64 (y121.1.length : Int)) (pu_len (A := A123) (n := y121.1.length) (m := c125) Try.underlying22 rfl) ?_
 refine gp rfl rfl (decide ((y100.1.length : Int) = 0)) rfl hq191 (.bool (decide ((y121.1.length : Int) = 0))) (pu_eql (k := .i64) (a := (y121.1.length : Int)) (b := 0) rfl rfl) ?_
 refine lp (.bool (decide ((y121.1.length : Int) = 0))) (pu_pickT (q := (decide ((y100.1.length : Int) = 0))) rfl hq191 rfl) ?_
 refine lp (.bool (decide ((y121.1.length : Int) = 0))) (pu_assign rfl) ?_
 refine ln ?_
 refine hK187 _ _ ?_
 obtain rfl := os hb
 refine Wc.ret ?_
 refine hKR _ _ ?_
 refine ⟨_, res1 Try.results6 (show RV _ _ _ (.tmp _) (.bool (decide ((y121.1.length : Int) = 0))) from rfl), _, rfl, rfl, hC.sel [] (by decide)⟩
 replace hb := tf hq191 hb
 refine gs rfl rfl (decide ((y100.1.length : Int) = 0)) rfl hq191 ?_
 refine gs rfl rfl (decide ((y100.1.length : Int) = 0)) rfl hq191 ?_
 refine gs rfl rfl (decide ((y100.1.length : Int) = 0)) rfl hq191 ?_
 refine gs rfl rfl (decide ((y100.1.length : Int) = 0)) rfl hq191 ?_
 refine lp (.bool false) (pu_pickF (q := (decide ((y100.1.length : Int) = 0))) rfl hq191 rfl) ?_
 refine lp (.bool false) (pu_assign rfl) ?_
 refine ln ?_
 refine hK187 _ _ ?_
 obtain rfl := os hb
 refine Wc.ret ?_
 refine hKR _ _ ?_
 refine ⟨_, res1 Try.results6 (show RV _ _ _ (.tmp _) (.bool false) from rfl), _, rfl, rfl, hC.sel [] (by decide)⟩
 replace hb := tf hq190 hb
 refine gs rfl rfl (decide (y143.2.2.2 = 1)) rfl hq190 ?_
 refine gs rfl rfl (decide (y143.2.2.2 = 1)) rfl hq190 ?_
 refine gs rfl rfl (decide (y143.2.2.2 = 1)) rfl hq190 ?_
 refine gs rfl rfl (decide (y143.2.2.2 = 1)) rfl hq190 ?_
 refine lp (.bool false) (pu_pickF (q := (decide (y143.2.2.2 = 1))) rfl hq190 rfl) ?_
 refine lp (.bool false) (pu_move rfl) ?_
 refine gs rfl rfl false rfl rfl ?_
 refine gs rfl rfl false rfl rfl ?_
 refine gs rfl rfl false rfl rfl ?_
 refine gs rfl rfl false rfl rfl ?_
 refine lp (.bool false) (pu_pickF (q := false) rfl rfl rfl) ?_
 refine lp (.bool false) (pu_assign rfl) ?_
 refine ln ?_
 refine hK187 _ _ ?_
 obtain rfl := os hb
 refine Wc.ret ?_
 refine hKR _ _ ?_
 refine ⟨_, res1 Try.results6 (show RV _ _ _ (.tmp _) (.bool false) from rfl), _, rfl, rfl, hC.sel [] (by decide)⟩
 replace hb := tf hq189 hb
 refine gs rfl rfl (decide (y121.2.2 = 1)) rfl hq189 ?_
 refine gs rfl rfl (decide (y121.2.2 = 1)) rfl hq189 ?_
 refine lp (.bool false) (pu_pickF (q := (decide (y121.2.2 = 1))) rfl hq189 rfl) ?_
 refine lp (.bool false) (pu_move rfl) ?_
 refine gs rfl rfl false rfl rfl ?_
 refine gs rfl rfl false rfl rfl ?_
 refine gs rfl rfl false rfl rfl ?_
 refine gs rfl rfl false rfl rfl ?_
 refine lp (.bool false) (pu_pickF (q := false) rfl rfl rfl) ?_
 refine lp (.bool false) (pu_move rfl) ?_
 refine gs rfl rfl false rfl rfl ?_
 refine gs rfl rfl false rfl rfl ?_
 refine gs rfl rfl false rfl rfl ?_
 refine gs rfl rfl false rfl rfl ?_
 refine lp (.bool false) (pu_pickF (q := false) rfl rfl rfl) ?_
 refine lp (.bool false) (pu_assign rfl) ?_
 refine ln ?_
 refine hK187 _ _ ?_
 obtain rfl := os hb
 refine Wc.ret ?_
 refine hKR _ _ ?_
 refine ⟨_, res1 Try.results6 (show RV _ _ _ (.tmp _) (.bool false) from rfl), _, rfl, rfl, hC.sel [] (by decide)⟩
 replace hb := tf hq188 hb
 refine gs rfl rfl (decide (y100.2.2 = 1)) rfl hq188 ?_
 refine gs rfl rfl (decide (y100.2.2 = 1)) rfl hq188 ?_
 refine lp (.bool false) (pu_pickF (q := (decide (y100.2.2 = 1))) rfl hq188 rfl) ?_
 refine lp (.bool false) (pu_move rfl) ?_
 refine gs rfl rfl false rfl rfl ?_
 refine gs rfl rfl false rfl rfl ?_
 refine lp (.bool false) (pu_pickF (q := false) rfl rfl rfl) ?_
 refine lp (.bool false) (pu_move rfl) ?_
 refine gs rfl rfl false rfl rfl ?_
 refine gs rfl rfl false rfl rfl ?_
 refine gs rfl rfl false rfl rfl ?_
 refine gs rfl rfl false rfl rfl ?_
 refine lp (.bool false) (pu_pickF (q := false) rfl rfl rfl) ?_
 refine lp (.bool false) (pu_move rfl) ?_
 refine gs rfl rfl false rfl rfl ?_
 refine gs rfl rfl false rfl rfl ?_
 refine gs rfl rfl false rfl rfl ?_
 refine gs rfl rfl false rfl rfl ?_
 refine lp (.bool false) (pu_pickF (q := false) rfl rfl rfl) ?_
 refine lp (.bool false) (pu_assign rfl) ?_
 refine ln ?_
 refine hK187 _ _ ?_
 obtain rfl := os hb
 refine Wc.ret ?_
 refine hKR _ _ ?_
 refine ⟨_, res1 Try.results6 (show RV _ _ _ (.tmp _) (.bool false) from rfl), _, rfl, rfl, hC.sel [] (by decide)⟩
end Go.Proofs.Yticemffhlapnnaa
