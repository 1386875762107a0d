/- The walks: part 6. -/
import Derived.Test.YteajmbanlohncaaS
import Derived.Test.YteajmbanlohncaaG0
import Derived.Test.YteajmbanlohncaaG2
import Derived.Test.YteajmbanlohncaaG3
import Derived.Test.YteajmbanlohncaaG4
import Derived.Test.YteajmbanlohncaaG5
set_option linter.unusedVariables false
set_option linter.unusedSimpArgs false
namespace Go.Proofs.Yteajmbanlohncaa
open Ev
set_option maxRecDepth 100000 in
set_option maxHeartbeats 4000000 in
theorem slices_Clone_Lint_int_ok (n : Nat) {w : World} {O0 : List Nat} (hO : ∀ k ∈ O0, k < w.heap.size) {As_0 : Option Addr} {ms_0 cs_0 : Nat} {s_0 : List Int} (hs_0 : Rep O0 w (.sl (.int .i64)) [.slice As_0 ms_0 cs_0] s_0) {r : (List Int)} (hb : F.slices_Clone_Lint_int n s_0 = some r) :
    Calls Try.prog 86 #[.slice As_0 ms_0 cs_0] w fun e w' => ∃ v, e = .returned v ∧ ∃ (A0 : Option Addr) (m0 c0 : Nat), v = .slice A0 m0 c0 ∧ Cx (fun _ => False) O0 w w' [.own 3 (.int .i64) (.slice A0 m0 c0) r] := by
 unfold F.slices_Clone_Lint_int at hb
 have hC := Cx.start hO
 replace hC := hC.arg rfl hs_0
 clear hO
 obtain ⟨rfl, hls_0, hcs_0⟩ := hs_0.sl_len
 refine calls_of_Wc Try.func86 rfl (by rw [Try.ntmps86]; exact Nat.le_of_ble_eq_true rfl) fun KR hKR => ?_
 refine Wc.seq fun K2 hK2 => ?_
 refine rg ?_
 refine lp (.slice none 0 0) (pu_assign rfl) ?_
 refine ln ?_
 refine hK2 _ _ ?_
 refine Wc.seq fun K3 hK3 => ?_
 refine Wc.seq fun K4 hK4 => ?_
 refine rg ?_
 refine lp (.slice As_0 s_0.length cs_0) (pu_move rfl) ?_
 refine lp (.bool As_0.isNone) (pu_eqlnil Try.underlying30 rfl rfl) ?_
 refine ln ?_
 refine hK4 _ _ ?_
 refine Wc.cond (t := As_0.isNone) (rfl) (fun hq5 => ?_) (fun hq5 => ?_)
 have hz : As_0 = none := by simpa using hq5
 have hx := (hC.rd (i := 0) rfl).none_nil' hz
 replace hb : some ([]) = some r := by have hb2 := hb; rw [hx] at hb2; first | exact hb2 | simpa [lim] using hb2
 refine Wc.seq fun K7 hK7 => ?_
 refine rg ?_
 refine lp (.slice none 0 0) (pu_assign rfl) ?_
 refine ln ?_
 refine hK7 _ _ ?_
 replace hC := hC.nil 3 (.int .i64)
 obtain rfl := os hb
 refine Wc.ret ?_
 refine hKR _ _ ?_
 refine ⟨_, res1 Try.results86 (show RV _ _ _ (.tmp _) (.slice none 0 0) from rfl), _, rfl, none, 0, 0, rfl, hC.sel [0] (by decide)⟩
 refine Wc.skip ?_
 refine hK3 _ _ ?_
 refine Wc.seq fun K9 hK9 => ?_
 refine rg ?_
 refine lex.op (hC.lit (s := (.int .i64)) (vs := []) (xs := []) Try.underlying30 Try.type3 rfl rfl (Nat.le_of_ble_eq_true rfl) rfl rfl (by simp [Value.cells, Sh.n]) rfl (show Elems _ _ (.int .i64) ([]) ([] : List Int) from Elems.nil _ _ _)) ?_
 rintro _ w14 ⟨A10, c11, rfl, hl12, hc13, hC, hF, hN⟩
 clear hF hN
 refine lp (.slice As_0 s_0.length cs_0) (pu_move rfl) ?_
 obtain ⟨u16, h17, hb⟩ := bd hb
 refine lex.op (hC.app (i := 0) (s := (.int .i64)) (xs := ([] : List Int)) (ys := s_0) (m := s_0.length) rfl Try.underlying30 Try.underlying30 Try.type3 rfl rfl rfl (hC.srcr (i := 1) rfl) rfl rfl (by have := lim_some h17; simp at this ⊢ <;> omega) (by decide)) ?_
 rintro _ w22 ⟨A18, c19, rfl, hl20, hc21, hC, hF, hN⟩
 clear hF hN
 refine lp (.slice A18 ((([] : List Int) ++ s_0).length) c19) (pu_assign rfl) ?_
 refine ln ?_
 refine hK9 _ _ ?_
 obtain rfl := os hb
 refine Wc.ret ?_
 refine hKR _ _ ?_
 refine ⟨_, res1 Try.results86 (show RV _ _ _ (.tmp _) (.slice A18 ((([] : List Int) ++ s_0).length) c19) from rfl), _, rfl, A18, (([] : List Int) ++ s_0).length, c19, rfl, hC.sel [0] (by decide)⟩

set_option maxRecDepth 100000 in
set_option maxHeartbeats 4000000 in
theorem gauss_Diagram_ok (n : Nat) {w : World} {O0 : List Nat} (hO : ∀ k ∈ O0, k < w.heap.size) {Ac_0_0 : Option Addr} {mc_0_0 cc_0_0 : Nat} {c_0_0 : List (List (Int × Bool))} (hc_0_0 : Rep O0 w (.sl (.sl (.pr (.int .i64) .bool))) [.slice Ac_0_0 mc_0_0 cc_0_0] c_0_0) {Ac_0_1 : Option Addr} {mc_0_1 cc_0_1 : Nat} {c_0_1 : List Int} (hc_0_1 : Rep O0 w (.sl (.int .i64)) [.slice Ac_0_1 mc_0_1 cc_0_1] c_0_1) {c_0_2 : Int} (hc_0_2 : I64 c_0_2) {r : (List Int) × (List Int) × Int × Int} (hb : F.gauss_Diagram n c_0_0 c_0_1 c_0_2 = some r) :
    Calls Try.prog 54 #[.agg #[.slice Ac_0_0 mc_0_0 cc_0_0, .slice Ac_0_1 mc_0_1 cc_0_1, .int .i64 c_0_2]] w fun e w' => ∃ v, e = .returned v ∧ ∃ (A0 : Option Addr) (m0 c0 : Nat) (A1 : Option Addr) (m1 c1 : Nat), v = .tuple #[.agg #[.slice A0 m0 c0, .slice A1 m1 c1, .int .i64 r.2.2.1], .int .i64 r.2.2.2] ∧ I64 r.2.2.1 ∧ I64 r.2.2.2 ∧ Cx (fun _ => False) O0 w w' [.own 3 (.int .i64) (.slice A0 m0 c0) r.1, .own 3 (.int .i64) (.slice A1 m1 c1) r.2.1] := by
 unfold F.gauss_Diagram at hb
 have hC := Cx.start hO
 replace hC := hC.arg rfl hc_0_0
 replace hC := hC.arg rfl hc_0_1
 clear hO
 obtain ⟨rfl, hlc_0_0, hcc_0_0⟩ := hc_0_0.sl_len
 obtain ⟨rfl, hlc_0_1, hcc_0_1⟩ := hc_0_1.sl_len
 refine calls_of_Wc Try.func54 rfl (by rw [Try.ntmps54]; exact Nat.le_of_ble_eq_true rfl) fun KR hKR => ?_
 refine Wc.seq fun K3 hK3 => ?_
 refine rg ?_
 refine lex.op (hC.box (cs := [.slice Ac_0_0 c_0_0.length cc_0_0, .slice Ac_0_1 c_0_1.length cc_0_1, .int .i64 c_0_2]) rfl rfl) ?_
 rintro _ w5 ⟨g4, rfl, hC, hF, hG⟩
 clear hG
 refine lex.op (hC.alloc (cs := [.slice none 0 0, .slice none 0 0, .int .i64 0]) Try.zeroValue32 rfl) ?_
 rintro _ w8 ⟨g7, rfl, hC, hF, hG⟩
 clear hG
 refine lp (.int .i64 0) (pu_assign rfl) ?_
 refine ln ?_
 refine hK3 _ _ ?_
 refine Wc.seq fun K10 hK10 => ?_
 refine Wc.seq fun K11 hK11 => ?_
 refine rg ?_
 refine lv (.agg #[.slice Ac_0_0 c_0_0.length cc_0_0, .slice Ac_0_1 c_0_1.length cc_0_1, .int .i64 c_0_2]) (ld_blk (hC.bx (i := 1) rfl) Try.isAgg77 Try.sizeOf77 rfl) ?_
 obtain ⟨y12, h13, hb⟩ := bd hb
 refine lex.cl (⟨_, _, op_call (vs := [.agg #[.slice Ac_0_0 c_0_0.length cc_0_0, .slice Ac_0_1 c_0_1.length cc_0_1, .int .i64 c_0_2]]) Try.call83 rfl rfl rfl, gauss_Valid_ok n hC.lt (hC.rd (i := 3) rfl) (hC.rd (i := 2) rfl) hc_0_2 h13⟩) ?_
 rintro _ w14 ⟨rfl, hK⟩
 replace hC := hC.merge hK
 clear hK
 refine lp (.bool (!y12)) (pu_not (q := y12) rfl) ?_
 refine ln ?_
 refine hK11 _ _ ?_
 refine Wc.cond (t := (!y12)) (rfl) (fun hq15 => ?_) (fun hq15 => ?_)
 replace hb := tt hq15 hb
 refine Wc.seq fun K16 hK16 => ?_
 refine rg ?_
 refine lp (.agg #[.slice none 0 0, .slice none 0 0, .int .i64 0]) (pu_builds (places := [(0, 1), (1, 1), (2, 1)]) (pv := []) Try.type32 Try.underlying32 rfl (mp_cons Try.type30 (mp_cons Try.type30 (mp_cons Try.type3 mp_nil rfl rfl) rfl rfl) rfl rfl) rfl (by simp [Instr.fill, Value.cells])) ?_
 refine lex.sk (hC.seta (i := 0) (ds := [.slice none 0 0, .slice none 0 0, .int .i64 0]) rfl Try.type32 rfl rfl rfl rfl rfl) ?_
 rintro w17 ⟨hC, hF⟩
 refine lp (.int .i64 1) (pu_assign rfl) ?_
 refine ln ?_
 refine hK16 _ _ ?_
 replace hC := hC.nil 3 (.int .i64)
 replace hC := hC.nil 3 (.int .i64)
 obtain rfl := os hb
 refine Wc.ret ?_
 refine hKR _ _ ?_
 refine ⟨_, res2 Try.results54 ⟨_, rfl, loadVar_blk (hC.bx (i := 2) rfl) Try.isAgg32 Try.sizeOf32⟩ (show RV _ _ _ (.tmp _) (.int .i64 1) from rfl), _, rfl, none, 0, 0, none, 0, 0, rfl, (show I64 0 from by unfold I64; omega), (show I64 1 from by unfold I64; omega), hC.sel [1, 0] (by decide)⟩
 replace hb := tf hq15 hb
 refine Wc.skip ?_
 refine hK10 _ _ ?_
 refine Wc.seq fun K20 hK20 => ?_
 refine rg ?_
 refine lv (.agg #[.slice Ac_0_0 c_0_0.length cc_0_0, .slice Ac_0_1 c_0_1.length cc_0_1, .int .i64 c_0_2]) (ld_blk (hC.bx (i := 1) rfl) Try.isAgg77 Try.sizeOf77 rfl) ?_
 obtain ⟨y21, h22, hb⟩ := bd hb
 refine lex.cl (⟨_, _, op_call (vs := [.agg #[.slice Ac_0_0 c_0_0.length cc_0_0, .slice Ac_0_1 c_0_1.length cc_0_1, .int .i64 c_0_2]]) Try.call84 rfl rfl rfl, gauss_mates_ok n hC.lt (hC.rd (i := 3) rfl) (hC.rd (i := 2) rfl) hc_0_2 h22⟩) ?_
 rintro _ w27 ⟨A23, m24, c25, rfl, hK⟩
 replace hC := hC.merge hK
 clear hK
 obtain ⟨rfl, hl28, hc29⟩ := (hC.ow (i := 0) rfl).sl_len
 refine lp (.slice A23 y21.length c25) (pu_assign rfl) ?_
 refine ln ?_
 refine hK20 _ _ ?_
 refine Wc.seq fun K30 hK30 => ?_
 refine Wc.seq fun K31 hK31 => ?_
 refine rg ?_
 refine lp (.slice A23 y21.length c25) (pu_move rfl) ?_
 obtain ⟨y32, h33, hb⟩ := bd hb
 refine lex.cl (⟨_, _, op_call (vs := [.slice A23 y21.length c25]) Try.call85 rfl rfl rfl, gauss_genus_ok n (hC.lentLt [.slice A23 y21.length c25]) ((hC.ow (i := 0) rfl).lend (vs := [.slice A23 y21.length c25]) (by simp)) h33⟩) ?_
 rintro _ w35 ⟨rfl, hr34, hK⟩
 replace hC := hC.mergeF hK rfl
 clear hK
 refine lp (.bool (!(decide (y32 = 0)))) (pu_neq (k := .i64) (a := y32) (b := 0) rfl rfl) ?_
 refine ln ?_
 refine hK31 _ _ ?_
 refine Wc.fresh fun E36 hE => ?_
 have e1 : E36 1 = .pointer (some ⟨g4, 0, none⟩) := (congrFun hE 1).trans rfl
 have e2 : E36 2 = .pointer (some ⟨g7, 0, none⟩) := (congrFun hE 2).trans rfl
 have e3 : E36 3 = .int .i64 0 := (congrFun hE 3).trans rfl
 have e4 : E36 4 = .slice A23 y21.length c25 := (congrFun hE 4).trans rfl
 have e13 : E36 13 = .bool (!(decide (y32 = 0))) := (congrFun hE 13).trans rfl
 clear hE
 refine Wc.cond (t := (!(decide (y32 = 0)))) (e13) (fun hq37 => ?_) (fun hq37 => ?_)
 replace hb := tt hq37 hb
 refine Wc.seq fun K38 hK38 => ?_
 refine rg ?_
 refine lp (.agg #[.slice none 0 0, .slice none 0 0, .int .i64 0]) (pu_builds (places := [(0, 1), (1, 1), (2, 1)]) (pv := []) Try.type32 Try.underlying32 rfl (mp_cons Try.type30 (mp_cons Try.type30 (mp_cons Try.type3 mp_nil rfl rfl) rfl rfl) rfl rfl) rfl (by simp [Instr.fill, Value.cells])) ?_
 refine lex.sk (hC.seta (i := 1) (ds := [.slice none 0 0, .slice none 0 0, .int .i64 0]) rfl Try.type32 rfl rfl rfl e2 rfl) ?_
 rintro w39 ⟨hC, hF⟩
 refine lp (.int .i64 7) (pu_assign rfl) ?_
 refine ln ?_
 refine hK38 _ _ ?_
 replace hC := hC.nil 3 (.int .i64)
 replace hC := hC.nil 3 (.int .i64)
 obtain rfl := os hb
 refine Wc.ret ?_
 refine hKR _ _ ?_
 refine ⟨_, res2 Try.results54 ⟨_, e2, loadVar_blk (hC.bx (i := 3) rfl) Try.isAgg32 Try.sizeOf32⟩ (show RV _ _ _ (.tmp _) (.int .i64 7) from rfl), _, rfl, none, 0, 0, none, 0, 0, rfl, (show I64 0 from by unfold I64; omega), (show I64 7 from by unfold I64; omega), hC.sel [1, 0] (by decide)⟩
 replace hb := tf hq37 hb
 refine Wc.skip ?_
 refine hK30 _ _ ?_
 refine Wc.seq fun K42 hK42 => ?_
 refine Wc.regionMix [16, 20] (frm [16, 20] ([] : List Fact) [.box g7 32 [.slice none 0 0, .slice none 0 0, .int .i64 0]]) (fun _ => rfl) mixed (by decide +kernel) (by decide +kernel) fun w44 hw43 => ?_
 replace hC := hC.step (Fr.of_drew hw43)
 have hM := Fr.refl (fun k => k ∈ blocks ([] : List Fact)) w44
 clear hw43
 have hS := hC
 have hD : Fr (fun k => k ∈ blocks (([] : List Fact) ++ [.box g7 32 [.slice none 0 0, .slice none 0 0, .int .i64 0]])) w44 w44 := hM.wide
 have hUf9 : g7 < w44.heap.size → g7 ∈ blocks (([] : List Fact) ++ [.box g7 32 [.slice none 0 0, .slice none 0 0, .int .i64 0]]) := fun _ => box_in (i := 0) rfl
 refine mp (.pointer (some ((⟨g4, 0, none⟩ : Addr).add 1))) (pu_field (sz := 1) Try.underlying77 rfl Try.sizeOf30 (by decide) rfl e1) ?_
 refine mixE.steady hD (v := .slice Ac_0_1 c_0_1.length cc_0_1) (fun _ hF => ld_fld (hS.bx2 (i := 2) rfl [1] (by decide) hF) Try.isAgg30 rfl rfl) ?_
 obtain ⟨y45, h46, hb⟩ := bd hb
 refine mixE.cl hM (⟨_, _, op_call (vs := [.slice Ac_0_1 c_0_1.length cc_0_1]) Try.call86 rfl rfl rfl, slices_Clone_Lint_int_ok n hC.lt (hC.rd (i := 3) rfl) h46⟩) ?_
 rintro _ w51 ⟨A47, m48, c49, rfl, hK⟩
 have hBf50 := Beside.cl (i := 0) hM hK rfl
 have hUf50 := hBf50.wide (H := [.box g7 32 [.slice none 0 0, .slice none 0 0, .int .i64 0]])
 replace hM := hM.none hK.fr
 replace hD := hM.wide (H := [.box g7 32 [.slice none 0 0, .slice none 0 0, .int .i64 0]])
 refine ⟨hM, ?_⟩
 replace hC := hC.merge hK
 clear hK
 obtain ⟨rfl, hl52, hc53⟩ := (hC.ow (i := 0) rfl).sl_len
 refine mp (.slice A23 y21.length c25) (pu_move e4) ?_
 refine mp (.pointer (some ((⟨g4, 0, none⟩ : Addr).add 2))) (pu_field (sz := 1) Try.underlying77 rfl Try.sizeOf3 (by decide) rfl e1) ?_
 refine mixE.steady hD (v := .int .i64 c_0_2) (fun _ hF => ld_fld (hS.bx2 (i := 2) rfl [1] (by decide) hF) Try.isAgg3 rfl rfl) ?_
 refine mp (.agg #[.slice A47 y45.length c49, .slice A23 y21.length c25, .int .i64 c_0_2]) (pu_builds (places := [(0, 1), (1, 1), (2, 1)]) (pv := [(0, .slice A47 y45.length c49), (1, .slice A23 y21.length c25), (2, .int .i64 c_0_2)]) Try.type32 Try.underlying32 rfl (mp_cons Try.type30 (mp_cons Try.type30 (mp_cons Try.type3 mp_nil rfl rfl) rfl rfl) rfl rfl) rfl (by simp [Instr.fill, Value.cells])) ?_
 refine mixE.sk hD (hC.seta (i := 2) (ds := [.slice A47 y45.length c49, .slice A23 y21.length c25, .int .i64 c_0_2]) rfl Try.type32 rfl rfl rfl e2 rfl) ?_
 rintro w54 ⟨hC, hF⟩
 replace hD := hD.besideG hUf9 hF
 clear hF
 refine ⟨hD, ?_⟩
 refine mp (.int .i64 0) (pu_assign rfl) ?_
 refine mixE.nil ?_
 clear hS hM
 clear hD
 refine hK42 _ _ ?_
 obtain rfl := os hb
 refine Wc.ret ?_
 refine hKR _ _ ?_
 refine ⟨_, res2 Try.results54 ⟨_, e2, loadVar_blk (hC.bx (i := 2) rfl) Try.isAgg32 Try.sizeOf32⟩ (show RV _ _ _ (.tmp _) (.int .i64 0) from rfl), _, rfl, A47, y45.length, c49, A23, y21.length, c25, rfl, hc_0_2, (show I64 0 from by unfold I64; omega), hC.sel [0, 1] (by decide)⟩

set_option maxRecDepth 100000 in
set_option maxHeartbeats 4000000 in
theorem polygon_Project_ok (n : Nat) {w : World} {O0 : List Nat} (hO : ∀ k ∈ O0, k < w.heap.size) {Al_0 : Option Addr} {ml_0 cl_0 : Nat} {l_0 : List (List (Int × (Int × Int)))} (hl_0 : Rep O0 w (.sl (.sl (.pr (.int .i64) (.pr (.int .i64) (.int .i64))))) [.slice Al_0 ml_0 cl_0] l_0) {r : (List Int) × (List Int) × Int × Int} (hb : F.polygon_Project n l_0 = some r) :
    Calls Try.prog 15 #[.slice Al_0 ml_0 cl_0] w fun e w' => ∃ v, e = .returned v ∧ ∃ (A0 : Option Addr) (m0 c0 : Nat) (A1 : Option Addr) (m1 c1 : Nat), v = .tuple #[.agg #[.slice A0 m0 c0, .slice A1 m1 c1, .int .i64 r.2.2.1], .int .i64 r.2.2.2] ∧ I64 r.2.2.1 ∧ I64 r.2.2.2 ∧ Cx (fun _ => False) O0 w w' [.own 3 (.int .i64) (.slice A0 m0 c0) r.1, .own 3 (.int .i64) (.slice A1 m1 c1) r.2.1] := by
 unfold F.polygon_Project at hb
 have hC := Cx.start hO
 replace hC := hC.arg rfl hl_0
 clear hO
 obtain ⟨rfl, hll_0, hcl_0⟩ := hl_0.sl_len
 refine calls_of_Wc Try.func15 rfl (by rw [Try.ntmps15]; exact Nat.le_of_ble_eq_true rfl) fun KR hKR => ?_
 refine Wc.seq fun K2 hK2 => ?_
 refine rg ?_
 refine lex.op (hC.alloc (cs := [.slice none 0 0, .slice none 0 0, .int .i64 0]) Try.zeroValue32 rfl) ?_
 rintro _ w4 ⟨g3, rfl, hC, hF, hG⟩
 clear hG
 refine lp (.int .i64 0) (pu_assign rfl) ?_
 refine ln ?_
 refine hK2 _ _ ?_
 refine Wc.seq fun K6 hK6 => ?_
 refine Wc.seq fun K7 hK7 => ?_
 refine rg ?_
 refine lp (.slice Al_0 l_0.length cl_0) (pu_move rfl) ?_
 obtain ⟨y8, h9, hb⟩ := bd hb
 refine lex.cl (⟨_, _, op_call (vs := [.slice Al_0 l_0.length cl_0]) Try.call51 rfl rfl rfl, polygon_valid_ok n hC.lt (hC.rd (i := 1) rfl) h9⟩) ?_
 rintro _ w10 ⟨rfl, hK⟩
 replace hC := hC.merge hK
 clear hK
 refine lp (.bool (!y8)) (pu_not (q := y8) rfl) ?_
 refine ln ?_
 refine hK7 _ _ ?_
 refine Wc.cond (t := (!y8)) (rfl) (fun hq11 => ?_) (fun hq11 => ?_)
 replace hb := tt hq11 hb
 refine Wc.seq fun K12 hK12 => ?_
 refine rg ?_
 refine lp (.agg #[.slice none 0 0, .slice none 0 0, .int .i64 0]) (pu_builds (places := [(0, 1), (1, 1), (2, 1)]) (pv := []) Try.type32 Try.underlying32 rfl (mp_cons Try.type30 (mp_cons Try.type30 (mp_cons Try.type3 mp_nil rfl rfl) rfl rfl) rfl rfl) rfl (by simp [Instr.fill, Value.cells])) ?_
 refine lex.sk (hC.seta (i := 0) (ds := [.slice none 0 0, .slice none 0 0, .int .i64 0]) rfl Try.type32 rfl rfl rfl rfl rfl) ?_
 rintro w13 ⟨hC, hF⟩
 refine lp (.int .i64 1) (pu_assign rfl) ?_
 refine ln ?_
 refine hK12 _ _ ?_
 replace hC := hC.nil 3 (.int .i64)
 replace hC := hC.nil 3 (.int .i64)
 obtain rfl := os hb
 refine Wc.ret ?_
 refine hKR _ _ ?_
 refine ⟨_, res2 Try.results15 ⟨_, rfl, loadVar_blk (hC.bx (i := 2) rfl) Try.isAgg32 Try.sizeOf32⟩ (show RV _ _ _ (.tmp _) (.int .i64 1) from rfl), _, rfl, none, 0, 0, none, 0, 0, rfl, (show I64 0 from by unfold I64; omega), (show I64 1 from by unfold I64; omega), hC.sel [1, 0] (by decide)⟩
 replace hb := tf hq11 hb
 refine Wc.skip ?_
 refine hK6 _ _ ?_
 refine Wc.seq fun K16 hK16 => ?_
 refine rg ?_
 refine lp (.slice Al_0 l_0.length cl_0) (pu_move rfl) ?_
 obtain ⟨y17, h18, hb⟩ := bd hb
 refine lex.cl (⟨_, _, op_call (vs := [.slice Al_0 l_0.length cl_0]) Try.call52 rfl rfl rfl, polygon_edges_ok n hC.lt (hC.rd (i := 1) rfl) h18⟩) ?_
 rintro _ w23 ⟨A19, m20, c21, rfl, hK⟩
 replace hC := hC.merge hK
 clear hK
 obtain ⟨rfl, hl24, hc25⟩ := (hC.ow (i := 0) rfl).sl_len
 refine lp (.slice A19 y17.length c21) (pu_assign rfl) ?_
 refine ln ?_
 refine hK16 _ _ ?_
 refine Wc.seq fun K26 hK26 => ?_
 refine rg ?_
 refine lp (.slice A19 y17.length c21) (pu_move rfl) ?_
 replace hC := hC.freeze (i := 0) rfl (hC.own_new (i := 0) rfl)
 obtain ⟨y27, h28, hb⟩ := bd hb
 refine lex.cl (⟨_, _, op_call (vs := [.slice A19 y17.length c21]) Try.call53 rfl rfl rfl, polygon_cross_ok n hC.lt (hC.rd (i := 0) rfl) h28⟩) ?_
 rintro _ w33 ⟨A29, m30, c31, rfl, hK⟩
 replace hC := hC.merge hK
 clear hK
 obtain ⟨rfl, hl34, hc35⟩ := (hC.rd (i := 0) rfl).sl_len
 refine lp (.tuple #[.slice A29 y27.1.length c31, .bool y27.2]) (pu_move rfl) ?_
 refine lp (.slice A29 y27.1.length c31) (pu_extract rfl rfl) ?_
 refine lp (.bool y27.2) (pu_extract rfl rfl) ?_
 refine lp (.slice A29 y27.1.length c31) (pu_assign rfl) ?_
 refine lp (.bool y27.2) (pu_assign rfl) ?_
 refine ln ?_
 refine hK26 _ _ ?_
 refine Wc.fresh fun E36 hE => ?_
 have e0 : E36 0 = .slice Al_0 l_0.length cl_0 := (congrFun hE 0).trans rfl
 have e2 : E36 2 = .pointer (some ⟨g3, 0, none⟩) := (congrFun hE 2).trans rfl
 have e3 : E36 3 = .int .i64 0 := (congrFun hE 3).trans rfl
 have e4 : E36 4 = .slice A19 y17.length c21 := (congrFun hE 4).trans rfl
 have e5 : E36 5 = .slice A29 y27.1.length c31 := (congrFun hE 5).trans rfl
 have e6 : E36 6 = .bool y27.2 := (congrFun hE 6).trans rfl
 clear hE
 refine Wc.seq fun K37 hK37 => ?_
 refine Wc.seq fun K38 hK38 => ?_
 refine rg ?_
 refine lp (.bool y27.2) (pu_move e6) ?_
 refine lp (.bool (!y27.2)) (pu_not (q := y27.2) rfl) ?_
 refine ln ?_
 refine hK38 _ _ ?_
 refine Wc.cond (t := (!y27.2)) (rfl) (fun hq39 => ?_) (fun hq39 => ?_)
 replace hb := tt hq39 hb
 refine Wc.seq fun K40 hK40 => ?_
 refine rg ?_
 refine lp (.agg #[.slice none 0 0, .slice none 0 0, .int .i64 0]) (pu_builds (places := [(0, 1), (1, 1), (2, 1)]) (pv := []) Try.type32 Try.underlying32 rfl (mp_cons Try.type30 (mp_cons Try.type30 (mp_cons Try.type3 mp_nil rfl rfl) rfl rfl) rfl rfl) rfl (by simp [Instr.fill, Value.cells])) ?_
 refine lex.sk (hC.seta (i := 2) (ds := [.slice none 0 0, .slice none 0 0, .int .i64 0]) rfl Try.type32 rfl rfl rfl e2 rfl) ?_
 rintro w41 ⟨hC, hF⟩
 refine lp (.int .i64 15) (pu_assign rfl) ?_
 refine ln ?_
 refine hK40 _ _ ?_
 replace hC := hC.nil 3 (.int .i64)
 replace hC := hC.nil 3 (.int .i64)
 obtain rfl := os hb
 refine Wc.ret ?_
 refine hKR _ _ ?_
 refine ⟨_, res2 Try.results15 ⟨_, e2, loadVar_blk (hC.bx (i := 4) rfl) Try.isAgg32 Try.sizeOf32⟩ (show RV _ _ _ (.tmp _) (.int .i64 15) from rfl), _, rfl, none, 0, 0, none, 0, 0, rfl, (show I64 0 from by unfold I64; omega), (show I64 15 from by unfold I64; omega), hC.sel [1, 0] (by decide)⟩
 replace hb := tf hq39 hb
 refine Wc.skip ?_
 refine hK37 _ _ ?_
 refine Wc.seq fun K44 hK44 => ?_
 refine rg ?_
 refine lp (.int .i64 0) (pu_assign rfl) ?_
 refine ln ?_
 refine hK44 _ _ ?_
 refine Wc.seq fun K45 hK45 => ?_
 refine Wc.seq fun K46 hK46 => ?_
 refine rg ?_
 refine lp (.slice A29 y27.1.length c31) (pu_move e5) ?_
 refine lp (.int .i64 (y27.1.length : Int)) (pu_len (A := A29) (n := y27.1.length) (m := c31) Try.underlying70 rfl) ?_
 refine lp (.int .i64 0) (pu_move rfl) ?_
 refine ln ?_
 refine hK46 _ _ ?_
 obtain ⟨o47, hl0, hb⟩ := bd hb
 refine Wc.cut (fun E wv => ∃ (v7_0 : Int) (v26_0 : Int), E 0 = .slice Al_0 l_0.length cl_0 ∧ E 2 = .pointer (some ⟨g3, 0, none⟩) ∧ E 3 = .int .i64 0 ∧ E 4 = .slice A19 y17.length c21 ∧ E 5 = .slice A29 y27.1.length c31 ∧ E 7 = .int .i64 v7_0 ∧ I64 v7_0 ∧ I64 v26_0 ∧ Cx (fun _ => False) O0 w wv [.ro (.sl (.sl (.pr (.int .i64) (.pr (.int .i64) (.int .i64))))) [.slice Al_0 l_0.length cl_0] l_0, .box g3 32 [.slice none 0 0, .slice none 0 0, .int .i64 0], .ro (.sl (.pr (.pr (.int .i64) (.pr (.int .i64) (.int .i64))) (.pr (.pr (.int .i64) (.pr (.int .i64) (.int .i64))) (.pr (.int .i64) (.int .i64))))) [.slice A19 y17.length c21] y17, .ro (.sl (.sl (.pr (.int .i64) .bool))) [.slice A29 y27.1.length c31] y27.1] ∧ (cond (decide (128 < v7_0)) (some ([], [], 0, 5)) ((F.polygon_code n l_0 y17 y27.1).bind fun y84 => (F.gauss_Diagram n y84.1 y84.2.1 y84.2.2).bind fun y100 => some (y100.1, y100.2.1, y100.2.2.1, y100.2.2.2)) : Option ((List Int) × (List Int) × Int × Int)) = some r) (fun K48 hK48 => ?_) ?_
 refine Wc.block ?_
 refine Wc.loop (fun m E wv => ∃ (v7_0 : Int) (v26_0 : Int), E 0 = .slice Al_0 l_0.length cl_0 ∧ E 2 = .pointer (some ⟨g3, 0, none⟩) ∧ E 3 = .int .i64 0 ∧ E 4 = .slice A19 y17.length c21 ∧ E 5 = .slice A29 y27.1.length c31 ∧ E 7 = .int .i64 v7_0 ∧ E 24 = .slice A29 y27.1.length c31 ∧ E 25 = .int .i64 (y27.1.length : Int) ∧ E 26 = .int .i64 v26_0 ∧ I64 v7_0 ∧ I64 v26_0 ∧ Cx (fun _ => False) O0 w wv [.ro (.sl (.sl (.pr (.int .i64) (.pr (.int .i64) (.int .i64))))) [.slice Al_0 l_0.length cl_0] l_0, .box g3 32 [.slice none 0 0, .slice none 0 0, .int .i64 0], .ro (.sl (.pr (.pr (.int .i64) (.pr (.int .i64) (.int .i64))) (.pr (.pr (.int .i64) (.pr (.int .i64) (.int .i64))) (.pr (.int .i64) (.int .i64))))) [.slice A19 y17.length c21] y17, .ro (.sl (.sl (.pr (.int .i64) .bool))) [.slice A29 y27.1.length c31] y27.1] ∧ loopN m (F.polygon_Project_b0 n y27) (v7_0, v26_0) = some o47) n ⟨0, 0, e0, e2, e3, e4, e5, rfl, rfl, rfl, rfl, (show I64 0 from by unfold I64; omega), (show I64 0 from by unfold I64; omega), hC.sel [3, 2, 1, 0] (by decide), hl0⟩ ?_
 have hbK0 := hb
 clear hb hC hl0
 rintro m50 E52 w51 ⟨v7_0, v26_0, e0, e2, e3, e4, e5, e7, e24, e25, e26, hrv7_0, hrv26_0, hC, hl0⟩ K49 hK49
 obtain ⟨m50', o53, rfl, hb, hl0⟩ := loopN_some hl0
 unfold F.polygon_Project_b0 at hb
 refine Wc.seq fun K54 hK54 => ?_
 refine rg ?_
 refine lp (.bool (decide (v26_0 < (y27.1.length : Int)))) (pu_lss (k := .i64) (a := v26_0) (b := (y27.1.length : Int)) e26 e25) ?_
 refine ln ?_
 refine hK54 _ _ ?_
 refine Wc.seq fun K55 hK55 => ?_
 refine Wc.cond (t := (decide (v26_0 < (y27.1.length : Int)))) (rfl) (fun hq56 => ?_) (fun hq56 => ?_)
 replace hb := tt hq56 hb
 refine Wc.skip ?_
 refine hK55 _ _ ?_
 refine Wc.seq fun K57 hK57 => ?_
 refine Wc.block ?_
 refine Wc.seq fun K58 hK58 => ?_
 refine rg ?_
 obtain ⟨x59, h60, hb⟩ := bd hb
 obtain ⟨ad61, cs62, hA, hc63, hr64⟩ := hC.elr (i := 3) rfl (get_some h60).2
 subst hA
 refine lp (.pointer (some (ad61.add (v26_0.toNat * 1)))) (pu_index (a := v26_0) Try.underlying70 Try.sizeOf73 e24 e26 (get_some h60).1) ?_
 have hR := hr64
 obtain ⟨A65, c66, rfl, hl67, hc68, _⟩ := hr64
 replace hC := hC.ro hR
 clear hR
 refine lv (.slice A65 x59.length c66) (ld_one Try.isAgg73 rfl (hc63 0 _ rfl)) ?_
 refine lp (.slice A65 x59.length c66) (pu_assign rfl) ?_
 refine ln ?_
 refine hK58 _ _ ?_
 refine rg ?_
 refine lp (.int .i64 v7_0) (pu_move e7) ?_
 refine lp (.slice A65 x59.length c66) (pu_move rfl) ?_
 refine lp (.int .i64 (x59.length : Int)) (pu_len (A := A65) (n := x59.length) (m := c66) Try.underlying73 rfl) ?_
 obtain ⟨z70, h71, hb⟩ := bd hb
 refine lp (.int .i64 z70) (pu_addc (a := v7_0) (b := (x59.length : Int)) rfl rfl h71) ?_
 refine lp (.int .i64 z70) (pu_assign rfl) ?_
 refine ln ?_
 refine hK57 _ _ ?_
 refine rg ?_
 obtain ⟨z72, h73, hb⟩ := bd hb
 refine lp (.int .i64 z72) (pu_addc (a := v26_0) (b := 1) e26 rfl h73) ?_
 refine lp (.int .i64 z72) (pu_move rfl) ?_
 refine ln ?_
 obtain rfl := os hb
 exact hK49 m50' _ _ (Nat.lt_succ_self _) ⟨z70, z72, e0, e2, e3, e4, e5, rfl, e24, e25, rfl, (chk_rng h71), (chk_rng h73), hC.sel [1, 2, 3, 4] (by decide), lN hl0⟩
 replace hb := tf hq56 hb
 refine Wc.exit rfl ?_
 obtain rfl := os hb
 obtain rfl := (lX hl0).symm
 exact hK48 _ _ ⟨v7_0, v26_0, e0, e2, e3, e4, e5, e7, hrv7_0, hrv26_0, hC.sel [0, 1, 2, 3] (by decide), hbK0⟩
 clear hb hC hl0
 rintro E75 w74 ⟨v7_0, v26_0, e0, e2, e3, e4, e5, e7, hrv7_0, hrv26_0, hC, hb⟩
 refine hK45 _ _ ?_
 refine Wc.seq fun K76 hK76 => ?_
 refine Wc.seq fun K77 hK77 => ?_
 refine rg ?_
 refine lp (.int .i64 v7_0) (pu_move e7) ?_
 refine lp (.bool (decide (128 < v7_0))) (pu_gtr (k := .i64) (a := v7_0) (b := 128) rfl rfl) ?_
 refine ln ?_
 refine hK77 _ _ ?_
 refine Wc.cond (t := (decide (128 < v7_0))) (rfl) (fun hq78 => ?_) (fun hq78 => ?_)
 replace hb := tt hq78 hb
 refine Wc.seq fun K79 hK79 => ?_
 refine rg ?_
 refine lp (.agg #[.slice none 0 0, .slice none 0 0, .int .i64 0]) (pu_builds (places := [(0, 1), (1, 1), (2, 1)]) (pv := []) Try.type32 Try.underlying32 rfl (mp_cons Try.type30 (mp_cons Try.type30 (mp_cons Try.type3 mp_nil rfl rfl) rfl rfl) rfl rfl) rfl (by simp [Instr.fill, Value.cells])) ?_
 refine lex.sk (hC.seta (i := 1) (ds := [.slice none 0 0, .slice none 0 0, .int .i64 0]) rfl Try.type32 rfl rfl rfl e2 rfl) ?_
 rintro w80 ⟨hC, hF⟩
 refine lp (.int .i64 5) (pu_assign rfl) ?_
 refine ln ?_
 refine hK79 _ _ ?_
 replace hC := hC.nil 3 (.int .i64)
 replace hC := hC.nil 3 (.int .i64)
 obtain rfl := os hb
 refine Wc.ret ?_
 refine hKR _ _ ?_
 refine ⟨_, res2 Try.results15 ⟨_, e2, loadVar_blk (hC.bx (i := 3) rfl) Try.isAgg32 Try.sizeOf32⟩ (show RV _ _ _ (.tmp _) (.int .i64 5) from rfl), _, rfl, none, 0, 0, none, 0, 0, rfl, (show I64 0 from by unfold I64; omega), (show I64 5 from by unfold I64; omega), hC.sel [1, 0] (by decide)⟩
 replace hb := tf hq78 hb
 refine Wc.skip ?_
 refine hK76 _ _ ?_
 refine Wc.seq fun K83 hK83 => ?_
 refine rg ?_
 refine lp (.slice Al_0 l_0.length cl_0) (pu_move e0) ?_
 refine lp (.slice A19 y17.length c21) (pu_move e4) ?_
 refine lp (.slice A29 y27.1.length c31) (pu_move e5) ?_
 obtain ⟨y84, h85, hb⟩ := bd hb
 refine lex.cl (⟨_, _, op_call (vs := [.slice Al_0 l_0.length cl_0, .slice A19 y17.length c21, .slice A29 y27.1.length c31]) Try.call55 rfl rfl rfl, polygon_code_ok n hC.lt (hC.rd (i := 0) rfl) (hC.rd (i := 2) rfl) (hC.rd (i := 3) rfl) h85⟩) ?_
 rintro _ w95 ⟨A86, m87, c88, A90, m91, c92, rfl, hr94, hK⟩
 replace hC := hC.merge hK
 clear hK
 obtain ⟨rfl, hl96, hc97⟩ := (hC.ow (i := 0) rfl).sl_len
 obtain ⟨rfl, hl98, hc99⟩ := (hC.ow (i := 1) rfl).sl_len
 obtain ⟨y100, h101, hb⟩ := bd hb
 refine lex.cl (⟨_, _, op_call (vs := [.agg #[.slice A86 y84.1.length c88, .slice A90 y84.2.1.length c92, .int .i64 y84.2.2]]) Try.call54 rfl rfl rfl, gauss_Diagram_ok n (hC.lentLt [.slice A86 y84.1.length c88, .slice A90 y84.2.1.length c92]) ((hC.ow (i := 0) rfl).lend (vs := [.slice A86 y84.1.length c88, .slice A90 y84.2.1.length c92]) (by simp)) ((hC.ow (i := 1) rfl).lend (vs := [.slice A86 y84.1.length c88, .slice A90 y84.2.1.length c92]) (by simp)) hr94 h101⟩) ?_
 rintro _ w112 ⟨A102, m103, c104, A106, m107, c108, rfl, hr110, hr111, hK⟩
 replace hC := hC.mergeF hK rfl
 clear hK
 obtain ⟨rfl, hl113, hc114⟩ := (hC.ow (i := 0) rfl).sl_len
 obtain ⟨rfl, hl115, hc116⟩ := (hC.ow (i := 1) rfl).sl_len
 refine lp (.agg #[.slice A102 y100.1.length c104, .slice A106 y100.2.1.length c108, .int .i64 y100.2.2.1]) (pu_extract rfl rfl) ?_
 refine lp (.int .i64 y100.2.2.2) (pu_extract rfl rfl) ?_
 refine lex.sk (hC.seta (i := 5) (ds := [.slice A102 y100.1.length c104, .slice A106 y100.2.1.length c108, .int .i64 y100.2.2.1]) rfl Try.type32 rfl rfl rfl e2 rfl) ?_
 rintro w117 ⟨hC, hF⟩
 refine lp (.int .i64 y100.2.2.2) (pu_assign rfl) ?_
 refine ln ?_
 refine hK83 _ _ ?_
 obtain rfl := os hb
 refine Wc.ret ?_
 refine hKR _ _ ?_
 refine ⟨_, res2 Try.results15 ⟨_, e2, loadVar_blk (hC.bx (i := 5) rfl) Try.isAgg32 Try.sizeOf32⟩ (show RV _ _ _ (.tmp _) (.int .i64 y100.2.2.2) from rfl), _, rfl, A102, y100.1.length, c104, A106, y100.2.1.length, c108, rfl, hr110, hr111, hC.sel [0, 1] (by decide)⟩

set_option maxRecDepth 100000 in
set_option maxHeartbeats 4000000 in
theorem polygon_Generic_ok (n : Nat) {w : World} {O0 : List Nat} (hO : ∀ k ∈ O0, k < w.heap.size) {Al_0 : Option Addr} {ml_0 cl_0 : Nat} {l_0 : List (List (Int × (Int × Int)))} (hl_0 : Rep O0 w (.sl (.sl (.pr (.int .i64) (.pr (.int .i64) (.int .i64))))) [.slice Al_0 ml_0 cl_0] l_0) {r : Bool} (hb : F.polygon_Generic n l_0 = some r) :
    Calls Try.prog 18 #[.slice Al_0 ml_0 cl_0] w fun e w' => ∃ v, e = .returned v ∧ v = .bool r ∧ Cx (fun _ => False) O0 w w' [] := by
 unfold F.polygon_Generic at hb
 have hC := Cx.start hO
 replace hC := hC.arg rfl hl_0
 clear hO
 obtain ⟨rfl, hll_0, hcl_0⟩ := hl_0.sl_len
 refine calls_of_Wc Try.func18 rfl (by rw [Try.ntmps18]; exact Nat.le_of_ble_eq_true rfl) fun KR hKR => ?_
 refine Wc.seq fun K2 hK2 => ?_
 refine rg ?_
 refine lp (.bool false) (pu_assign rfl) ?_
 refine ln ?_
 refine hK2 _ _ ?_
 refine Wc.seq fun K3 hK3 => ?_
 refine Wc.seq fun K4 hK4 => ?_
 refine rg ?_
 refine lp (.slice Al_0 l_0.length cl_0) (pu_move rfl) ?_
 obtain ⟨y5, h6, hb⟩ := bd hb
 refine lex.cl (⟨_, _, op_call (vs := [.slice Al_0 l_0.length cl_0]) Try.call51 rfl rfl rfl, polygon_valid_ok n hC.lt (hC.rd (i := 0) rfl) h6⟩) ?_
 rintro _ w7 ⟨rfl, hK⟩
 replace hC := hC.merge hK
 clear hK
 refine lp (.bool (!y5)) (pu_not (q := y5) rfl) ?_
 refine ln ?_
 refine hK4 _ _ ?_
 refine Wc.cond (t := (!y5)) (rfl) (fun hq8 => ?_) (fun hq8 => ?_)
 replace hb := tt hq8 hb
 refine Wc.seq fun K9 hK9 => ?_
 refine rg ?_
 refine lp (.bool false) (pu_assign rfl) ?_
 refine ln ?_
 refine hK9 _ _ ?_
 obtain rfl := os hb
 refine Wc.ret ?_
 refine hKR _ _ ?_
 refine ⟨_, res1 Try.results18 (show RV _ _ _ (.tmp _) (.bool false) from rfl), _, rfl, rfl, hC.sel [] (by decide)⟩
 replace hb := tf hq8 hb
 refine Wc.skip ?_
 refine hK3 _ _ ?_
 refine Wc.seq fun K10 hK10 => ?_
 refine rg ?_
 refine lp (.slice Al_0 l_0.length cl_0) (pu_move rfl) ?_
 obtain ⟨y11, h12, hb⟩ := bd hb
 refine lex.cl (⟨_, _, op_call (vs := [.slice Al_0 l_0.length cl_0]) Try.call52 rfl rfl rfl, polygon_edges_ok n hC.lt (hC.rd (i := 0) rfl) h12⟩) ?_
 rintro _ w17 ⟨A13, m14, c15, rfl, hK⟩
 replace hC := hC.merge hK
 clear hK
 obtain ⟨rfl, hl18, hc19⟩ := (hC.ow (i := 0) rfl).sl_len
 replace hC := hC.freeze (i := 0) rfl (hC.own_new (i := 0) rfl)
 obtain ⟨y20, h21, hb⟩ := bd hb
 refine lex.cl (⟨_, _, op_call (vs := [.slice A13 y11.length c15]) Try.call53 rfl rfl rfl, polygon_cross_ok n hC.lt (hC.rd (i := 0) rfl) h21⟩) ?_
 rintro _ w26 ⟨A22, m23, c24, rfl, hK⟩
 replace hC := hC.merge hK
 clear hK
 obtain ⟨rfl, hl27, hc28⟩ := (hC.rd (i := 0) rfl).sl_len
 refine lp (.tuple #[.slice A22 y20.1.length c24, .bool y20.2]) (pu_move rfl) ?_
 refine lp (.slice A22 y20.1.length c24) (pu_extract rfl rfl) ?_
 refine lp (.bool y20.2) (pu_extract rfl rfl) ?_
 refine lp (.slice A22 y20.1.length c24) (pu_assign rfl) ?_
 refine lp (.bool y20.2) (pu_assign rfl) ?_
 refine ln ?_
 refine hK10 _ _ ?_
 refine Wc.seq fun K29 hK29 => ?_
 refine rg ?_
 refine lp (.bool y20.2) (pu_move rfl) ?_
 refine lp (.bool y20.2) (pu_assign rfl) ?_
 refine ln ?_
 refine hK29 _ _ ?_
 obtain rfl := os hb
 refine Wc.ret ?_
 refine hKR _ _ ?_
 refine ⟨_, res1 Try.results18 (show RV _ _ _ (.tmp _) (.bool y20.2) from rfl), _, rfl, rfl, hC.sel [] (by decide)⟩

set_option maxRecDepth 100000 in
set_option maxHeartbeats 4000000 in
theorem law46_awake_ok (n : Nat) {w : World} {O0 : List Nat} (hO : ∀ k ∈ O0, k < w.heap.size)  {r : Bool} (hb : F.law46_awake n = some r) :
    Calls Try.prog 11 #[] w fun e w' => ∃ v, e = .returned v ∧ v = .bool r ∧ Cx (fun _ => False) O0 w w' [] := by
 unfold F.law46_awake at hb
 have hC := Cx.start hO
 clear hO
 refine calls_of_Wc Try.func11 rfl (by rw [Try.ntmps11]; exact Nat.le_of_ble_eq_true rfl) fun KR hKR => ?_
 refine Wc.seq fun K1 hK1 => ?_
 refine rg ?_
 refine lp (.bool false) (pu_assign rfl) ?_
 refine ln ?_
 refine hK1 _ _ ?_
 refine Wc.seq fun K2 hK2 => ?_
 refine rg ?_
 refine lp (.agg #[.int .i64 0, .int .i64 0, .int .i64 0]) (pu_builds (places := [(0, 1), (1, 1), (2, 1)]) (pv := [(0, .int .i64 0), (1, .int .i64 0), (2, .int .i64 0)]) Try.type23 Try.underlying23 rfl (mp_cons Try.type3 (mp_cons Try.type3 (mp_cons Try.type3 mp_nil rfl rfl) rfl rfl) rfl rfl) rfl (by simp [Instr.fill, Value.cells])) ?_
 refine lp (.agg #[.int .i64 10, .int .i64 10, .int .i64 0]) (pu_builds (places := [(0, 1), (1, 1), (2, 1)]) (pv := [(0, .int .i64 10), (1, .int .i64 10), (2, .int .i64 0)]) Try.type23 Try.underlying23 rfl (mp_cons Try.type3 (mp_cons Try.type3 (mp_cons Try.type3 mp_nil rfl rfl) rfl rfl) rfl rfl) rfl (by simp [Instr.fill, Value.cells])) ?_
 refine lp (.agg #[.int .i64 10, .int .i64 0, .int .i64 5]) (pu_builds (places := [(0, 1), (1, 1), (2, 1)]) (pv := [(0, .int .i64 10), (1, .int .i64 0), (2, .int .i64 5)]) Try.type23 Try.underlying23 rfl (mp_cons Try.type3 (mp_cons Try.type3 (mp_cons Try.type3 mp_nil rfl rfl) rfl rfl) rfl rfl) rfl (by simp [Instr.fill, Value.cells])) ?_
 refine lp (.agg #[.int .i64 0, .int .i64 10, .int .i64 5]) (pu_builds (places := [(0, 1), (1, 1), (2, 1)]) (pv := [(0, .int .i64 0), (1, .int .i64 10), (2, .int .i64 5)]) Try.type23 Try.underlying23 rfl (mp_cons Try.type3 (mp_cons Try.type3 (mp_cons Try.type3 mp_nil rfl rfl) rfl rfl) rfl rfl) rfl (by simp [Instr.fill, Value.cells])) ?_
 refine lex.op (hC.lit (s := (.pr (.int .i64) (.pr (.int .i64) (.int .i64)))) (vs := [.agg #[.int .i64 0, .int .i64 0, .int .i64 0], .agg #[.int .i64 10, .int .i64 10, .int .i64 0], .agg #[.int .i64 10, .int .i64 0, .int .i64 5], .agg #[.int .i64 0, .int .i64 10, .int .i64 5]]) (xs := [(0, (0, 0)), (10, (10, 0)), (10, (0, 5)), (0, (10, 5))]) Try.underlying43 Try.type23 rfl rfl (Nat.le_of_ble_eq_true rfl) rfl rfl (by simp [Value.cells, Sh.n]) rfl (show Elems _ _ (.pr (.int .i64) (.pr (.int .i64) (.int .i64))) ([.int .i64 0, .int .i64 0, .int .i64 0] ++ ([.int .i64 10, .int .i64 10, .int .i64 0] ++ ([.int .i64 10, .int .i64 0, .int .i64 5] ++ ([.int .i64 0, .int .i64 10, .int .i64 5] ++ ([]))))) ([(0, (0, 0)), (10, (10, 0)), (10, (0, 5)), (0, (10, 5))] : List (Int × (Int × Int))) from Elems.cons (⟨[.int .i64 0], [.int .i64 0, .int .i64 0], rfl, ⟨rfl, I64.wr (show I64 0 from by unfold I64; omega)⟩, ⟨[.int .i64 0], [.int .i64 0], rfl, ⟨rfl, I64.wr (show I64 0 from by unfold I64; omega)⟩, ⟨rfl, I64.wr (show I64 0 from by unfold I64; omega)⟩⟩⟩) (Elems.cons (⟨[.int .i64 10], [.int .i64 10, .int .i64 0], rfl, ⟨rfl, I64.wr (show I64 10 from by unfold I64; omega)⟩, ⟨[.int .i64 10], [.int .i64 0], rfl, ⟨rfl, I64.wr (show I64 10 from by unfold I64; omega)⟩, ⟨rfl, I64.wr (show I64 0 from by unfold I64; omega)⟩⟩⟩) (Elems.cons (⟨[.int .i64 10], [.int .i64 0, .int .i64 5], rfl, ⟨rfl, I64.wr (show I64 10 from by unfold I64; omega)⟩, ⟨[.int .i64 0], [.int .i64 5], rfl, ⟨rfl, I64.wr (show I64 0 from by unfold I64; omega)⟩, ⟨rfl, I64.wr (show I64 5 from by unfold I64; omega)⟩⟩⟩) (Elems.cons (⟨[.int .i64 0], [.int .i64 10, .int .i64 5], rfl, ⟨rfl, I64.wr (show I64 0 from by unfold I64; omega)⟩, ⟨[.int .i64 10], [.int .i64 5], rfl, ⟨rfl, I64.wr (show I64 10 from by unfold I64; omega)⟩, ⟨rfl, I64.wr (show I64 5 from by unfold I64; omega)⟩⟩⟩) (Elems.nil _ _ _)))))) ?_
 rintro _ w7 ⟨A3, c4, rfl, hl5, hc6, hC, hF, hN⟩
 clear hF hN
 replace hC := hC.freeze (i := 0) rfl (hC.own_new (i := 0) rfl)
 refine lex.op (hC.lit (s := (.sl (.pr (.int .i64) (.pr (.int .i64) (.int .i64))))) (vs := [.slice A3 ((([(0, (0, 0)), (10, (10, 0)), (10, (0, 5)), (0, (10, 5))] : List (Int × (Int × Int)))).length) c4]) (xs := [([(0, (0, 0)), (10, (10, 0)), (10, (0, 5)), (0, (10, 5))] : List (Int × (Int × Int)))]) Try.underlying28 Try.type43 rfl rfl (Nat.le_of_ble_eq_true rfl) rfl rfl (by simp [Value.cells, Sh.n]) rfl (show Elems _ _ (.sl (.pr (.int .i64) (.pr (.int .i64) (.int .i64)))) ([.slice A3 ((([(0, (0, 0)), (10, (10, 0)), (10, (0, 5)), (0, (10, 5))] : List (Int × (Int × Int)))).length) c4] ++ ([])) ([([(0, (0, 0)), (10, (10, 0)), (10, (0, 5)), (0, (10, 5))] : List (Int × (Int × Int)))] : List (List (Int × (Int × Int)))) from Elems.cons (hC.rd (i := 0) rfl) (Elems.nil _ _ _))) ?_
 rintro _ w13 ⟨A9, c10, rfl, hl11, hc12, hC, hF, hN⟩
 clear hF hN
 refine lp (.slice A9 ((([([(0, (0, 0)), (10, (10, 0)), (10, (0, 5)), (0, (10, 5))] : List (Int × (Int × Int)))] : List (List (Int × (Int × Int))))).length) c10) (pu_assign rfl) ?_
 refine ln ?_
 refine hK2 _ _ ?_
 refine Wc.seq fun K15 hK15 => ?_
 refine rg ?_
 refine lp (.slice A9 ((([([(0, (0, 0)), (10, (10, 0)), (10, (0, 5)), (0, (10, 5))] : List (Int × (Int × Int)))] : List (List (Int × (Int × Int))))).length) c10) (pu_move rfl) ?_
 obtain ⟨y16, h17, hb⟩ := bd hb
 refine lex.cl (⟨_, _, op_call (vs := [.slice A9 ((([([(0, (0, 0)), (10, (10, 0)), (10, (0, 5)), (0, (10, 5))] : List (Int × (Int × Int)))] : List (List (Int × (Int × Int))))).length) c10]) Try.call15 rfl rfl rfl, polygon_Project_ok n (hC.lentLt [.slice A9 ((([([(0, (0, 0)), (10, (10, 0)), (10, (0, 5)), (0, (10, 5))] : List (Int × (Int × Int)))] : List (List (Int × (Int × Int))))).length) c10]) ((hC.ow (i := 0) rfl).lend (vs := [.slice A9 ((([([(0, (0, 0)), (10, (10, 0)), (10, (0, 5)), (0, (10, 5))] : List (Int × (Int × Int)))] : List (List (Int × (Int × Int))))).length) c10]) (by simp)) h17⟩) ?_
 rintro _ w28 ⟨A18, m19, c20, A22, m23, c24, rfl, hr26, hr27, hK⟩
 replace hC := hC.mergeF hK rfl
 clear hK
 obtain ⟨rfl, hl29, hc30⟩ := (hC.ow (i := 0) rfl).sl_len
 obtain ⟨rfl, hl31, hc32⟩ := (hC.ow (i := 1) rfl).sl_len
 refine lp (.tuple #[.agg #[.slice A18 y16.1.length c20, .slice A22 y16.2.1.length c24, .int .i64 y16.2.2.1], .int .i64 y16.2.2.2]) (pu_move rfl) ?_
 refine lp (.agg #[.slice A18 y16.1.length c20, .slice A22 y16.2.1.length c24, .int .i64 y16.2.2.1]) (pu_extract rfl rfl) ?_
 refine lp (.int .i64 y16.2.2.2) (pu_extract rfl rfl) ?_
 refine lex.op (hC.alloc (cs := [.slice none 0 0, .slice none 0 0, .int .i64 0]) Try.zeroValue32 rfl) ?_
 rintro _ w34 ⟨g33, rfl, hC, hF, hG⟩
 clear hG
 refine lex.sk (hC.seta (i := 0) (ds := [.slice A18 y16.1.length c20, .slice A22 y16.2.1.length c24, .int .i64 y16.2.2.1]) rfl Try.type32 rfl rfl rfl rfl rfl) ?_
 rintro w36 ⟨hC, hF⟩
 refine lp (.int .i64 y16.2.2.2) (pu_assign rfl) ?_
 refine ln ?_
 refine hK15 _ _ ?_
 refine Wc.fresh fun E37 hE => ?_
 have e0 : E37 0 = .bool false := (congrFun hE 0).trans rfl
 have e1 : E37 1 = .slice A9 ((([([(0, (0, 0)), (10, (10, 0)), (10, (0, 5)), (0, (10, 5))] : List (Int × (Int × Int)))] : List (List (Int × (Int × Int))))).length) c10 := (congrFun hE 1).trans rfl
 have e2 : E37 2 = .pointer (some ⟨g33, 0, none⟩) := (congrFun hE 2).trans rfl
 have e3 : E37 3 = .int .i64 y16.2.2.2 := (congrFun hE 3).trans rfl
 clear hE
 refine Wc.seq fun K38 hK38 => ?_
 refine rg ?_
 refine lp (.int .i64 y16.2.2.2) (pu_move e3) ?_
 refine lp (.bool (decide (y16.2.2.2 = 0))) (pu_eql (k := .i64) (a := y16.2.2.2) (b := 0) rfl rfl) ?_
 refine lp (.bool (decide (y16.2.2.2 = 0))) (pu_move rfl) ?_
 rcases bS (decide (y16.2.2.2 = 0)) with hq39 | hq39
 replace hb := tt hq39 hb
 refine gp rfl rfl (decide (y16.2.2.2 = 0)) rfl hq39 (.pointer (some ((⟨g33, 0, none⟩ : Addr).add 0))) (pu_field (sz := 1) Try.underlying32 rfl Try.sizeOf30 (by decide) rfl e2) ?_
 refine gv rfl rfl (decide (y16.2.2.2 = 0)) rfl hq39 (.slice A18 y16.1.length c20) (ld_fld (hC.bx (i := 0) rfl) Try.isAgg30 rfl rfl) ?_
 refine gp rfl rfl (decide (y16.2.2.2 = 0)) rfl hq39 (.int .i64 (y16.1.length : Int)) (pu_len (A := A18) (n := y16.1.length) (m := c20) Try.underlying30 rfl) ?_
 refine gp rfl rfl (decide (y16.2.2.2 = 0)) rfl hq39 (.bool (decide ((y16.1.length : Int) = 1))) (pu_eql (k := .i64) (a := (y16.1.length : Int)) (b := 1) rfl rfl) ?_
 refine lp (.bool (decide ((y16.1.length : Int) = 1))) (pu_pickT (q := (decide (y16.2.2.2 = 0))) rfl hq39 rfl) ?_
 refine lp (.bool (decide ((y16.1.length : Int) = 1))) (pu_move rfl) ?_
 rcases bS (decide ((y16.1.length : Int) = 1)) with hq40 | hq40
 replace hb := tt hq40 hb
 refine gp rfl rfl (decide ((y16.1.length : Int) = 1)) rfl hq40 (.pointer (some ((⟨g33, 0, none⟩ : Addr).add 0))) (pu_field (sz := 1) Try.underlying32 rfl Try.sizeOf30 (by decide) rfl e2) ?_
 refine gv rfl rfl (decide ((y16.1.length : Int) = 1)) rfl hq40 (.slice A18 y16.1.length c20) (ld_fld (hC.bx (i := 0) rfl) Try.isAgg30 rfl rfl) ?_
 obtain ⟨x41, h42, hb⟩ := bd hb
 obtain ⟨ad43, cs44, hA, hc45, hr46⟩ := hC.elo (i := 1) rfl (get_some h42).2
 subst hA
 refine gp rfl rfl (decide ((y16.1.length : Int) = 1)) rfl hq40 (.pointer (some (ad43.add ((0 : Int).toNat * 1)))) (pu_index (a := 0) Try.underlying30 Try.sizeOf3 rfl rfl (get_some h42).1) ?_
 obtain ⟨rfl, hr46'⟩ := hr46
 refine gv rfl rfl (decide ((y16.1.length : Int) = 1)) rfl hq40 (.int .i64 x41) (ld_one Try.isAgg3 rfl (hc45 0 _ rfl)) ?_
 refine gp rfl rfl (decide ((y16.1.length : Int) = 1)) rfl hq40 (.bool (decide (x41 = (-1)))) (pu_eql (k := .i64) (a := x41) (b := (-1)) rfl rfl) ?_
 refine lp (.bool (decide (x41 = (-1)))) (pu_pickT (q := (decide ((y16.1.length : Int) = 1))) rfl hq40 rfl) ?_
 refine lp (.bool (decide (x41 = (-1)))) (pu_move rfl) ?_
 rcases bS (decide (x41 = (-1))) with hq47 | hq47
 replace hb := tt hq47 hb
 refine gp rfl rfl (decide (x41 = (-1))) rfl hq47 (.pointer (some ((⟨g33, 0, none⟩ : Addr).add 2))) (pu_field (sz := 1) Try.underlying32 rfl Try.sizeOf3 (by decide) rfl e2) ?_
 refine gv rfl rfl (decide (x41 = (-1))) rfl hq47 (.int .i64 y16.2.2.1) (ld_fld (hC.bx (i := 0) rfl) Try.isAgg3 rfl rfl) ?_
 refine gp rfl rfl (decide (x41 = (-1))) rfl hq47 (.bool (decide (y16.2.2.1 = 0))) (pu_eql (k := .i64) (a := y16.2.2.1) (b := 0) rfl rfl) ?_
 refine lp (.bool (decide (y16.2.2.1 = 0))) (pu_pickT (q := (decide (x41 = (-1)))) rfl hq47 rfl) ?_
 refine lp (.bool (decide (y16.2.2.1 = 0))) (pu_move rfl) ?_
 rcases bS (decide (y16.2.2.1 = 0)) with hq48 | hq48
 replace hb := tt hq48 hb
 refine gp rfl rfl (decide (y16.2.2.1 = 0)) rfl hq48 (.slice A9 ((([([(0, (0, 0)), (10, (10, 0)), (10, (0, 5)), (0, (10, 5))] : List (Int × (Int × Int)))] : List (List (Int × (Int × Int))))).length) c10) (pu_move e1) ?_
 obtain ⟨y49, h50, hb⟩ := bd hb
 refine lex.gcl (want_t rfl rfl (show _ = Value.bool (decide (y16.2.2.1 = 0)) from rfl) hq48) (⟨_, _, op_call (vs := [.slice A9 ((([([(0, (0, 0)), (10, (10, 0)), (10, (0, 5)), (0, (10, 5))] : List (Int × (Int × Int)))] : List (List (Int × (Int × Int))))).length) c10]) Try.call18 rfl rfl rfl, polygon_Generic_ok n (hC.lentLt [.slice A9 ((([([(0, (0, 0)), (10, (10, 0)), (10, (0, 5)), (0, (10, 5))] : List (Int × (Int × Int)))] : List (List (Int × (Int × Int))))).length) c10]) ((hC.ow (i := 3) rfl).lend (vs := [.slice A9 ((([([(0, (0, 0)), (10, (10, 0)), (10, (0, 5)), (0, (10, 5))] : List (Int × (Int × Int)))] : List (List (Int × (Int × Int))))).length) c10]) (by simp)) h50⟩) ?_
 rintro _ w51 ⟨rfl, hK⟩
 replace hC := hC.mergeF hK rfl
 clear hK
 refine lp (.bool y49) (pu_pickT (q := (decide (y16.2.2.1 = 0))) rfl hq48 rfl) ?_
 refine lp (.bool y49) (pu_assign rfl) ?_
 refine ln ?_
 refine hK38 _ _ ?_
 obtain rfl := os hb
 refine Wc.ret ?_
 refine hKR _ _ ?_
 refine ⟨_, res1 Try.results11 (show RV _ _ _ (.tmp _) (.bool y49) from rfl), _, rfl, rfl, hC.sel [] (by decide)⟩
 replace hb := tf hq48 hb
 refine gs rfl rfl (decide (y16.2.2.1 = 0)) rfl hq48 ?_
 refine gs rfl rfl (decide (y16.2.2.1 = 0)) rfl hq48 ?_
 refine lp (.bool false) (pu_pickF (q := (decide (y16.2.2.1 = 0))) rfl hq48 rfl) ?_
 refine lp (.bool false) (pu_assign rfl) ?_
 refine ln ?_
 refine hK38 _ _ ?_
 obtain rfl := os hb
 refine Wc.ret ?_
 refine hKR _ _ ?_
 refine ⟨_, res1 Try.results11 (show RV _ _ _ (.tmp _) (.bool false) from rfl), _, rfl, rfl, hC.sel [] (by decide)⟩
 replace hb := tf hq47 hb
 refine gs rfl rfl (decide (x41 = (-1))) rfl hq47 ?_
 refine gs rfl rfl (decide (x41 = (-1))) rfl hq47 ?_
 refine gs rfl rfl (decide (x41 = (-1))) rfl hq47 ?_
 refine lp (.bool false) (pu_pickF (q := (decide (x41 = (-1)))) rfl hq47 rfl) ?_
 refine lp (.bool false) (pu_move rfl) ?_
 refine gs rfl rfl false rfl rfl ?_
 refine gs rfl rfl false rfl rfl ?_
 refine lp (.bool false) (pu_pickF (q := false) rfl rfl rfl) ?_
 refine lp (.bool false) (pu_assign rfl) ?_
 refine ln ?_
 refine hK38 _ _ ?_
 obtain rfl := os hb
 refine Wc.ret ?_
 refine hKR _ _ ?_
 refine ⟨_, res1 Try.results11 (show RV _ _ _ (.tmp _) (.bool false) from rfl), _, rfl, rfl, hC.sel [] (by decide)⟩
 replace hb := tf hq40 hb
 refine gs rfl rfl (decide ((y16.1.length : Int) = 1)) rfl hq40 ?_
 refine gs rfl rfl (decide ((y16.1.length : Int) = 1)) rfl hq40 ?_
 refine gs rfl rfl (decide ((y16.1.length : Int) = 1)) rfl hq40 ?_
 refine gs rfl rfl (decide ((y16.1.length : Int) = 1)) rfl hq40 ?_
 refine gs rfl rfl (decide ((y16.1.length : Int) = 1)) rfl hq40 ?_
 refine lp (.bool false) (pu_pickF (q := (decide ((y16.1.length : Int) = 1))) rfl hq40 rfl) ?_
 refine lp (.bool false) (pu_move rfl) ?_
 refine gs rfl rfl false rfl rfl ?_
 refine gs rfl rfl false rfl rfl ?_
 refine gs rfl rfl false rfl rfl ?_
 refine lp (.bool false) (pu_pickF (q := false) rfl rfl rfl) ?_
 refine lp (.bool false) (pu_move rfl) ?_
 refine gs rfl rfl false rfl rfl ?_
 refine gs rfl rfl false rfl rfl ?_
 refine lp (.bool false) (pu_pickF (q := false) rfl rfl rfl) ?_
 refine lp (.bool false) (pu_assign rfl) ?_
 refine ln ?_
 refine hK38 _ _ ?_
 obtain rfl := os hb
 refine Wc.ret ?_
 refine hKR _ _ ?_
 refine ⟨_, res1 Try.results11 (show RV _ _ _ (.tmp _) (.bool false) from rfl), _, rfl, rfl, hC.sel [] (by decide)⟩
 replace hb := tf hq39 hb
 refine gs rfl rfl (decide (y16.2.2.2 = 0)) rfl hq39 ?_
 refine gs rfl rfl (decide (y16.2.2.2 = 0)) rfl hq39 ?_
 refine gs rfl rfl (decide (y16.2.2.2 = 0)) rfl hq39 ?_
 refine gs rfl rfl (decide (y16.2.2.2 = 0)) rfl hq39 ?_
 refine lp (.bool false) (pu_pickF (q := (decide (y16.2.2.2 = 0))) rfl hq39 rfl) ?_
 refine lp (.bool false) (pu_move rfl) ?_
 refine gs rfl rfl false rfl rfl ?_
 refine gs rfl rfl false rfl rfl ?_
 refine gs rfl rfl false rfl rfl ?_
 refine gs rfl rfl false rfl rfl ?_
 refine gs rfl rfl false rfl rfl ?_
 refine lp (.bool false) (pu_pickF (q := false) rfl rfl rfl) ?_
 refine lp (.bool false) (pu_move rfl) ?_
 refine gs rfl rfl false rfl rfl ?_
 refine gs rfl rfl false rfl rfl ?_
 refine gs rfl rfl false rfl rfl ?_
 refine lp (.bool false) (pu_pickF (q := false) rfl rfl rfl) ?_
 refine lp (.bool false) (pu_move rfl) ?_
 refine gs rfl rfl false rfl rfl ?_
 refine gs rfl rfl false rfl rfl ?_
 refine lp (.bool false) (pu_pickF (q := false) rfl rfl rfl) ?_
 refine lp (.bool false) (pu_assign rfl) ?_
 refine ln ?_
 refine hK38 _ _ ?_
 obtain rfl := os hb
 refine Wc.ret ?_
 refine hKR _ _ ?_
 refine ⟨_, res1 Try.results11 (show RV _ _ _ (.tmp _) (.bool false) from rfl), _, rfl, rfl, hC.sel [] (by decide)⟩

set_option maxRecDepth 100000 in
set_option maxHeartbeats 4000000 in
theorem law46_few_ok (n : Nat) {w : World} {O0 : List Nat} (hO : ∀ k ∈ O0, k < w.heap.size) {Al_0 : Option Addr} {ml_0 cl_0 : Nat} {l_0 : List (List (Int × (Int × Int)))} (hl_0 : Rep O0 w (.sl (.sl (.pr (.int .i64) (.pr (.int .i64) (.int .i64))))) [.slice Al_0 ml_0 cl_0] l_0) {r : Bool} (hb : F.law46_few n l_0 = some r) :
    Calls Try.prog 14 #[.slice Al_0 ml_0 cl_0] w fun e w' => ∃ v, e = .returned v ∧ v = .bool r ∧ Cx (fun _ => False) O0 w w' [] := by
 unfold F.law46_few at hb
 have hC := Cx.start hO
 replace hC := hC.arg rfl hl_0
 clear hO
 obtain ⟨rfl, hll_0, hcl_0⟩ := hl_0.sl_len
 refine calls_of_Wc Try.func14 rfl (by rw [Try.ntmps14]; exact Nat.le_of_ble_eq_true rfl) fun KR hKR => ?_
 refine Wc.seq fun K2 hK2 => ?_
 refine rg ?_
 refine lp (.bool false) (pu_assign rfl) ?_
 refine ln ?_
 refine hK2 _ _ ?_
 refine Wc.seq fun K3 hK3 => ?_
 refine rg ?_
 refine lp (.int .i64 0) (pu_assign rfl) ?_
 refine ln ?_
 refine hK3 _ _ ?_
 refine Wc.seq fun K4 hK4 => ?_
 refine Wc.seq fun K5 hK5 => ?_
 refine rg ?_
 refine lp (.slice Al_0 l_0.length cl_0) (pu_move rfl) ?_
 refine lp (.int .i64 (l_0.length : Int)) (pu_len (A := Al_0) (n := l_0.length) (m := cl_0) Try.underlying28 rfl) ?_
 refine lp (.int .i64 0) (pu_move rfl) ?_
 refine ln ?_
 refine hK5 _ _ ?_
 obtain ⟨o6, hl0, hb⟩ := bd hb
 refine Wc.cut (fun E wv => ∃ (v3_0 : Int) (v8_0 : Int), E 0 = .slice Al_0 l_0.length cl_0 ∧ E 2 = .bool false ∧ E 3 = .int .i64 v3_0 ∧ I64 v3_0 ∧ I64 v8_0 ∧ Cx (fun _ => False) O0 w wv [.ro (.sl (.sl (.pr (.int .i64) (.pr (.int .i64) (.int .i64))))) [.slice Al_0 l_0.length cl_0] l_0] ∧ (cond (decide ((l_0.length : Int) ≤ 24)) (some (decide (v3_0 ≤ 24))) (some false) : Option (Bool)) = some r) (fun K7 hK7 => ?_) ?_
 refine Wc.block ?_
 refine Wc.loop (fun m E wv => ∃ (v3_0 : Int) (v8_0 : Int), E 0 = .slice Al_0 l_0.length cl_0 ∧ E 2 = .bool false ∧ E 3 = .int .i64 v3_0 ∧ E 6 = .slice Al_0 l_0.length cl_0 ∧ E 7 = .int .i64 (l_0.length : Int) ∧ E 8 = .int .i64 v8_0 ∧ I64 v3_0 ∧ I64 v8_0 ∧ Cx (fun _ => False) O0 w wv [.ro (.sl (.sl (.pr (.int .i64) (.pr (.int .i64) (.int .i64))))) [.slice Al_0 l_0.length cl_0] l_0] ∧ loopN m (F.law46_few_b0 n l_0) (v3_0, v8_0) = some o6) n ⟨0, 0, rfl, rfl, rfl, rfl, rfl, rfl, (show I64 0 from by unfold I64; omega), (show I64 0 from by unfold I64; omega), hC.sel [0] (by decide), hl0⟩ ?_
 have hbK0 := hb
 clear hb hC hl0
 rintro m9 E11 w10 ⟨v3_0, v8_0, e0, e2, e3, e6, e7, e8, hrv3_0, hrv8_0, hC, hl0⟩ K8 hK8
 obtain ⟨m9', o12, rfl, hb, hl0⟩ := loopN_some hl0
 unfold F.law46_few_b0 at hb
 refine Wc.seq fun K13 hK13 => ?_
 refine rg ?_
 refine lp (.bool (decide (v8_0 < (l_0.length : Int)))) (pu_lss (k := .i64) (a := v8_0) (b := (l_0.length : Int)) e8 e7) ?_
 refine ln ?_
 refine hK13 _ _ ?_
 refine Wc.seq fun K14 hK14 => ?_
 refine Wc.cond (t := (decide (v8_0 < (l_0.length : Int)))) (rfl) (fun hq15 => ?_) (fun hq15 => ?_)
 replace hb := tt hq15 hb
 refine Wc.skip ?_
 refine hK14 _ _ ?_
 refine Wc.seq fun K16 hK16 => ?_
 refine Wc.block ?_
 refine Wc.seq fun K17 hK17 => ?_
 refine rg ?_
 obtain ⟨x18, h19, hb⟩ := bd hb
 obtain ⟨ad20, cs21, hA, hc22, hr23⟩ := hC.elr (i := 0) rfl (get_some h19).2
 subst hA
 refine lp (.pointer (some (ad20.add (v8_0.toNat * 1)))) (pu_index (a := v8_0) Try.underlying28 Try.sizeOf43 e6 e8 (get_some h19).1) ?_
 have hR := hr23
 obtain ⟨A24, c25, rfl, hl26, hc27, _⟩ := hr23
 replace hC := hC.ro hR
 clear hR
 refine lv (.slice A24 x18.length c25) (ld_one Try.isAgg43 rfl (hc22 0 _ rfl)) ?_
 refine lp (.slice A24 x18.length c25) (pu_assign rfl) ?_
 refine ln ?_
 refine hK17 _ _ ?_
 refine rg ?_
 refine lp (.int .i64 v3_0) (pu_move e3) ?_
 refine lp (.slice A24 x18.length c25) (pu_move rfl) ?_
 refine lp (.int .i64 (x18.length : Int)) (pu_len (A := A24) (n := x18.length) (m := c25) Try.underlying43 rfl) ?_
 obtain ⟨z29, h30, hb⟩ := bd hb
 refine lp (.int .i64 z29) (pu_addc (a := v3_0) (b := (x18.length : Int)) rfl rfl h30) ?_
 refine lp (.int .i64 z29) (pu_assign rfl) ?_
 refine ln ?_
 refine hK16 _ _ ?_
 refine rg ?_
 obtain ⟨z31, h32, hb⟩ := bd hb
 refine lp (.int .i64 z31) (pu_addc (a := v8_0) (b := 1) e8 rfl h32) ?_
 refine lp (.int .i64 z31) (pu_move rfl) ?_
 refine ln ?_
 obtain rfl := os hb
 exact hK8 m9' _ _ (Nat.lt_succ_self _) ⟨z29, z31, e0, e2, rfl, e6, e7, rfl, (chk_rng h30), (chk_rng h32), hC.sel [1] (by decide), lN hl0⟩
 replace hb := tf hq15 hb
 refine Wc.exit rfl ?_
 obtain rfl := os hb
 obtain rfl := (lX hl0).symm
 exact hK7 _ _ ⟨v3_0, v8_0, e0, e2, e3, hrv3_0, hrv8_0, hC.sel [0] (by decide), hbK0⟩
 clear hb hC hl0
 rintro E34 w33 ⟨v3_0, v8_0, e0, e2, e3, hrv3_0, hrv8_0, hC, hb⟩
 refine hK4 _ _ ?_
 refine Wc.seq fun K35 hK35 => ?_
 refine rg ?_
 refine lp (.slice Al_0 l_0.length cl_0) (pu_move e0) ?_
 refine lp (.int .i64 (l_0.length : Int)) (pu_len (A := Al_0) (n := l_0.length) (m := cl_0) Try.underlying28 rfl) ?_
 refine lp (.bool (decide ((l_0.length : Int) ≤ 24))) (pu_leq (k := .i64) (a := (l_0.length : Int)) (b := 24) rfl rfl) ?_
 refine lp (.bool (decide ((l_0.length : Int) ≤ 24))) (pu_move rfl) ?_
 rcases bS (decide ((l_0.length : Int) ≤ 24)) with hq36 | hq36
 replace hb := tt hq36 hb
 refine gp rfl rfl (decide ((l_0.length : Int) ≤ 24)) rfl hq36 (.int .i64 v3_0) (pu_move e3) ?_
 refine gp rfl rfl (decide ((l_0.length : Int) ≤ 24)) rfl hq36 (.bool (decide (v3_0 ≤ 24))) (pu_leq (k := .i64) (a := v3_0) (b := 24) rfl rfl) ?_
 refine lp (.bool (decide (v3_0 ≤ 24))) (pu_pickT (q := (decide ((l_0.length : Int) ≤ 24))) rfl hq36 rfl) ?_
 refine lp (.bool (decide (v3_0 ≤ 24))) (pu_assign rfl) ?_
 refine ln ?_
 refine hK35 _ _ ?_
 obtain rfl := os hb
 refine Wc.ret ?_
 refine hKR _ _ ?_
 refine ⟨_, res1 Try.results14 (show RV _ _ _ (.tmp _) (.bool (decide (v3_0 ≤ 24))) from rfl), _, rfl, rfl, hC.sel [] (by decide)⟩
 replace hb := tf hq36 hb
 refine gs rfl rfl (decide ((l_0.length : Int) ≤ 24)) rfl hq36 ?_
 refine gs rfl rfl (decide ((l_0.length : Int) ≤ 24)) rfl hq36 ?_
 refine lp (.bool false) (pu_pickF (q := (decide ((l_0.length : Int) ≤ 24))) rfl hq36 rfl) ?_
 refine lp (.bool false) (pu_assign rfl) ?_
 refine ln ?_
 refine hK35 _ _ ?_
 obtain rfl := os hb
 refine Wc.ret ?_
 refine hKR _ _ ?_
 refine ⟨_, res1 Try.results14 (show RV _ _ _ (.tmp _) (.bool false) from rfl), _, rfl, rfl, hC.sel [] (by decide)⟩
end Go.Proofs.Yteajmbanlohncaa
