/- The walks: part 2. -/
import Derived.Test.YticemffhlapnnaaS
import Derived.Test.YticemffhlapnnaaG1
set_option linter.unusedVariables false
set_option linter.unusedSimpArgs false
namespace Go.Proofs.Yticemffhlapnnaa
open Ev
set_option maxRecDepth 100000 in
set_option maxHeartbeats 4000000 in
theorem gridlink_segments_ok (n : Nat) {w : World} {O0 : List Nat} (hO : ∀ k ∈ O0, k < w.heap.size) {Ag_0_0 : Option Addr} {mg_0_0 cg_0_0 : Nat} {g_0_0 : List Int} (hg_0_0 : Rep O0 w (.sl (.int .i64)) [.slice Ag_0_0 mg_0_0 cg_0_0] g_0_0) {Ag_0_1 : Option Addr} {mg_0_1 cg_0_1 : Nat} {g_0_1 : List Int} (hg_0_1 : Rep O0 w (.sl (.int .i64)) [.slice Ag_0_1 mg_0_1 cg_0_1] g_0_1) {Acrossings_1 : Option Addr} {mcrossings_1 ccrossings_1 : Nat} {crossings_1 : List (Int × Int)} (hcrossings_1 : Rep O0 w (.sl (.pr (.int .i64) (.int .i64))) [.slice Acrossings_1 mcrossings_1 ccrossings_1] crossings_1) {r : (List Int) × (List (List (Int × Int))) × (List (List (Int × Int)))} (hb : F.gridlink_segments n g_0_0 g_0_1 crossings_1 = some r) :
    Calls Try.prog 37 #[.agg #[.slice Ag_0_0 mg_0_0 cg_0_0, .slice Ag_0_1 mg_0_1 cg_0_1], .slice Acrossings_1 mcrossings_1 ccrossings_1] w fun e w' => ∃ v, e = .returned v ∧ ∃ (A0 : Option Addr) (m0 c0 : Nat) (A1 : Option Addr) (m1 c1 : Nat) (A2 : Option Addr) (m2 c2 : Nat), v = .tuple #[.slice A0 m0 c0, .slice A1 m1 c1, .slice A2 m2 c2] ∧ Cx (fun _ => False) O0 w w' [.own 3 (.int .i64) (.slice A0 m0 c0) r.1, .ro (.sl (.sl (.pr (.int .i64) (.int .i64)))) [.slice A1 m1 c1] r.2.1, .ro (.sl (.sl (.pr (.int .i64) (.int .i64)))) [.slice A2 m2 c2] r.2.2] := by
 unfold F.gridlink_segments at hb
 have hC := Cx.start hO
 replace hC := hC.arg rfl hg_0_0
 replace hC := hC.arg rfl hg_0_1
 replace hC := hC.arg rfl hcrossings_1
 clear hO
 obtain ⟨rfl, hlg_0_0, hcg_0_0⟩ := hg_0_0.sl_len
 obtain ⟨rfl, hlg_0_1, hcg_0_1⟩ := hg_0_1.sl_len
 obtain ⟨rfl, hlcrossings_1, hccrossings_1⟩ := hcrossings_1.sl_len
 replace hC := hC.noT
 refine calls_of_Wc Try.func37 rfl (by rw [Try.ntmps37]; exact Nat.le_of_ble_eq_true rfl) fun KR hKR => ?_
 refine Wc.seq fun K4 hK4 => ?_
 refine rg ?_
 replace hC : Cx _ O0 w _ ([.ro (.sl (.pr (.int .i64) (.int .i64))) [.slice Acrossings_1 crossings_1.length ccrossings_1] crossings_1, .ro (.sl (.int .i64)) [.slice Ag_0_1 g_0_1.length cg_0_1] g_0_1, .ro (.sl (.int .i64)) [.slice Ag_0_0 g_0_0.length cg_0_0] g_0_0] ++ ([] : List Fact)) := hC
 refine lex.op (hC.box (cs := [.slice Ag_0_0 g_0_0.length cg_0_0, .slice Ag_0_1 g_0_1.length cg_0_1]) rfl rfl) ?_
 rintro _ w6 ⟨g5, rfl, hC, hF, hG⟩
 clear hG
 replace hC : Cx _ O0 w _ ([.box g5 24 [.slice Ag_0_0 g_0_0.length cg_0_0, .slice Ag_0_1 g_0_1.length cg_0_1], _, _, _] ++ ([] : List Fact)) := hC
 refine lp (.slice none 0 0) (pu_assign rfl) ?_
 refine lp (.slice none 0 0) (pu_assign rfl) ?_
 refine lp (.slice none 0 0) (pu_assign rfl) ?_
 refine ln ?_
 refine hK4 _ _ ?_
 refine Wc.seq fun K8 hK8 => ?_
 refine rg ?_
 refine lp (.pointer (some ((⟨g5, 0, none⟩ : Addr).add 0))) (pu_field (sz := 1) Try.underlying24 rfl Try.sizeOf22 (by decide) rfl rfl) ?_
 refine lv (.slice Ag_0_0 g_0_0.length cg_0_0) (ld_fld (hC.bx (i := 0) rfl) Try.isAgg22 rfl rfl) ?_
 refine lp (.int .i64 (g_0_0.length : Int)) (pu_len (A := Ag_0_0) (n := g_0_0.length) (m := cg_0_0) Try.underlying22 rfl) ?_
 refine lp (.int .i64 (g_0_0.length : Int)) (pu_assign rfl) ?_
 refine ln ?_
 refine hK8 _ _ ?_
 refine Wc.seq fun K9 hK9 => ?_
 refine Wc.regionMix [] (frm [] ([] : List Fact) ([] : List Fact)) (fun _ => rfl) mixed (by decide +kernel) (by decide +kernel) fun w11 hw10 => ?_
 replace hC := hC.step (Fr.of_drew hw10)
 have hM := Fr.refl (fun k => k ∈ blocks ([] : List Fact)) w11
 clear hw10
 have hS := hC
 replace hC : Cx _ O0 w _ ([_, _, _, _] ++ ([] : List Fact)) := hC
 refine mp (.pointer (some ((⟨g5, 0, none⟩ : Addr).add 0))) (pu_field (sz := 1) Try.underlying24 rfl Try.sizeOf22 (by decide) rfl rfl) ?_
 refine mixE.load hM (v := .slice Ag_0_0 g_0_0.length cg_0_0) (fun _ hF => ld_fld (hS.bx2 (i := 0) rfl [] (by decide) hF) Try.isAgg22 rfl rfl) ?_
 obtain ⟨y12, h13, hb⟩ := bd hb
 refine mixE.cl hM (⟨_, _, op_call (vs := [.slice Ag_0_0 g_0_0.length cg_0_0]) Try.call38 rfl rfl rfl, gridlink_inverse_ok n hC.lt (hC.rd (i := 3) rfl) h13⟩) ?_
 rintro _ w18 ⟨A14, m15, c16, rfl, hK⟩
 have hBf17 := Beside.cl (i := 0) hM hK rfl
 replace hM := hM.none hK.fr
 refine ⟨hM, ?_⟩
 replace hC := hC.merge hK
 clear hK
 obtain ⟨rfl, hl19, hc20⟩ := (hC.ow (i := 0) rfl).sl_len
 replace hC : Cx _ O0 w _ ([.own 3 (.int .i64) (.slice A14 y12.length c16) y12, _, _, _, _] ++ ([] : List Fact)) := hC
 refine mp (.pointer (some ((⟨g5, 0, none⟩ : Addr).add 1))) (pu_field (sz := 1) Try.underlying24 rfl Try.sizeOf22 (by decide) rfl rfl) ?_
 refine mixE.load hM (v := .slice Ag_0_1 g_0_1.length cg_0_1) (fun _ hF => ld_fld (hS.bx2 (i := 0) rfl [] (by decide) hF) Try.isAgg22 rfl rfl) ?_
 obtain ⟨y21, h22, hb⟩ := bd hb
 refine mixE.cl hM (⟨_, _, op_call (vs := [.slice Ag_0_1 g_0_1.length cg_0_1]) Try.call38 rfl rfl rfl, gridlink_inverse_ok n hC.lt (hC.rd (i := 3) rfl) h22⟩) ?_
 rintro _ w27 ⟨A23, m24, c25, rfl, hK⟩
 have hBf26 := Beside.cl (i := 0) hM hK rfl
 replace hM := hM.none hK.fr
 refine ⟨hM, ?_⟩
 replace hC := hC.merge hK
 clear hK
 obtain ⟨rfl, hl28, hc29⟩ := (hC.ow (i := 0) rfl).sl_len
 replace hC : Cx _ O0 w _ ([.own 3 (.int .i64) (.slice A23 y21.length c25) y21, _, _, _, _, _] ++ ([] : List Fact)) := hC
 refine mp (.slice A14 y12.length c16) (pu_assign rfl) ?_
 refine mp (.slice A23 y21.length c25) (pu_assign rfl) ?_
 refine mixE.nil ?_
 clear hS hM
 refine hK9 _ _ ?_
 refine Wc.fresh fun E30 hE => ?_
 have e1 : E30 1 = .slice Acrossings_1 crossings_1.length ccrossings_1 := (congrFun hE 1).trans rfl
 have e2 : E30 2 = .pointer (some ⟨g5, 0, none⟩) := (congrFun hE 2).trans rfl
 have e4 : E30 4 = .slice none 0 0 := (congrFun hE 4).trans rfl
 have e5 : E30 5 = .slice none 0 0 := (congrFun hE 5).trans rfl
 have e6 : E30 6 = .slice none 0 0 := (congrFun hE 6).trans rfl
 have e7 : E30 7 = .int .i64 (g_0_0.length : Int) := (congrFun hE 7).trans rfl
 have e8 : E30 8 = .slice A14 y12.length c16 := (congrFun hE 8).trans rfl
 have e9 : E30 9 = .slice A23 y21.length c25 := (congrFun hE 9).trans rfl
 clear hE
 refine Wc.seq fun K31 hK31 => ?_
 refine Wc.regionPlan [] (frm [] ([] : List Fact) ([] : List Fact)) (chainP [0, 2] (.alt (chainP [1] (chainP [4, 3, 5] .done)) (chainP [3] (chainP [1, 4, 5] .done)))) (fun _ => rfl) mixed (by decide +kernel) (by decide +kernel) fun w33 hw32 => ?_
 replace hC := hC.step (Fr.of_drew hw32)
 have hM := Fr.refl (fun k => k ∈ blocks ([] : List Fact)) w33
 clear hw32
 have hS := hC
 refine mixPE_chain ?_
 replace hC : Cx _ O0 w _ ([_, _, _, _, _, _] ++ ([] : List Fact)) := hC
 refine mp (.int .i64 (g_0_0.length : Int)) (pu_move e7) ?_
 refine mp (.int .i64 (g_0_0.length : Int)) (pu_move e7) ?_
 refine mixE.nil ?_
 refine mixPE_alt ?_ ?_
 refine mixPE_chain ?_
 obtain ⟨u34, h35, hb⟩ := bd hb
 refine mixE.op hM (hC.make (s := .raw) (n := (g_0_0.length : Int)) Try.underlying51 Try.type56 rfl rfl rfl rfl rfl (pos_some h35).1 (pos_some h35).2 (by decide)) ?_
 rintro _ w40 ⟨A36, c37, rfl, hl38, hc39, hC, hF, hN⟩
 have hBf41 := Beside.new hM hN
 replace hM := hM.none hF
 refine ⟨hM, ?_⟩
 clear hF hN
 replace hC : Cx _ O0 w _ ([.own 56 .raw (.slice A36 (((List.replicate (g_0_0.length : Int).toNat (Value.slice none 0 0))).length) c37) (List.replicate (g_0_0.length : Int).toNat (Value.slice none 0 0)), _, _, _, _, _, _] ++ ([] : List Fact)) := hC
 replace hC := hC.nilRows 58 (.pr (.int .i64) (.int .i64)) (g_0_0.length : Int).toNat
 replace hC : Cx _ O0 w _ ([_, _, _, _, _, _, _] ++ (rowsF 58 (.pr (.int .i64) (.int .i64)) (List.replicate (g_0_0.length : Int).toNat (Value.slice none 0 0)) (List.replicate (g_0_0.length : Int).toNat ([] : List (Int × Int))) ++ ([] : List Fact))) := hC
 refine mixE.nil ?_
 refine mixPE_chain ?_
 refine mp (.slice A36 (((List.replicate (g_0_0.length : Int).toNat (Value.slice none 0 0))).length) c37) (pu_assign rfl) ?_
 obtain ⟨u42, h43, hb⟩ := bd hb
 refine mixE.op hM (hC.make (s := .raw) (n := (g_0_0.length : Int)) Try.underlying51 Try.type56 rfl rfl rfl rfl rfl (pos_some h43).1 (pos_some h43).2 (by decide)) ?_
 rintro _ w48 ⟨A44, c45, rfl, hl46, hc47, hC, hF, hN⟩
 have hBf49 := Beside.new hM hN
 replace hM := hM.none hF
 refine ⟨hM, ?_⟩
 clear hF hN
 replace hC : Cx _ O0 w _ ([.own 56 .raw (.slice A44 (((List.replicate (g_0_0.length : Int).toNat (Value.slice none 0 0))).length) c45) (List.replicate (g_0_0.length : Int).toNat (Value.slice none 0 0)), _, _, _, _, _, _, _] ++ (rowsF 58 (.pr (.int .i64) (.int .i64)) (List.replicate (g_0_0.length : Int).toNat (Value.slice none 0 0)) (List.replicate (g_0_0.length : Int).toNat ([] : List (Int × Int))) ++ ([] : List Fact))) := hC
 replace hC := hC.nilRows 58 (.pr (.int .i64) (.int .i64)) (g_0_0.length : Int).toNat
 replace hC : Cx _ O0 w _ ([_, _, _, _, _, _, _, _] ++ (rowsF 58 (.pr (.int .i64) (.int .i64)) (List.replicate (g_0_0.length : Int).toNat (Value.slice none 0 0)) (List.replicate (g_0_0.length : Int).toNat ([] : List (Int × Int))) ++ (rowsF 58 (.pr (.int .i64) (.int .i64)) (List.replicate (g_0_0.length : Int).toNat (Value.slice none 0 0)) (List.replicate (g_0_0.length : Int).toNat ([] : List (Int × Int))) ++ ([] : List Fact)))) := hC
 refine mp (.slice A44 (((List.replicate (g_0_0.length : Int).toNat (Value.slice none 0 0))).length) c45) (pu_assign rfl) ?_
 refine mixE.nil ?_
 clear hS hM
 refine hK31 _ _ ?_
 refine Wc.seq fun K50 hK50 => ?_
 refine Wc.seq fun K51 hK51 => ?_
 refine rg ?_
 refine lp (.slice Acrossings_1 crossings_1.length ccrossings_1) (pu_move e1) ?_
 refine lp (.int .i64 (crossings_1.length : Int)) (pu_len (A := Acrossings_1) (n := crossings_1.length) (m := ccrossings_1) Try.underlying33 rfl) ?_
 refine lp (.int .i64 0) (pu_move rfl) ?_
 refine ln ?_
 refine hK51 _ _ ?_
 replace hC := hC.nil 3 (.int .i64)
 obtain ⟨o53, hl0, hb⟩ := bd hb
 refine Wc.cut (fun E wv => ∃ (l4_0 : List Int) (v34_0 : Int) (qf41_0 : List (List (Int × Int))) (qf49_0 : List (List (Int × Int))) (Al4_0 : Option Addr) (ml4_0 cl4_0 : Nat) (hsqf41_0 : List Value) (hsqf49_0 : List Value), E 2 = .pointer (some ⟨g5, 0, none⟩) ∧ E 4 = .slice Al4_0 ml4_0 cl4_0 ∧ E 5 = .slice A36 (((List.replicate (g_0_0.length : Int).toNat (Value.slice none 0 0))).length) c37 ∧ E 6 = .slice A44 (((List.replicate (g_0_0.length : Int).toNat (Value.slice none 0 0))).length) c45 ∧ E 7 = .int .i64 (g_0_0.length : Int) ∧ E 8 = .slice A14 y12.length c16 ∧ E 9 = .slice A23 y21.length c25 ∧ I64 v34_0 ∧ hsqf41_0.length = qf41_0.length ∧ hsqf49_0.length = qf49_0.length ∧ Cx (fun _ => False) O0 w wv ([.box g5 24 [.slice Ag_0_0 g_0_0.length cg_0_0, .slice Ag_0_1 g_0_1.length cg_0_1], .ro (.sl (.int .i64)) [.slice Ag_0_0 g_0_0.length cg_0_0] g_0_0, .ro (.sl (.int .i64)) [.slice Ag_0_1 g_0_1.length cg_0_1] g_0_1, .own 3 (.int .i64) (.slice Al4_0 ml4_0 cl4_0) l4_0, .own 56 .raw (.slice A36 (((List.replicate (g_0_0.length : Int).toNat (Value.slice none 0 0))).length) c37) hsqf41_0, .own 56 .raw (.slice A44 (((List.replicate (g_0_0.length : Int).toNat (Value.slice none 0 0))).length) c45) hsqf49_0, .own 3 (.int .i64) (.slice A14 y12.length c16) y12, .own 3 (.int .i64) (.slice A23 y21.length c25) y21] ++ (rowsF 58 (.pr (.int .i64) (.int .i64)) hsqf49_0 qf49_0 ++ (rowsF 58 (.pr (.int .i64) (.int .i64)) hsqf41_0 qf41_0 ++ ([] : List Fact)))) ∧ (((loopN n (F.gridlink_segments_b2 n g_0_0 g_0_1 y12 y21) (0, qf41_0, qf49_0)).bind fun o253 => match o253 with     | (v111_2, qf41_2, qf49_2) => some (l4_0, qf41_2, qf49_2)) : Option ((List Int) × (List (List (Int × Int))) × (List (List (Int × Int))))) = some r) (fun K54 hK54 => ?_) ?_
 refine Wc.block ?_
 replace hC : Cx _ O0 w _ ([.own 3 (.int .i64) (.slice none 0 0) ([] : List Int), _, _, _, _, _, _, _, _] ++ (rowsF 58 (.pr (.int .i64) (.int .i64)) (List.replicate (g_0_0.length : Int).toNat (Value.slice none 0 0)) (List.replicate (g_0_0.length : Int).toNat ([] : List (Int × Int))) ++ (rowsF 58 (.pr (.int .i64) (.int .i64)) (List.replicate (g_0_0.length : Int).toNat (Value.slice none 0 0)) (List.replicate (g_0_0.length : Int).toNat ([] : List (Int × Int))) ++ ([] : List Fact)))) := hC
 refine Wc.loop (fun m E wv => ∃ (l4_0 : List Int) (v34_0 : Int) (qf41_0 : List (List (Int × Int))) (qf49_0 : List (List (Int × Int))) (Al4_0 : Option Addr) (ml4_0 cl4_0 : Nat) (hsqf41_0 : List Value) (hsqf49_0 : List Value), E 2 = .pointer (some ⟨g5, 0, none⟩) ∧ E 4 = .slice Al4_0 ml4_0 cl4_0 ∧ E 5 = .slice A36 (((List.replicate (g_0_0.length : Int).toNat (Value.slice none 0 0))).length) c37 ∧ E 6 = .slice A44 (((List.replicate (g_0_0.length : Int).toNat (Value.slice none 0 0))).length) c45 ∧ E 7 = .int .i64 (g_0_0.length : Int) ∧ E 8 = .slice A14 y12.length c16 ∧ E 9 = .slice A23 y21.length c25 ∧ E 32 = .slice Acrossings_1 crossings_1.length ccrossings_1 ∧ E 33 = .int .i64 (crossings_1.length : Int) ∧ E 34 = .int .i64 v34_0 ∧ I64 v34_0 ∧ hsqf41_0.length = qf41_0.length ∧ hsqf49_0.length = qf49_0.length ∧ Cx (fun _ => False) O0 w wv ([.box g5 24 [.slice Ag_0_0 g_0_0.length cg_0_0, .slice Ag_0_1 g_0_1.length cg_0_1], .ro (.sl (.int .i64)) [.slice Ag_0_0 g_0_0.length cg_0_0] g_0_0, .ro (.sl (.int .i64)) [.slice Ag_0_1 g_0_1.length cg_0_1] g_0_1, .own 3 (.int .i64) (.slice Al4_0 ml4_0 cl4_0) l4_0, .own 56 .raw (.slice A36 (((List.replicate (g_0_0.length : Int).toNat (Value.slice none 0 0))).length) c37) hsqf41_0, .own 56 .raw (.slice A44 (((List.replicate (g_0_0.length : Int).toNat (Value.slice none 0 0))).length) c45) hsqf49_0, .own 3 (.int .i64) (.slice A14 y12.length c16) y12, .own 3 (.int .i64) (.slice A23 y21.length c25) y21, .ro (.sl (.pr (.int .i64) (.int .i64))) [.slice Acrossings_1 crossings_1.length ccrossings_1] crossings_1] ++ (rowsF 58 (.pr (.int .i64) (.int .i64)) hsqf49_0 qf49_0 ++ (rowsF 58 (.pr (.int .i64) (.int .i64)) hsqf41_0 qf41_0 ++ ([] : List Fact)))) ∧ loopN m (F.gridlink_segments_b0 n g_0_0 g_0_1 crossings_1 y12 y21) (l4_0, v34_0, qf41_0, qf49_0) = some o53) n ⟨([] : List Int), 0, (List.replicate (g_0_0.length : Int).toNat ([] : List (Int × Int))), (List.replicate (g_0_0.length : Int).toNat ([] : List (Int × Int))), none, 0, 0, (List.replicate (g_0_0.length : Int).toNat (Value.slice none 0 0)), (List.replicate (g_0_0.length : Int).toNat (Value.slice none 0 0)), e2, e4, rfl, rfl, e7, e8, e9, rfl, rfl, rfl, (show I64 0 from by unfold I64; omega), (nilRows_len (g_0_0.length : Int).toNat (s := (.pr (.int .i64) (.int .i64)))), (nilRows_len (g_0_0.length : Int).toNat (s := (.pr (.int .i64) (.int .i64)))), hC.selT [5, 8, 7, 0, 2, 1, 4, 3, 6] (by decide), hl0⟩ ?_
 have hbK0 := hb
 clear hb hC hl0
 rintro m56 E58 w57 ⟨l4_0, v34_0, qf41_0, qf49_0, Al4_0, ml4_0, cl4_0, hsqf41_0, hsqf49_0, e2, e4, e5, e6, e7, e8, e9, e32, e33, e34, hrv34_0, hNqf41_0, hNqf49_0, hC, hl0⟩ K55 hK55
 obtain ⟨m56', o59, rfl, hb, hl0⟩ := loopN_some hl0
 unfold F.gridlink_segments_b0 at hb
 obtain ⟨rfl, hll4_0, hcl4_0⟩ := (hC.ow (i := 3) rfl).sl_len
 refine Wc.seq fun K60 hK60 => ?_
 refine rg ?_
 replace hC : Cx _ O0 w _ ([_, _, _, .own 3 (.int .i64) (.slice Al4_0 l4_0.length cl4_0) l4_0, .own 56 .raw (.slice A36 (((List.replicate (g_0_0.length : Int).toNat (Value.slice none 0 0))).length) c37) hsqf41_0, .own 56 .raw (.slice A44 (((List.replicate (g_0_0.length : Int).toNat (Value.slice none 0 0))).length) c45) hsqf49_0, _, _, _] ++ (rowsF 58 (.pr (.int .i64) (.int .i64)) hsqf49_0 qf49_0 ++ (rowsF 58 (.pr (.int .i64) (.int .i64)) hsqf41_0 qf41_0 ++ ([] : List Fact)))) := hC
 refine lp (.bool (decide (v34_0 < (crossings_1.length : Int)))) (pu_lss (k := .i64) (a := v34_0) (b := (crossings_1.length : Int)) e34 e33) ?_
 refine ln ?_
 refine hK60 _ _ ?_
 refine Wc.seq fun K61 hK61 => ?_
 refine Wc.cond (t := (decide (v34_0 < (crossings_1.length : Int)))) (rfl) (fun hq62 => ?_) (fun hq62 => ?_)
 replace hb := tt hq62 hb
 refine Wc.skip ?_
 refine hK61 _ _ ?_
 refine Wc.seq fun K63 hK63 => ?_
 refine Wc.block ?_
 refine Wc.seq fun K64 hK64 => ?_
 refine rg ?_
 refine lp (.int .i64 v34_0) (pu_move e34) ?_
 obtain ⟨x65, h66, hb⟩ := bd hb
 obtain ⟨ad67, cs68, hA, hc69, hr70⟩ := hC.elr (i := 8) rfl (get_some h66).2
 subst hA
 refine lp (.pointer (some (ad67.add (v34_0.toNat * 2)))) (pu_index (a := v34_0) Try.underlying33 Try.sizeOf67 e32 e34 (get_some h66).1) ?_
 replace hC : Cx _ O0 w _ ([_, _, _, _, _, _, _, _, .ro (.sl (.pr (.int .i64) (.int .i64))) [.slice (some ad67) crossings_1.length ccrossings_1] crossings_1] ++ (rowsF 58 (.pr (.int .i64) (.int .i64)) hsqf49_0 qf49_0 ++ (rowsF 58 (.pr (.int .i64) (.int .i64)) hsqf41_0 qf41_0 ++ ([] : List Fact)))) := hC
 obtain ⟨k71, k72, rfl, hr73, hr74⟩ := hr70
 obtain ⟨rfl, hr73⟩ := hr73
 obtain ⟨rfl, hr74⟩ := hr74
 refine lv (.agg #[.int .i64 x65.1, .int .i64 x65.2]) (ld_agg Try.isAgg67 Try.sizeOf67 rfl rfl hc69) ?_
 refine lex.op (hC.alloc (cs := [.int .i64 0, .int .i64 0]) Try.zeroValue67 rfl) ?_
 rintro _ w76 ⟨g75, rfl, hC, hF, hG⟩
 clear hG
 replace hC : Cx _ O0 w _ ([.box g75 67 [.int .i64 0, .int .i64 0], _, _, _, _, _, _, _, _, _] ++ (rowsF 58 (.pr (.int .i64) (.int .i64)) hsqf49_0 qf49_0 ++ (rowsF 58 (.pr (.int .i64) (.int .i64)) hsqf41_0 qf41_0 ++ ([] : List Fact)))) := hC
 refine lp (.int .i64 v34_0) (pu_assign rfl) ?_
 refine lex.sk (hC.seta (i := 0) (ds := [.int .i64 x65.1, .int .i64 x65.2]) rfl Try.type67 rfl rfl rfl rfl rfl) ?_
 rintro w78 ⟨hC, hF⟩
 refine ln ?_
 refine hK64 _ _ ?_
 refine Wc.seq fun K79 hK79 => ?_
 refine Wc.regionMix [] (frm [] ([] : List Fact) ([] : List Fact)) (fun _ => rfl) mixed (by decide +kernel) (by decide +kernel) fun w81 hw80 => ?_
 replace hC := hC.step (Fr.of_drew hw80)
 have hM := Fr.refl (fun k => k ∈ blocks ([] : List Fact)) w81
 clear hw80
 have hS := hC
 replace hC : Cx _ O0 w _ ([.box g75 67 [.int .i64 x65.1, .int .i64 x65.2], _, _, _, _, _, _, _, _, _] ++ (rowsF 58 (.pr (.int .i64) (.int .i64)) hsqf49_0 qf49_0 ++ (rowsF 58 (.pr (.int .i64) (.int .i64)) hsqf41_0 qf41_0 ++ ([] : List Fact)))) := hC
 refine mp (.pointer (some ((⟨g75, 0, none⟩ : Addr).add 0))) (pu_ixa (A := ⟨g75, 0, none⟩) (a := 0) (sz := 1) Try.underlying67 Try.sizeOf3 rfl rfl (by decide)) ?_
 refine mixE.load hM (v := .int .i64 x65.1) (fun _ hF => ld_fld (hS.bx2 (i := 0) rfl [] (by decide) hF) Try.isAgg3 rfl rfl) ?_
 refine mp (.pointer (some ((⟨g75, 0, none⟩ : Addr).add 1))) (pu_ixa (A := ⟨g75, 0, none⟩) (a := 1) (sz := 1) Try.underlying67 Try.sizeOf3 rfl rfl (by decide)) ?_
 refine mixE.load hM (v := .int .i64 x65.2) (fun _ hF => ld_fld (hS.bx2 (i := 0) rfl [] (by decide) hF) Try.isAgg3 rfl rfl) ?_
 refine mp (.int .i64 x65.1) (pu_assign rfl) ?_
 refine mp (.int .i64 x65.2) (pu_assign rfl) ?_
 refine mixE.nil ?_
 clear hS hM
 refine hK79 _ _ ?_
 refine Wc.fresh fun E82 hE => ?_
 have e2 := (congrFun hE 2).trans e2
 have e4 := (congrFun hE 4).trans e4
 have e5 := (congrFun hE 5).trans e5
 have e6 := (congrFun hE 6).trans e6
 have e7 := (congrFun hE 7).trans e7
 have e8 := (congrFun hE 8).trans e8
 have e9 := (congrFun hE 9).trans e9
 have e10 : E82 10 = .int .i64 v34_0 := (congrFun hE 10).trans rfl
 have e11 : E82 11 = .pointer (some ⟨g75, 0, none⟩) := (congrFun hE 11).trans rfl
 have e12 : E82 12 = .int .i64 x65.1 := (congrFun hE 12).trans rfl
 have e13 : E82 13 = .int .i64 x65.2 := (congrFun hE 13).trans rfl
 have e32 := (congrFun hE 32).trans e32
 have e33 := (congrFun hE 33).trans e33
 have e34 := (congrFun hE 34).trans e34
 have e35 : E82 35 = .bool (decide (v34_0 < (crossings_1.length : Int))) := (congrFun hE 35).trans rfl
 clear hE
 refine Wc.seq fun K83 hK83 => ?_
 refine Wc.regionMix [] (frm [] ([] : List Fact) ([] : List Fact)) (fun _ => rfl) mixed (by decide +kernel) (by decide +kernel) fun w85 hw84 => ?_
 replace hC := hC.step (Fr.of_drew hw84)
 have hM := Fr.refl (fun k => k ∈ blocks ([] : List Fact)) w85
 clear hw84
 have hS := hC
 replace hC : Cx _ O0 w _ ([_, _, _, _, _, _, _, _, _, _] ++ (rowsF 58 (.pr (.int .i64) (.int .i64)) hsqf49_0 qf49_0 ++ (rowsF 58 (.pr (.int .i64) (.int .i64)) hsqf41_0 qf41_0 ++ ([] : List Fact)))) := hC
 refine mp (.pointer (some ((⟨g5, 0, none⟩ : Addr).add 0))) (pu_field (sz := 1) Try.underlying24 rfl Try.sizeOf22 (by decide) rfl e2) ?_
 refine mixE.load hM (v := .slice Ag_0_0 g_0_0.length cg_0_0) (fun _ hF => ld_fld (hS.bx2 (i := 1) rfl [] (by decide) hF) Try.isAgg22 rfl rfl) ?_
 refine mp (.int .i64 x65.1) (pu_move e12) ?_
 obtain ⟨x86, h87, hb⟩ := bd hb
 obtain ⟨ad88, cs89, hA, ho92, hc90, hr91⟩ := hS.elr2 (i := 2) rfl (get_some h87).2 []
 subst hA
 refine mp (.pointer (some (ad88.add (x65.1.toNat * 1)))) (pu_index (a := x65.1) Try.underlying22 Try.sizeOf3 rfl rfl (get_some h87).1) ?_
 replace hC : Cx _ O0 w _ ([_, .box g5 24 [.slice (some ad88) g_0_0.length cg_0_0, .slice Ag_0_1 g_0_1.length cg_0_1], .ro (.sl (.int .i64)) [.slice (some ad88) g_0_0.length cg_0_0] g_0_0, _, _, _, _, _, _, _] ++ (rowsF 58 (.pr (.int .i64) (.int .i64)) hsqf49_0 qf49_0 ++ (rowsF 58 (.pr (.int .i64) (.int .i64)) hsqf41_0 qf41_0 ++ ([] : List Fact)))) := hC
 obtain ⟨rfl, hr91'⟩ := hr91
 refine mixE.load hM (v := .int .i64 x86) (fun _ hF => ld_one Try.isAgg3 rfl (hF.cell (hc90 0 _ rfl) (off1 ho92))) ?_
 refine mp (.pointer (some ((⟨g5, 0, none⟩ : Addr).add 1))) (pu_field (sz := 1) Try.underlying24 rfl Try.sizeOf22 (by decide) rfl e2) ?_
 refine mixE.load hM (v := .slice Ag_0_1 g_0_1.length cg_0_1) (fun _ hF => ld_fld (hS.bx2 (i := 1) rfl [] (by decide) hF) Try.isAgg22 rfl rfl) ?_
 refine mp (.int .i64 x65.1) (pu_move e12) ?_
 obtain ⟨x93, h94, hb⟩ := bd hb
 obtain ⟨ad95, cs96, hA, ho99, hc97, hr98⟩ := hS.elr2 (i := 3) rfl (get_some h94).2 []
 subst hA
 refine mp (.pointer (some (ad95.add (x65.1.toNat * 1)))) (pu_index (a := x65.1) Try.underlying22 Try.sizeOf3 rfl rfl (get_some h94).1) ?_
 replace hC : Cx _ O0 w _ ([_, .box g5 24 [.slice (some ad88) g_0_0.length cg_0_0, .slice (some ad95) g_0_1.length cg_0_1], _, .ro (.sl (.int .i64)) [.slice (some ad95) g_0_1.length cg_0_1] g_0_1, _, _, _, _, _, _] ++ (rowsF 58 (.pr (.int .i64) (.int .i64)) hsqf49_0 qf49_0 ++ (rowsF 58 (.pr (.int .i64) (.int .i64)) hsqf41_0 qf41_0 ++ ([] : List Fact)))) := hC
 obtain ⟨rfl, hr98'⟩ := hr98
 refine mixE.load hM (v := .int .i64 x93) (fun _ hF => ld_one Try.isAgg3 rfl (hF.cell (hc97 0 _ rfl) (off1 ho99))) ?_
 refine mp (.bool (decide (x86 < x93))) (pu_lss (k := .i64) (a := x86) (b := x93) rfl rfl) ?_
 refine mp (.slice A23 y21.length c25) (pu_move e9) ?_
 refine mp (.int .i64 x65.2) (pu_move e13) ?_
 obtain ⟨x100, h101, hb⟩ := bd hb
 obtain ⟨ad102, cs103, hA, ho106, hc104, hr105⟩ := hS.elo2 (i := 8) rfl (get_some h101).2 [] (by decide)
 subst hA
 refine mp (.pointer (some (ad102.add (x65.2.toNat * 1)))) (pu_index (a := x65.2) Try.underlying22 Try.sizeOf3 rfl rfl (get_some h101).1) ?_
 replace hC : Cx _ O0 w _ ([_, _, _, _, _, _, _, _, .own 3 (.int .i64) (.slice (some ad102) y21.length c25) y21, _] ++ (rowsF 58 (.pr (.int .i64) (.int .i64)) hsqf49_0 qf49_0 ++ (rowsF 58 (.pr (.int .i64) (.int .i64)) hsqf41_0 qf41_0 ++ ([] : List Fact)))) := hC
 obtain ⟨rfl, hr105'⟩ := hr105
 refine mixE.load hM (v := .int .i64 x100) (fun _ hF => ld_one Try.isAgg3 rfl (hF.cell (hc104 0 _ rfl) (off1 ho106))) ?_
 refine mp (.slice A14 y12.length c16) (pu_move e8) ?_
 refine mp (.int .i64 x65.2) (pu_move e13) ?_
 obtain ⟨x107, h108, hb⟩ := bd hb
 obtain ⟨ad109, cs110, hA, ho113, hc111, hr112⟩ := hS.elo2 (i := 7) rfl (get_some h108).2 [] (by decide)
 subst hA
 refine mp (.pointer (some (ad109.add (x65.2.toNat * 1)))) (pu_index (a := x65.2) Try.underlying22 Try.sizeOf3 rfl rfl (get_some h108).1) ?_
 replace hC : Cx _ O0 w _ ([_, _, _, _, _, _, _, .own 3 (.int .i64) (.slice (some ad109) y12.length c16) y12, _, _] ++ (rowsF 58 (.pr (.int .i64) (.int .i64)) hsqf49_0 qf49_0 ++ (rowsF 58 (.pr (.int .i64) (.int .i64)) hsqf41_0 qf41_0 ++ ([] : List Fact)))) := hC
 obtain ⟨rfl, hr112'⟩ := hr112
 refine mixE.load hM (v := .int .i64 x107) (fun _ hF => ld_one Try.isAgg3 rfl (hF.cell (hc111 0 _ rfl) (off1 ho113))) ?_
 refine mp (.bool (decide (x100 < x107))) (pu_lss (k := .i64) (a := x100) (b := x107) rfl rfl) ?_
 refine mp (.bool (decide (x86 < x93))) (pu_assign rfl) ?_
 refine mp (.bool (decide (x100 < x107))) (pu_assign rfl) ?_
 refine mixE.nil ?_
 clear hS hM
 refine hK83 _ _ ?_
 refine Wc.fresh fun E114 hE => ?_
 have e2 := (congrFun hE 2).trans e2
 have e4 := (congrFun hE 4).trans e4
 have e5 := (congrFun hE 5).trans e5
 have e6 := (congrFun hE 6).trans e6
 have e7 := (congrFun hE 7).trans e7
 have e8 := (congrFun hE 8).trans e8
 have e9 := (congrFun hE 9).trans e9
 have e10 := (congrFun hE 10).trans e10
 have e11 := (congrFun hE 11).trans e11
 have e12 := (congrFun hE 12).trans e12
 have e13 := (congrFun hE 13).trans e13
 have e14 : E114 14 = .bool (decide (x86 < x93)) := (congrFun hE 14).trans rfl
 have e15 : E114 15 = .bool (decide (x100 < x107)) := (congrFun hE 15).trans rfl
 have e32 := (congrFun hE 32).trans e32
 have e33 := (congrFun hE 33).trans e33
 have e34 := (congrFun hE 34).trans e34
 have e35 := (congrFun hE 35).trans e35
 clear hE
 refine Wc.seq fun K115 hK115 => ?_
 refine rg ?_
 refine lp (.int .i64 v34_0) (pu_move e10) ?_
 obtain ⟨z116, h117, hb⟩ := bd hb
 refine lp (.int .i64 z116) (pu_mulc (a := 4) (b := v34_0) rfl rfl h117) ?_
 obtain ⟨z118, h119, hb⟩ := bd hb
 refine lp (.int .i64 z118) (pu_addc (a := z116) (b := 1) rfl rfl h119) ?_
 refine lp (.int .i64 v34_0) (pu_move e10) ?_
 obtain ⟨z120, h121, hb⟩ := bd hb
 refine lp (.int .i64 z120) (pu_mulc (a := 4) (b := v34_0) rfl rfl h121) ?_
 obtain ⟨z122, h123, hb⟩ := bd hb
 refine lp (.int .i64 z122) (pu_addc (a := z120) (b := 3) rfl rfl h123) ?_
 refine lp (.agg #[.int .i64 z118, .int .i64 z122]) (pu_builds (places := [(0, 1), (1, 1)]) (pv := [(0, .int .i64 z118), (1, .int .i64 z122)]) Try.type58 Try.underlying58 rfl (mp_cons Try.type3 (mp_cons Try.type3 mp_nil rfl rfl) rfl rfl) rfl (by simp [Instr.fill, Value.cells])) ?_
 refine lex.op (hC.alloc (cs := [.int .i64 0, .int .i64 0]) Try.zeroValue58 rfl) ?_
 rintro _ w125 ⟨g124, rfl, hC, hF, hG⟩
 clear hG
 replace hC : Cx _ O0 w _ ([.box g124 58 [.int .i64 0, .int .i64 0], _, _, _, _, _, _, _, _, _, _] ++ (rowsF 58 (.pr (.int .i64) (.int .i64)) hsqf49_0 qf49_0 ++ (rowsF 58 (.pr (.int .i64) (.int .i64)) hsqf41_0 qf41_0 ++ ([] : List Fact)))) := hC
 refine lp (.int .i64 (-1)) (pu_assign rfl) ?_
 refine lex.sk (hC.seta (i := 0) (ds := [.int .i64 z118, .int .i64 z122]) rfl Try.type58 rfl rfl rfl rfl rfl) ?_
 rintro w127 ⟨hC, hF⟩
 refine ln ?_
 refine hK115 _ _ ?_
 refine Wc.seqJ (fun E wv => ∃ (v16_1 : Int) (v72_1 : Bool) (bf126_0_1 : Int) (bf126_1_1 : Int), E 2 = .pointer (some ⟨g5, 0, none⟩) ∧ E 4 = .slice Al4_0 l4_0.length cl4_0 ∧ E 5 = .slice A36 (((List.replicate (g_0_0.length : Int).toNat (Value.slice none 0 0))).length) c37 ∧ E 6 = .slice A44 (((List.replicate (g_0_0.length : Int).toNat (Value.slice none 0 0))).length) c45 ∧ E 7 = .int .i64 (g_0_0.length : Int) ∧ E 8 = .slice (some ad109) y12.length c16 ∧ E 9 = .slice (some ad102) y21.length c25 ∧ E 10 = .int .i64 v34_0 ∧ E 11 = .pointer (some ⟨g75, 0, none⟩) ∧ E 12 = .int .i64 x65.1 ∧ E 13 = .int .i64 x65.2 ∧ E 14 = .bool (decide (x86 < x93)) ∧ E 15 = .bool (decide (x100 < x107)) ∧ E 16 = .int .i64 v16_1 ∧ E 17 = .pointer (some ⟨g124, 0, none⟩) ∧ E 32 = .slice (some ad67) crossings_1.length ccrossings_1 ∧ E 33 = .int .i64 (crossings_1.length : Int) ∧ E 34 = .int .i64 v34_0 ∧ E 35 = .bool (decide (v34_0 < (crossings_1.length : Int))) ∧ E 72 = .bool v72_1 ∧ I64 v16_1 ∧ I64 bf126_0_1 ∧ I64 bf126_1_1 ∧ Cx (fun _ => False) O0 w wv ([.box g5 24 [.slice (some ad88) g_0_0.length cg_0_0, .slice (some ad95) g_0_1.length cg_0_1], .ro (.sl (.int .i64)) [.slice (some ad88) g_0_0.length cg_0_0] g_0_0, .ro (.sl (.int .i64)) [.slice (some ad95) g_0_1.length cg_0_1] g_0_1, .own 3 (.int .i64) (.slice Al4_0 l4_0.length cl4_0) l4_0, .own 56 .raw (.slice A36 (((List.replicate (g_0_0.length : Int).toNat (Value.slice none 0 0))).length) c37) hsqf41_0, .own 56 .raw (.slice A44 (((List.replicate (g_0_0.length : Int).toNat (Value.slice none 0 0))).length) c45) hsqf49_0, .own 3 (.int .i64) (.slice (some ad109) y12.length c16) y12, .own 3 (.int .i64) (.slice (some ad102) y21.length c25) y21, .box g75 67 [.int .i64 x65.1, .int .i64 x65.2], .box g124 58 [.int .i64 bf126_0_1, .int .i64 bf126_1_1], .ro (.sl (.pr (.int .i64) (.int .i64))) [.slice (some ad67) crossings_1.length ccrossings_1] crossings_1] ++ (rowsF 58 (.pr (.int .i64) (.int .i64)) hsqf49_0 qf49_0 ++ (rowsF 58 (.pr (.int .i64) (.int .i64)) hsqf41_0 qf41_0 ++ ([] : List Fact)))) ∧ F.gridlink_segments_j1 n l4_0 v34_0 qf41_0 qf49_0 x65 v16_1 v72_1 bf126_0_1 bf126_1_1 = some o59) (fun K128 hK128 => ?_) ?_
 refine Wc.seq fun K129 hK129 => ?_
 refine rg ?_
 replace hC : Cx _ O0 w _ ([.box g124 58 [.int .i64 z118, .int .i64 z122], _, _, _, _, _, _, _, _, _, _] ++ (rowsF 58 (.pr (.int .i64) (.int .i64)) hsqf49_0 qf49_0 ++ (rowsF 58 (.pr (.int .i64) (.int .i64)) hsqf41_0 qf41_0 ++ ([] : List Fact)))) := hC
 refine lp (.bool (decide (x86 < x93))) (pu_move e14) ?_
 refine lp (.bool (decide (x100 < x107))) (pu_move e15) ?_
 refine lp (.bool (!((decide (x86 < x93)) == (decide (x100 < x107))))) (pu_neqb (p := (decide (x86 < x93))) (q := (decide (x100 < x107))) Try.underlying4 rfl rfl) ?_
 refine ln ?_
 refine hK129 _ _ ?_
 refine Wc.fresh fun E130 hE => ?_
 have e2 := (congrFun hE 2).trans e2
 have e4 := (congrFun hE 4).trans e4
 have e5 := (congrFun hE 5).trans e5
 have e6 := (congrFun hE 6).trans e6
 have e7 := (congrFun hE 7).trans e7
 have e8 := (congrFun hE 8).trans e8
 have e9 := (congrFun hE 9).trans e9
 have e10 := (congrFun hE 10).trans e10
 have e11 := (congrFun hE 11).trans e11
 have e12 := (congrFun hE 12).trans e12
 have e13 := (congrFun hE 13).trans e13
 have e14 := (congrFun hE 14).trans e14
 have e15 := (congrFun hE 15).trans e15
 have e16 : E130 16 = .int .i64 (-1) := (congrFun hE 16).trans rfl
 have e17 : E130 17 = .pointer (some ⟨g124, 0, none⟩) := (congrFun hE 17).trans rfl
 have e32 := (congrFun hE 32).trans e32
 have e33 := (congrFun hE 33).trans e33
 have e34 := (congrFun hE 34).trans e34
 have e35 := (congrFun hE 35).trans e35
 have e72 : E130 72 = .bool (!((decide (x86 < x93)) == (decide (x100 < x107)))) := (congrFun hE 72).trans rfl
 clear hE
 refine Wc.cond (t := (!((decide (x86 < x93)) == (decide (x100 < x107))))) (e72) (fun hq131 => ?_) (fun hq131 => ?_)
 replace hb := tt hq131 hb
 refine rg ?_
 refine lp (.int .i64 v34_0) (pu_move e10) ?_
 obtain ⟨z132, h133, hb⟩ := bd hb
 refine lp (.int .i64 z132) (pu_mulc (a := 4) (b := v34_0) rfl rfl h133) ?_
 obtain ⟨z134, h135, hb⟩ := bd hb
 refine lp (.int .i64 z134) (pu_addc (a := z132) (b := 3) rfl rfl h135) ?_
 refine lp (.int .i64 v34_0) (pu_move e10) ?_
 obtain ⟨z136, h137, hb⟩ := bd hb
 refine lp (.int .i64 z136) (pu_mulc (a := 4) (b := v34_0) rfl rfl h137) ?_
 obtain ⟨z138, h139, hb⟩ := bd hb
 refine lp (.int .i64 z138) (pu_addc (a := z136) (b := 1) rfl rfl h139) ?_
 refine lp (.agg #[.int .i64 z134, .int .i64 z138]) (pu_builds (places := [(0, 1), (1, 1)]) (pv := [(0, .int .i64 z134), (1, .int .i64 z138)]) Try.type58 Try.underlying58 rfl (mp_cons Try.type3 (mp_cons Try.type3 mp_nil rfl rfl) rfl rfl) rfl (by simp [Instr.fill, Value.cells])) ?_
 refine lp (.int .i64 1) (pu_assign rfl) ?_
 refine lex.sk (hC.seta (i := 0) (ds := [.int .i64 z134, .int .i64 z138]) rfl Try.type58 rfl rfl rfl e17 rfl) ?_
 rintro w140 ⟨hC, hF⟩
 refine ln ?_
 replace hC : Cx _ O0 w _ ([.box g124 58 [.int .i64 z134, .int .i64 z138], _, _, _, _, _, _, _, _, _, _] ++ (rowsF 58 (.pr (.int .i64) (.int .i64)) hsqf49_0 qf49_0 ++ (rowsF 58 (.pr (.int .i64) (.int .i64)) hsqf41_0 qf41_0 ++ ([] : List Fact)))) := hC
 exact hK128 _ _ ⟨1, (!((decide (x86 < x93)) == (decide (x100 < x107)))), z134, z138, e2, e4, e5, e6, e7, e8, e9, e10, e11, e12, e13, e14, e15, rfl, e17, e32, e33, e34, e35, e72, (show I64 1 from by unfold I64; omega), (chk_rng h135), (chk_rng h139), hC.selT [2, 3, 4, 5, 6, 7, 8, 9, 1, 0, 10] (by decide), hb⟩
 replace hb := tf hq131 hb
 refine Wc.skip ?_
 exact hK128 _ _ ⟨(-1), (!((decide (x86 < x93)) == (decide (x100 < x107)))), z118, z122, e2, e4, e5, e6, e7, e8, e9, e10, e11, e12, e13, e14, e15, e16, e17, e32, e33, e34, e35, e72, (show I64 (-1) from by unfold I64; omega), (chk_rng h119), (chk_rng h123), hC.selT [2, 3, 4, 5, 6, 7, 8, 9, 1, 0, 10] (by decide), hb⟩
 clear hb hC
 rintro E142 w141 ⟨v16_1, v72_1, bf126_0_1, bf126_1_1, e2, e4, e5, e6, e7, e8, e9, e10, e11, e12, e13, e14, e15, e16, e17, e32, e33, e34, e35, e72, hrv16_1, hrbf126_0_1, hrbf126_1_1, hC, hb⟩
 unfold F.gridlink_segments_j1 at hb
 refine Wc.seq fun K143 hK143 => ?_
 refine rg ?_
 replace hC : Cx _ O0 w _ ([_, _, _, _, _, _, _, _, _, .box g124 58 [.int .i64 bf126_0_1, .int .i64 bf126_1_1], _] ++ (rowsF 58 (.pr (.int .i64) (.int .i64)) hsqf49_0 qf49_0 ++ (rowsF 58 (.pr (.int .i64) (.int .i64)) hsqf41_0 qf41_0 ++ ([] : List Fact)))) := hC
 refine lp (.slice Al4_0 l4_0.length cl4_0) (pu_move e4) ?_
 refine lp (.int .i64 v16_1) (pu_move e16) ?_
 refine lex.op (hC.lit (s := (.int .i64)) (vs := [.int .i64 v16_1]) (xs := [v16_1]) Try.underlying22 Try.type3 rfl rfl (Nat.le_of_ble_eq_true rfl) rfl rfl (by simp [Value.cells, Sh.n]) rfl (show Elems _ _ (.int .i64) ([.int .i64 v16_1] ++ ([])) ([v16_1] : List Int) from Elems.cons (⟨rfl, I64.wr hrv16_1⟩) (Elems.nil _ _ _))) ?_
 rintro _ w148 ⟨A144, c145, rfl, hl146, hc147, hC, hF, hN⟩
 clear hF hN
 replace hC : Cx _ O0 w _ ([.own 3 (.int .i64) (.slice A144 ((([v16_1] : List Int)).length) c145) ([v16_1] : List Int), _, _, _, _, _, _, _, _, _, _, _] ++ (rowsF 58 (.pr (.int .i64) (.int .i64)) hsqf49_0 qf49_0 ++ (rowsF 58 (.pr (.int .i64) (.int .i64)) hsqf41_0 qf41_0 ++ ([] : List Fact)))) := hC
 obtain ⟨u150, h151, hb⟩ := bd hb
 refine lex.op (hC.app (i := 4) (s := (.int .i64)) (xs := l4_0) (ys := ([v16_1] : List Int)) (m := ((([v16_1] : List Int)).length)) rfl Try.underlying22 Try.underlying22 Try.type3 rfl rfl rfl (hC.srco (i := 0) rfl) rfl rfl (by have := lim_some h151; simp at this ⊢ <;> omega) (by decide)) ?_
 rintro _ w156 ⟨A152, c153, rfl, hl154, hc155, hC, hF, hN⟩
 clear hF hN
 replace hC : Cx _ O0 w _ ([_, _, _, _, .own 3 (.int .i64) (.slice A152 ((l4_0 ++ ([v16_1] : List Int)).length) c153) (l4_0 ++ ([v16_1] : List Int)), _, _, _, _, _, _, _] ++ (rowsF 58 (.pr (.int .i64) (.int .i64)) hsqf49_0 qf49_0 ++ (rowsF 58 (.pr (.int .i64) (.int .i64)) hsqf41_0 qf41_0 ++ ([] : List Fact)))) := hC
 refine lp (.slice A152 ((l4_0 ++ ([v16_1] : List Int)).length) c153) (pu_assign rfl) ?_
 refine ln ?_
 refine hK143 _ _ ?_
 refine Wc.seq fun K157 hK157 => ?_
 obtain ⟨x158, h159, hb⟩ := bd hb
 obtain ⟨v160, hv161, -⟩ := rowsF_get (e := 58) (s := (.pr (.int .i64) (.int .i64))) hNqf41_0 (get_some h159).2
 replace hC := hC.swapT
 replace hC : Cx _ O0 w _ ([_, _, _, _, _, _, _, _, _, _, _, _] ++ (rowsF 58 (.pr (.int .i64) (.int .i64)) hsqf41_0 qf41_0 ++ (rowsF 58 (.pr (.int .i64) (.int .i64)) hsqf49_0 qf49_0 ++ ([] : List Fact)))) := hC
 replace hC := Cx.takeRow hC hv161 (get_some h159).2
 obtain ⟨A162, c163, hvf166, hl164, hc165⟩ := (hC.ow (i := 0) rfl).form
 subst hvf166
 replace hC : Cx _ O0 w _ ([.own 58 (.pr (.int .i64) (.int .i64)) (.slice A162 x158.length c163) x158, _, _, _, _, _, _, _, _, _, _, _, _] ++ ((rowsF 58 (.pr (.int .i64) (.int .i64)) hsqf41_0 qf41_0).eraseIdx x65.1.toNat ++ (rowsF 58 (.pr (.int .i64) (.int .i64)) hsqf49_0 qf49_0 ++ ([] : List Fact)))) := hC
 refine Wc.regionMix [90] (frm [90] [.own 58 (.pr (.int .i64) (.int .i64)) (.slice A162 x158.length c163) x158] [.own 56 .raw (.slice A36 (((List.replicate (g_0_0.length : Int).toNat (Value.slice none 0 0))).length) c37) hsqf41_0]) (fun _ => rfl) mixed (by decide +kernel) (by decide +kernel) fun w169 hw168 => ?_
 replace hC := hC.step (Fr.of_drew hw168)
 have hM := Fr.refl (fun k => k ∈ blocks [.own 58 (.pr (.int .i64) (.int .i64)) (.slice A162 x158.length c163) x158]) w169
 clear hw168
 have hS := hC
 have hBf167 : Beside [.own 58 (.pr (.int .i64) (.int .i64)) (.slice A162 x158.length c163) x158] w169 (.slice A162 x158.length c163) := Beside.of (i := 0) rfl
 have hD : Fr (fun k => k ∈ blocks ([.own 58 (.pr (.int .i64) (.int .i64)) (.slice A162 x158.length c163) x158] ++ [.own 56 .raw (.slice A36 (((List.replicate (g_0_0.length : Int).toNat (Value.slice none 0 0))).length) c37) hsqf41_0])) w169 w169 := hM.wide
 have hUf167 : Beside ([.own 58 (.pr (.int .i64) (.int .i64)) (.slice A162 x158.length c163) x158] ++ [.own 56 .raw (.slice A36 (((List.replicate (g_0_0.length : Int).toNat (Value.slice none 0 0))).length) c37) hsqf41_0]) w169 (.slice A162 x158.length c163) := Beside.of (i := 0) rfl
 have hUf41 : Beside ([.own 58 (.pr (.int .i64) (.int .i64)) (.slice A162 x158.length c163) x158] ++ [.own 56 .raw (.slice A36 (((List.replicate (g_0_0.length : Int).toNat (Value.slice none 0 0))).length) c37) hsqf41_0]) w169 (.slice A36 (((List.replicate (g_0_0.length : Int).toNat (Value.slice none 0 0))).length) c37) := Beside.of (i := 1) rfl
 replace hC : Cx _ O0 w _ ([_, _, _, _, _, _, _, _, _, _, _, _, _] ++ ((rowsF 58 (.pr (.int .i64) (.int .i64)) hsqf41_0 qf41_0).eraseIdx x65.1.toNat ++ (rowsF 58 (.pr (.int .i64) (.int .i64)) hsqf49_0 qf49_0 ++ ([] : List Fact)))) := hC
 refine mp (.slice A36 (((List.replicate (g_0_0.length : Int).toNat (Value.slice none 0 0))).length) c37) (pu_move e5) ?_
 refine mp (.int .i64 x65.1) (pu_move e12) ?_
 refine mp (.slice A36 (((List.replicate (g_0_0.length : Int).toNat (Value.slice none 0 0))).length) c37) (pu_move e5) ?_
 refine mp (.int .i64 x65.1) (pu_move e12) ?_
 obtain ⟨x170, h171, hb⟩ := bd hb
 obtain ⟨v176, hv177, -⟩ := rowsF_get (e := 58) (s := (.pr (.int .i64) (.int .i64))) hNqf41_0 (get_some h171).2
 obtain ⟨ad172, cs173, hA, ho178, hc174, hr175⟩ := hS.elo2 (i := 6) rfl hv177 [0] (by decide)
 subst hA
 refine mp (.pointer (some (ad172.add (x65.1.toNat * 1)))) (pu_index (a := x65.1) Try.underlying51 Try.sizeOf56 rfl rfl (by rw [(hC.ow (i := 6) rfl).sl_len.1, hNqf41_0]; exact (get_some h171).1)) ?_
 replace hC : Cx _ O0 w _ ([_, _, _, _, _, _, .own 56 .raw (.slice (some ad172) (((List.replicate (g_0_0.length : Int).toNat (Value.slice none 0 0))).length) c37) hsqf41_0, _, _, _, _, _, _] ++ ((rowsF 58 (.pr (.int .i64) (.int .i64)) hsqf41_0 qf41_0).eraseIdx x65.1.toNat ++ (rowsF 58 (.pr (.int .i64) (.int .i64)) hsqf49_0 qf49_0 ++ ([] : List Fact)))) := hC
 obtain rfl := Option.some.inj (hv177.symm.trans hv161)
 obtain ⟨rfl, -⟩ := hr175
 refine mixE.load hM (v := .slice A162 x158.length c163) (fun _ hF => ld_one Try.isAgg56 rfl (hF.cell (hc174 0 _ rfl) (off1 ho178))) ?_
 refine mixE.steady hD (v := .agg #[.int .i64 bf126_0_1, .int .i64 bf126_1_1]) (fun _ hF => ld_blk (hS.bx2 (i := 11) rfl [0, 6] (by decide) hF) Try.isAgg58 Try.sizeOf58 e17) ?_
 refine mixE.op hM (hC.lit (s := (.pr (.int .i64) (.int .i64))) (vs := [.agg #[.int .i64 bf126_0_1, .int .i64 bf126_1_1]]) (xs := [(bf126_0_1, bf126_1_1)]) Try.underlying56 Try.type58 rfl rfl (Nat.le_of_ble_eq_true rfl) rfl rfl (by simp [Value.cells, Sh.n]) rfl (show Elems _ _ (.pr (.int .i64) (.int .i64)) ([.int .i64 bf126_0_1, .int .i64 bf126_1_1] ++ ([])) ([(bf126_0_1, bf126_1_1)] : List (Int × Int)) from Elems.cons (⟨[.int .i64 bf126_0_1], [.int .i64 bf126_1_1], rfl, ⟨rfl, I64.wr hrbf126_0_1⟩, ⟨rfl, I64.wr hrbf126_1_1⟩⟩) (Elems.nil _ _ _))) ?_
 rintro _ w183 ⟨A179, c180, rfl, hl181, hc182, hC, hF, hN⟩
 have hBf184 := Beside.new hM hN
 have hUf184 := Beside.new (hM.wide (H := [.own 56 .raw (.slice (some ad172) (((List.replicate (g_0_0.length : Int).toNat (Value.slice none 0 0))).length) c37) hsqf41_0])) hN
 replace hM := hM.none hF
 replace hD := hM.wide (H := [.own 56 .raw (.slice (some ad172) (((List.replicate (g_0_0.length : Int).toNat (Value.slice none 0 0))).length) c37) hsqf41_0])
 refine ⟨hM, ?_⟩
 clear hF hN
 replace hC : Cx _ O0 w _ ([.own 58 (.pr (.int .i64) (.int .i64)) (.slice A179 ((([(bf126_0_1, bf126_1_1)] : List (Int × Int))).length) c180) ([(bf126_0_1, bf126_1_1)] : List (Int × Int)), _, _, _, _, _, _, _, _, _, _, _, _, _] ++ ((rowsF 58 (.pr (.int .i64) (.int .i64)) hsqf41_0 qf41_0).eraseIdx x65.1.toNat ++ (rowsF 58 (.pr (.int .i64) (.int .i64)) hsqf49_0 qf49_0 ++ ([] : List Fact)))) := hC
 obtain ⟨u185, h186, hb⟩ := bd hb
 refine mixE.op hM (hC.app (i := 1) (s := (.pr (.int .i64) (.int .i64))) (xs := x158) (ys := ([(bf126_0_1, bf126_1_1)] : List (Int × Int))) (m := ((([(bf126_0_1, bf126_1_1)] : List (Int × Int))).length)) rfl Try.underlying56 Try.underlying56 Try.type58 rfl rfl rfl (hC.srco (i := 0) rfl) rfl rfl (by have := lim_some h186; simp at this ⊢ <;> omega) (by decide)) ?_
 rintro _ w191 ⟨A187, c188, rfl, hl189, hc190, hC, hF, hN⟩
 have hB := hBf167
 replace hBf167 := hB.app hM hN
 replace hM := hM.beside hB hF
 clear hB
 replace hD := hM.wide (H := [.own 56 .raw (.slice (some ad172) (((List.replicate (g_0_0.length : Int).toNat (Value.slice none 0 0))).length) c37) hsqf41_0])
 refine ⟨hM, ?_⟩
 clear hF hN
 replace hC : Cx _ O0 w _ ([_, .own 58 (.pr (.int .i64) (.int .i64)) (.slice A187 ((x158 ++ ([(bf126_0_1, bf126_1_1)] : List (Int × Int))).length) c188) (x158 ++ ([(bf126_0_1, bf126_1_1)] : List (Int × Int))), _, _, _, _, _, _, _, _, _, _, _, _] ++ ((rowsF 58 (.pr (.int .i64) (.int .i64)) hsqf41_0 qf41_0).eraseIdx x65.1.toNat ++ (rowsF 58 (.pr (.int .i64) (.int .i64)) hsqf49_0 qf49_0 ++ ([] : List Fact)))) := hC
 obtain ⟨x192, h193, hb⟩ := bd hb
 obtain ⟨v198, hv199, -⟩ := rowsF_get (e := 58) (s := (.pr (.int .i64) (.int .i64))) hNqf41_0 (get_some h193).2
 obtain ⟨ad194, cs195, hA, ho200, hc196, hr197⟩ := hS.elo2 (i := 6) rfl hv199 [0] (by decide)
 obtain rfl := Option.some.inj hA
 refine mp (.pointer (some (ad172.add (x65.1.toNat * 1)))) (pu_index (a := x65.1) Try.underlying51 Try.sizeOf56 rfl rfl (by rw [(hC.ow (i := 7) rfl).sl_len.1, hNqf41_0]; exact (get_some h193).1)) ?_
 refine mixE.sk hD (hC.put (i := 7) (s := .raw) rfl rfl Try.sizeOf56 (k := x65.1.toNat) (a := Value.slice A187 ((x158 ++ ([(bf126_0_1, bf126_1_1)] : List (Int × Int))).length) c188) (by rw [hNqf41_0]; exact (List.getElem?_eq_some_iff.1 (get_some h193).2).1) (show Rep _ _ .raw [Value.slice A187 ((x158 ++ ([(bf126_0_1, bf126_1_1)] : List (Int × Int))).length) c188] (Value.slice A187 ((x158 ++ ([(bf126_0_1, bf126_1_1)] : List (Int × Int))).length) c188) from ⟨rfl, rfl⟩) rfl rfl rfl) ?_
 rintro w201 ⟨hC, hF⟩
 replace hD := hD.beside hUf41 hF
 clear hF
 refine ⟨hD, ?_⟩
 replace hC : Cx _ O0 w _ ([_, _, _, _, _, _, _, .own 56 .raw (.slice (some ad172) (((List.replicate (g_0_0.length : Int).toNat (Value.slice none 0 0))).length) c37) (hsqf41_0.set x65.1.toNat (Value.slice A187 ((x158 ++ ([(bf126_0_1, bf126_1_1)] : List (Int × Int))).length) c188)), _, _, _, _, _, _] ++ ((rowsF 58 (.pr (.int .i64) (.int .i64)) hsqf41_0 qf41_0).eraseIdx x65.1.toNat ++ (rowsF 58 (.pr (.int .i64) (.int .i64)) hsqf49_0 qf49_0 ++ ([] : List Fact)))) := hC
 replace hC := hC.selT [1, 0, 2, 3, 4, 5, 6, 7, 8, 9, 10, 11, 12, 13] (by decide)
 replace hC := Cx.putRow hC hNqf41_0 (List.getElem?_eq_some_iff.1 (get_some h193).2).1
 have hN202 : (hsqf41_0.set x65.1.toNat (Value.slice A187 ((x158 ++ ([(bf126_0_1, bf126_1_1)] : List (Int × Int))).length) c188)).length = (qf41_0.set x65.1.toNat (x158 ++ ([(bf126_0_1, bf126_1_1)] : List (Int × Int)))).length := lenset hNqf41_0 _ _ _ _
 replace hC : Cx _ O0 w _ ([_, _, _, _, _, _, _, _, _, _, _, _, _] ++ (rowsF 58 (.pr (.int .i64) (.int .i64)) (hsqf41_0.set x65.1.toNat (Value.slice A187 ((x158 ++ ([(bf126_0_1, bf126_1_1)] : List (Int × Int))).length) c188)) (qf41_0.set x65.1.toNat (x158 ++ ([(bf126_0_1, bf126_1_1)] : List (Int × Int)))) ++ (rowsF 58 (.pr (.int .i64) (.int .i64)) hsqf49_0 qf49_0 ++ ([] : List Fact)))) := hC
 refine mixE.nil ?_
 clear hS hM
 clear hD
 refine hK157 _ _ ?_
 refine Wc.fresh fun E203 hE => ?_
 have e2 := (congrFun hE 2).trans e2
 have e4 : E203 4 = .slice A152 ((l4_0 ++ ([v16_1] : List Int)).length) c153 := (congrFun hE 4).trans rfl
 have e5 := (congrFun hE 5).trans e5
 have e6 := (congrFun hE 6).trans e6
 have e7 := (congrFun hE 7).trans e7
 have e8 := (congrFun hE 8).trans e8
 have e9 := (congrFun hE 9).trans e9
 have e10 := (congrFun hE 10).trans e10
 have e11 := (congrFun hE 11).trans e11
 have e12 := (congrFun hE 12).trans e12
 have e13 := (congrFun hE 13).trans e13
 have e14 := (congrFun hE 14).trans e14
 have e15 := (congrFun hE 15).trans e15
 have e16 := (congrFun hE 16).trans e16
 have e17 := (congrFun hE 17).trans e17
 have e32 := (congrFun hE 32).trans e32
 have e33 := (congrFun hE 33).trans e33
 have e34 := (congrFun hE 34).trans e34
 have e35 := (congrFun hE 35).trans e35
 have e72 := (congrFun hE 72).trans e72
 clear hE
 refine rg ?_
 refine lp (.slice A44 (((List.replicate (g_0_0.length : Int).toNat (Value.slice none 0 0))).length) c45) (pu_move e6) ?_
 refine lp (.int .i64 x65.2) (pu_move e13) ?_
 refine lp (.slice A44 (((List.replicate (g_0_0.length : Int).toNat (Value.slice none 0 0))).length) c45) (pu_move e6) ?_
 refine lp (.int .i64 x65.2) (pu_move e13) ?_
 obtain ⟨x204, h205, hb⟩ := bd hb
 obtain ⟨v210, hv211, -⟩ := rowsF_get (e := 58) (s := (.pr (.int .i64) (.int .i64))) hNqf49_0 (get_some h205).2
 obtain ⟨ad206, cs207, hA, hc208, hr209⟩ := hC.elo (i := 7) rfl hv211
 subst hA
 refine lp (.pointer (some (ad206.add (x65.2.toNat * 1)))) (pu_index (a := x65.2) Try.underlying51 Try.sizeOf56 rfl rfl (by rw [(hC.ow (i := 7) rfl).sl_len.1, hNqf49_0]; exact (get_some h205).1)) ?_
 replace hC : Cx _ O0 w _ ([_, _, _, _, _, _, _, .own 56 .raw (.slice (some ad206) (((List.replicate (g_0_0.length : Int).toNat (Value.slice none 0 0))).length) c45) hsqf49_0, _, _, _, _, _] ++ (rowsF 58 (.pr (.int .i64) (.int .i64)) (hsqf41_0.set x65.1.toNat (Value.slice A187 ((x158 ++ ([(bf126_0_1, bf126_1_1)] : List (Int × Int))).length) c188)) (qf41_0.set x65.1.toNat (x158 ++ ([(bf126_0_1, bf126_1_1)] : List (Int × Int)))) ++ (rowsF 58 (.pr (.int .i64) (.int .i64)) hsqf49_0 qf49_0 ++ ([] : List Fact)))) := hC
 replace hC := hC.swapT
 replace hC : Cx _ O0 w _ ([_, _, _, _, _, _, _, _, _, _, _, _, _] ++ (rowsF 58 (.pr (.int .i64) (.int .i64)) hsqf49_0 qf49_0 ++ (rowsF 58 (.pr (.int .i64) (.int .i64)) (hsqf41_0.set x65.1.toNat (Value.slice A187 ((x158 ++ ([(bf126_0_1, bf126_1_1)] : List (Int × Int))).length) c188)) (qf41_0.set x65.1.toNat (x158 ++ ([(bf126_0_1, bf126_1_1)] : List (Int × Int)))) ++ ([] : List Fact)))) := hC
 replace hC := Cx.takeRow hC hv211 (get_some h205).2
 obtain ⟨A212, c213, hvf216, hl214, hc215⟩ := (hC.ow (i := 0) rfl).form
 subst hvf216
 obtain ⟨rfl, -⟩ := hr209
 replace hC : Cx _ O0 w _ ([.own 58 (.pr (.int .i64) (.int .i64)) (.slice A212 x204.length c213) x204, _, _, _, _, _, _, _, _, _, _, _, _, _] ++ ((rowsF 58 (.pr (.int .i64) (.int .i64)) hsqf49_0 qf49_0).eraseIdx x65.2.toNat ++ (rowsF 58 (.pr (.int .i64) (.int .i64)) (hsqf41_0.set x65.1.toNat (Value.slice A187 ((x158 ++ ([(bf126_0_1, bf126_1_1)] : List (Int × Int))).length) c188)) (qf41_0.set x65.1.toNat (x158 ++ ([(bf126_0_1, bf126_1_1)] : List (Int × Int)))) ++ ([] : List Fact)))) := hC
 refine lv (.slice A212 x204.length c213) (ld_one Try.isAgg56 rfl (hc208 0 _ rfl)) ?_
 refine lp (.int .i64 v34_0) (pu_move e10) ?_
 obtain ⟨z218, h219, hb⟩ := bd hb
 refine lp (.int .i64 z218) (pu_mulc (a := 4) (b := v34_0) rfl rfl h219) ?_
 refine lp (.int .i64 v34_0) (pu_move e10) ?_
 obtain ⟨z220, h221, hb⟩ := bd hb
 refine lp (.int .i64 z220) (pu_mulc (a := 4) (b := v34_0) rfl rfl h221) ?_
 obtain ⟨z222, h223, hb⟩ := bd hb
 refine lp (.int .i64 z222) (pu_addc (a := z220) (b := 2) rfl rfl h223) ?_
 refine lp (.agg #[.int .i64 z218, .int .i64 z222]) (pu_builds (places := [(0, 1), (1, 1)]) (pv := [(0, .int .i64 z218), (1, .int .i64 z222)]) Try.type58 Try.underlying58 rfl (mp_cons Try.type3 (mp_cons Try.type3 mp_nil rfl rfl) rfl rfl) rfl (by simp [Instr.fill, Value.cells])) ?_
 refine lex.op (hC.lit (s := (.pr (.int .i64) (.int .i64))) (vs := [.agg #[.int .i64 z218, .int .i64 z222]]) (xs := [(z218, z222)]) Try.underlying56 Try.type58 rfl rfl (Nat.le_of_ble_eq_true rfl) rfl rfl (by simp [Value.cells, Sh.n]) rfl (show Elems _ _ (.pr (.int .i64) (.int .i64)) ([.int .i64 z218, .int .i64 z222] ++ ([])) ([(z218, z222)] : List (Int × Int)) from Elems.cons (⟨[.int .i64 z218], [.int .i64 z222], rfl, ⟨rfl, I64.wr (chk_rng h219)⟩, ⟨rfl, I64.wr (chk_rng h223)⟩⟩) (Elems.nil _ _ _))) ?_
 rintro _ w228 ⟨A224, c225, rfl, hl226, hc227, hC, hF, hN⟩
 clear hF hN
 replace hC : Cx _ O0 w _ ([.own 58 (.pr (.int .i64) (.int .i64)) (.slice A224 ((([(z218, z222)] : List (Int × Int))).length) c225) ([(z218, z222)] : List (Int × Int)), _, _, _, _, _, _, _, _, _, _, _, _, _, _] ++ ((rowsF 58 (.pr (.int .i64) (.int .i64)) hsqf49_0 qf49_0).eraseIdx x65.2.toNat ++ (rowsF 58 (.pr (.int .i64) (.int .i64)) (hsqf41_0.set x65.1.toNat (Value.slice A187 ((x158 ++ ([(bf126_0_1, bf126_1_1)] : List (Int × Int))).length) c188)) (qf41_0.set x65.1.toNat (x158 ++ ([(bf126_0_1, bf126_1_1)] : List (Int × Int)))) ++ ([] : List Fact)))) := hC
 obtain ⟨u230, h231, hb⟩ := bd hb
 refine lex.op (hC.app (i := 1) (s := (.pr (.int .i64) (.int .i64))) (xs := x204) (ys := ([(z218, z222)] : List (Int × Int))) (m := ((([(z218, z222)] : List (Int × Int))).length)) rfl Try.underlying56 Try.underlying56 Try.type58 rfl rfl rfl (hC.srco (i := 0) rfl) rfl rfl (by have := lim_some h231; simp at this ⊢ <;> omega) (by decide)) ?_
 rintro _ w236 ⟨A232, c233, rfl, hl234, hc235, hC, hF, hN⟩
 clear hF hN
 replace hC : Cx _ O0 w _ ([_, .own 58 (.pr (.int .i64) (.int .i64)) (.slice A232 ((x204 ++ ([(z218, z222)] : List (Int × Int))).length) c233) (x204 ++ ([(z218, z222)] : List (Int × Int))), _, _, _, _, _, _, _, _, _, _, _, _, _] ++ ((rowsF 58 (.pr (.int .i64) (.int .i64)) hsqf49_0 qf49_0).eraseIdx x65.2.toNat ++ (rowsF 58 (.pr (.int .i64) (.int .i64)) (hsqf41_0.set x65.1.toNat (Value.slice A187 ((x158 ++ ([(bf126_0_1, bf126_1_1)] : List (Int × Int))).length) c188)) (qf41_0.set x65.1.toNat (x158 ++ ([(bf126_0_1, bf126_1_1)] : List (Int × Int)))) ++ ([] : List Fact)))) := hC
 obtain ⟨x237, h238, hb⟩ := bd hb
 obtain ⟨v243, hv244, -⟩ := rowsF_get (e := 58) (s := (.pr (.int .i64) (.int .i64))) hNqf49_0 (get_some h238).2
 obtain ⟨ad239, cs240, hA, hc241, hr242⟩ := hC.elo (i := 9) rfl hv244
 obtain rfl := Option.some.inj hA
 refine lp (.pointer (some (ad206.add (x65.2.toNat * 1)))) (pu_index (a := x65.2) Try.underlying51 Try.sizeOf56 rfl rfl (by rw [(hC.ow (i := 9) rfl).sl_len.1, hNqf49_0]; exact (get_some h238).1)) ?_
 refine lex.sk (hC.put (i := 9) (s := .raw) rfl rfl Try.sizeOf56 (k := x65.2.toNat) (a := Value.slice A232 ((x204 ++ ([(z218, z222)] : List (Int × Int))).length) c233) (by rw [hNqf49_0]; exact (List.getElem?_eq_some_iff.1 (get_some h238).2).1) (show Rep _ _ .raw [Value.slice A232 ((x204 ++ ([(z218, z222)] : List (Int × Int))).length) c233] (Value.slice A232 ((x204 ++ ([(z218, z222)] : List (Int × Int))).length) c233) from ⟨rfl, rfl⟩) rfl rfl rfl) ?_
 rintro w245 ⟨hC, hF⟩
 clear hF
 replace hC : Cx _ O0 w _ ([_, _, _, _, _, _, _, _, _, .own 56 .raw (.slice (some ad206) (((List.replicate (g_0_0.length : Int).toNat (Value.slice none 0 0))).length) c45) (hsqf49_0.set x65.2.toNat (Value.slice A232 ((x204 ++ ([(z218, z222)] : List (Int × Int))).length) c233)), _, _, _, _, _] ++ ((rowsF 58 (.pr (.int .i64) (.int .i64)) hsqf49_0 qf49_0).eraseIdx x65.2.toNat ++ (rowsF 58 (.pr (.int .i64) (.int .i64)) (hsqf41_0.set x65.1.toNat (Value.slice A187 ((x158 ++ ([(bf126_0_1, bf126_1_1)] : List (Int × Int))).length) c188)) (qf41_0.set x65.1.toNat (x158 ++ ([(bf126_0_1, bf126_1_1)] : List (Int × Int)))) ++ ([] : List Fact)))) := hC
 replace hC := hC.selT [1, 0, 2, 3, 4, 5, 6, 7, 8, 9, 10, 11, 12, 13, 14] (by decide)
 replace hC := Cx.putRow hC hNqf49_0 (List.getElem?_eq_some_iff.1 (get_some h238).2).1
 have hN246 : (hsqf49_0.set x65.2.toNat (Value.slice A232 ((x204 ++ ([(z218, z222)] : List (Int × Int))).length) c233)).length = (qf49_0.set x65.2.toNat (x204 ++ ([(z218, z222)] : List (Int × Int)))).length := lenset hNqf49_0 _ _ _ _
 replace hC : Cx _ O0 w _ ([_, _, _, _, _, _, _, _, _, _, _, _, _, _] ++ (rowsF 58 (.pr (.int .i64) (.int .i64)) (hsqf49_0.set x65.2.toNat (Value.slice A232 ((x204 ++ ([(z218, z222)] : List (Int × Int))).length) c233)) (qf49_0.set x65.2.toNat (x204 ++ ([(z218, z222)] : List (Int × Int)))) ++ (rowsF 58 (.pr (.int .i64) (.int .i64)) (hsqf41_0.set x65.1.toNat (Value.slice A187 ((x158 ++ ([(bf126_0_1, bf126_1_1)] : List (Int × Int))).length) c188)) (qf41_0.set x65.1.toNat (x158 ++ ([(bf126_0_1, bf126_1_1)] : List (Int × Int)))) ++ ([] : List Fact)))) := hC
 refine ln ?_
 refine hK63 _ _ ?_
 refine rg ?_
 obtain ⟨z247, h248, hb⟩ := bd hb
 refine lp (.int .i64 z247) (pu_addc (a := v34_0) (b := 1) e34 rfl h248) ?_
 refine lp (.int .i64 z247) (pu_move rfl) ?_
 refine ln ?_
 obtain rfl := os hb
 exact hK55 m56' _ _ (Nat.lt_succ_self _) ⟨(l4_0 ++ ([v16_1] : List Int)), z247, (qf41_0.set x65.1.toNat (x158 ++ ([(bf126_0_1, bf126_1_1)] : List (Int × Int)))), (qf49_0.set x65.2.toNat (x204 ++ ([(z218, z222)] : List (Int × Int)))), A152, (l4_0 ++ ([v16_1] : List Int)).length, c153, (hsqf41_0.set x65.1.toNat (Value.slice A187 ((x158 ++ ([(bf126_0_1, bf126_1_1)] : List (Int × Int))).length) c188)), (hsqf49_0.set x65.2.toNat (Value.slice A232 ((x204 ++ ([(z218, z222)] : List (Int × Int))).length) c233)), e2, e4, e5, e6, e7, e8, e9, e32, e33, rfl, (chk_rng h248), hN202, hN246, hC.selT [3, 4, 5, 6, 7, 8, 9, 10, 13] (by decide), lN hl0⟩
 replace hb := tf hq62 hb
 refine Wc.exit rfl ?_
 obtain rfl := os hb
 obtain rfl := (lX hl0).symm
 exact hK54 _ _ ⟨l4_0, v34_0, qf41_0, qf49_0, Al4_0, l4_0.length, cl4_0, hsqf41_0, hsqf49_0, e2, e4, e5, e6, e7, e8, e9, hrv34_0, hNqf41_0, hNqf49_0, hC.selT [0, 1, 2, 3, 4, 5, 6, 7] (by decide), hbK0⟩
 clear hb hC hl0
 rintro E250 w249 ⟨l4_0, v34_0, qf41_0, qf49_0, Al4_0, ml4_0, cl4_0, hsqf41_0, hsqf49_0, e2, e4, e5, e6, e7, e8, e9, hrv34_0, hNqf41_0, hNqf49_0, hC, hb⟩
 obtain ⟨rfl, hll4_0, hcl4_0⟩ := (hC.ow (i := 3) rfl).sl_len
 refine hK50 _ _ ?_
 refine Wc.seq fun K251 hK251 => ?_
 refine Wc.seq fun K252 hK252 => ?_
 refine rg ?_
 replace hC : Cx _ O0 w _ ([.box g5 24 [.slice Ag_0_0 g_0_0.length cg_0_0, .slice Ag_0_1 g_0_1.length cg_0_1], .ro (.sl (.int .i64)) [.slice Ag_0_0 g_0_0.length cg_0_0] g_0_0, .ro (.sl (.int .i64)) [.slice Ag_0_1 g_0_1.length cg_0_1] g_0_1, .own 3 (.int .i64) (.slice Al4_0 l4_0.length cl4_0) l4_0, .own 56 .raw (.slice A36 (((List.replicate (g_0_0.length : Int).toNat (Value.slice none 0 0))).length) c37) hsqf41_0, .own 56 .raw (.slice A44 (((List.replicate (g_0_0.length : Int).toNat (Value.slice none 0 0))).length) c45) hsqf49_0, .own 3 (.int .i64) (.slice A14 y12.length c16) y12, .own 3 (.int .i64) (.slice A23 y21.length c25) y21] ++ (rowsF 58 (.pr (.int .i64) (.int .i64)) hsqf49_0 qf49_0 ++ (rowsF 58 (.pr (.int .i64) (.int .i64)) hsqf41_0 qf41_0 ++ ([] : List Fact)))) := hC
 refine lp (.int .i64 (g_0_0.length : Int)) (pu_move e7) ?_
 refine lp (.int .i64 0) (pu_move rfl) ?_
 refine ln ?_
 refine hK252 _ _ ?_
 obtain ⟨o253, hl2, hb⟩ := bd hb
 refine Wc.cut (fun E wv => ∃ (v111_2 : Int) (qf41_2 : List (List (Int × Int))) (qf49_2 : List (List (Int × Int))) (hsqf41_2 : List Value) (hsqf49_2 : List Value), E 4 = .slice Al4_0 l4_0.length cl4_0 ∧ E 5 = .slice A36 (((List.replicate (g_0_0.length : Int).toNat (Value.slice none 0 0))).length) c37 ∧ E 6 = .slice A44 (((List.replicate (g_0_0.length : Int).toNat (Value.slice none 0 0))).length) c45 ∧ I64 v111_2 ∧ hsqf41_2.length = qf41_2.length ∧ hsqf49_2.length = qf49_2.length ∧ Cx (fun _ => False) O0 w wv ([.own 3 (.int .i64) (.slice Al4_0 l4_0.length cl4_0) l4_0, .own 56 .raw (.slice A36 (((List.replicate (g_0_0.length : Int).toNat (Value.slice none 0 0))).length) c37) hsqf41_2, .own 56 .raw (.slice A44 (((List.replicate (g_0_0.length : Int).toNat (Value.slice none 0 0))).length) c45) hsqf49_2] ++ (rowsF 58 (.pr (.int .i64) (.int .i64)) hsqf49_2 qf49_2 ++ (rowsF 58 (.pr (.int .i64) (.int .i64)) hsqf41_2 qf41_2 ++ ([] : List Fact)))) ∧ (some (l4_0, qf41_2, qf49_2) : Option ((List Int) × (List (List (Int × Int))) × (List (List (Int × Int))))) = some r) (fun K254 hK254 => ?_) ?_
 refine Wc.block ?_
 refine Wc.loop (fun m E wv => ∃ (v111_2 : Int) (qf41_2 : List (List (Int × Int))) (qf49_2 : List (List (Int × Int))) (hsqf41_2 : List Value) (hsqf49_2 : List Value), E 2 = .pointer (some ⟨g5, 0, none⟩) ∧ E 4 = .slice Al4_0 l4_0.length cl4_0 ∧ E 5 = .slice A36 (((List.replicate (g_0_0.length : Int).toNat (Value.slice none 0 0))).length) c37 ∧ E 6 = .slice A44 (((List.replicate (g_0_0.length : Int).toNat (Value.slice none 0 0))).length) c45 ∧ E 8 = .slice A14 y12.length c16 ∧ E 9 = .slice A23 y21.length c25 ∧ E 110 = .int .i64 (g_0_0.length : Int) ∧ E 111 = .int .i64 v111_2 ∧ I64 v111_2 ∧ hsqf41_2.length = qf41_2.length ∧ hsqf49_2.length = qf49_2.length ∧ Cx (fun _ => False) O0 w wv ([.box g5 24 [.slice Ag_0_0 g_0_0.length cg_0_0, .slice Ag_0_1 g_0_1.length cg_0_1], .ro (.sl (.int .i64)) [.slice Ag_0_0 g_0_0.length cg_0_0] g_0_0, .ro (.sl (.int .i64)) [.slice Ag_0_1 g_0_1.length cg_0_1] g_0_1, .own 3 (.int .i64) (.slice Al4_0 l4_0.length cl4_0) l4_0, .own 56 .raw (.slice A36 (((List.replicate (g_0_0.length : Int).toNat (Value.slice none 0 0))).length) c37) hsqf41_2, .own 56 .raw (.slice A44 (((List.replicate (g_0_0.length : Int).toNat (Value.slice none 0 0))).length) c45) hsqf49_2, .own 3 (.int .i64) (.slice A14 y12.length c16) y12, .own 3 (.int .i64) (.slice A23 y21.length c25) y21] ++ (rowsF 58 (.pr (.int .i64) (.int .i64)) hsqf49_2 qf49_2 ++ (rowsF 58 (.pr (.int .i64) (.int .i64)) hsqf41_2 qf41_2 ++ ([] : List Fact)))) ∧ loopN m (F.gridlink_segments_b2 n g_0_0 g_0_1 y12 y21) (v111_2, qf41_2, qf49_2) = some o253) n ⟨0, qf41_0, qf49_0, hsqf41_0, hsqf49_0, e2, e4, e5, e6, e8, e9, rfl, rfl, (show I64 0 from by unfold I64; omega), hNqf41_0, hNqf49_0, hC.selT [0, 1, 2, 3, 4, 5, 6, 7] (by decide), hl2⟩ ?_
 have hbK2 := hb
 clear hb hC hl2
 rintro m256 E258 w257 ⟨v111_2, qf41_2, qf49_2, hsqf41_2, hsqf49_2, e2, e4, e5, e6, e8, e9, e110, e111, hrv111_2, hNqf41_2, hNqf49_2, hC, hl2⟩ K255 hK255
 obtain ⟨m256', o259, rfl, hb, hl2⟩ := loopN_some hl2
 unfold F.gridlink_segments_b2 at hb
 refine Wc.seq fun K260 hK260 => ?_
 refine rg ?_
 replace hC : Cx _ O0 w _ ([_, _, _, _, .own 56 .raw (.slice A36 (((List.replicate (g_0_0.length : Int).toNat (Value.slice none 0 0))).length) c37) hsqf41_2, .own 56 .raw (.slice A44 (((List.replicate (g_0_0.length : Int).toNat (Value.slice none 0 0))).length) c45) hsqf49_2, _, _] ++ (rowsF 58 (.pr (.int .i64) (.int .i64)) hsqf49_2 qf49_2 ++ (rowsF 58 (.pr (.int .i64) (.int .i64)) hsqf41_2 qf41_2 ++ ([] : List Fact)))) := hC
 refine lp (.bool (decide (v111_2 < (g_0_0.length : Int)))) (pu_lss (k := .i64) (a := v111_2) (b := (g_0_0.length : Int)) e111 e110) ?_
 refine ln ?_
 refine hK260 _ _ ?_
 refine Wc.seq fun K261 hK261 => ?_
 refine Wc.cond (t := (decide (v111_2 < (g_0_0.length : Int)))) (rfl) (fun hq262 => ?_) (fun hq262 => ?_)
 replace hb := tt hq262 hb
 refine Wc.skip ?_
 refine hK261 _ _ ?_
 refine Wc.seq fun K263 hK263 => ?_
 refine Wc.block ?_
 refine Wc.seq fun K264 hK264 => ?_
 refine rg ?_
 refine lp (.int .i64 v111_2) (pu_move e111) ?_
 refine lp (.int .i64 v111_2) (pu_assign rfl) ?_
 refine ln ?_
 refine hK264 _ _ ?_
 refine Wc.seqJ (fun E wv => ∃ (v124_3 : Bool) (qf41_3 : List (List (Int × Int))) (hsqf41_3 : List Value), E 2 = .pointer (some ⟨g5, 0, none⟩) ∧ E 4 = .slice Al4_0 l4_0.length cl4_0 ∧ E 5 = .slice A36 (((List.replicate (g_0_0.length : Int).toNat (Value.slice none 0 0))).length) c37 ∧ E 6 = .slice A44 (((List.replicate (g_0_0.length : Int).toNat (Value.slice none 0 0))).length) c45 ∧ E 8 = .slice A14 y12.length c16 ∧ E 9 = .slice A23 y21.length c25 ∧ E 18 = .int .i64 v111_2 ∧ E 110 = .int .i64 (g_0_0.length : Int) ∧ E 111 = .int .i64 v111_2 ∧ E 112 = .bool (decide (v111_2 < (g_0_0.length : Int))) ∧ E 124 = .bool v124_3 ∧ hsqf41_3.length = qf41_3.length ∧ Cx (fun _ => False) O0 w wv ([.box g5 24 [.slice Ag_0_0 g_0_0.length cg_0_0, .slice Ag_0_1 g_0_1.length cg_0_1], .ro (.sl (.int .i64)) [.slice Ag_0_0 g_0_0.length cg_0_0] g_0_0, .ro (.sl (.int .i64)) [.slice Ag_0_1 g_0_1.length cg_0_1] g_0_1, .own 3 (.int .i64) (.slice Al4_0 l4_0.length cl4_0) l4_0, .own 56 .raw (.slice A36 (((List.replicate (g_0_0.length : Int).toNat (Value.slice none 0 0))).length) c37) hsqf41_3, .own 56 .raw (.slice A44 (((List.replicate (g_0_0.length : Int).toNat (Value.slice none 0 0))).length) c45) hsqf49_2, .own 3 (.int .i64) (.slice A14 y12.length c16) y12, .own 3 (.int .i64) (.slice A23 y21.length c25) y21] ++ (rowsF 58 (.pr (.int .i64) (.int .i64)) hsqf49_2 qf49_2 ++ (rowsF 58 (.pr (.int .i64) (.int .i64)) hsqf41_3 qf41_3 ++ ([] : List Fact)))) ∧ F.gridlink_segments_j3 n y12 y21 v111_2 qf49_2 v124_3 qf41_3 = some o259) (fun K265 hK265 => ?_) ?_
 refine Wc.seq fun K266 hK266 => ?_
 refine Wc.regionMix [] (frm [] ([] : List Fact) ([] : List Fact)) (fun _ => rfl) mixed (by decide +kernel) (by decide +kernel) fun w268 hw267 => ?_
 replace hC := hC.step (Fr.of_drew hw267)
 have hM := Fr.refl (fun k => k ∈ blocks ([] : List Fact)) w268
 clear hw267
 have hS := hC
 replace hC : Cx _ O0 w _ ([_, _, _, _, _, _, _, _] ++ (rowsF 58 (.pr (.int .i64) (.int .i64)) hsqf49_2 qf49_2 ++ (rowsF 58 (.pr (.int .i64) (.int .i64)) hsqf41_2 qf41_2 ++ ([] : List Fact)))) := hC
 refine mp (.pointer (some ((⟨g5, 0, none⟩ : Addr).add 0))) (pu_field (sz := 1) Try.underlying24 rfl Try.sizeOf22 (by decide) rfl e2) ?_
 refine mixE.load hM (v := .slice Ag_0_0 g_0_0.length cg_0_0) (fun _ hF => ld_fld (hS.bx2 (i := 0) rfl [] (by decide) hF) Try.isAgg22 rfl rfl) ?_
 refine mp (.int .i64 v111_2) (pu_move rfl) ?_
 obtain ⟨x269, h270, hb⟩ := bd hb
 obtain ⟨ad271, cs272, hA, ho275, hc273, hr274⟩ := hS.elr2 (i := 1) rfl (get_some h270).2 []
 subst hA
 refine mp (.pointer (some (ad271.add (v111_2.toNat * 1)))) (pu_index (a := v111_2) Try.underlying22 Try.sizeOf3 rfl rfl (get_some h270).1) ?_
 replace hC : Cx _ O0 w _ ([.box g5 24 [.slice (some ad271) g_0_0.length cg_0_0, .slice Ag_0_1 g_0_1.length cg_0_1], .ro (.sl (.int .i64)) [.slice (some ad271) g_0_0.length cg_0_0] g_0_0, _, _, _, _, _, _] ++ (rowsF 58 (.pr (.int .i64) (.int .i64)) hsqf49_2 qf49_2 ++ (rowsF 58 (.pr (.int .i64) (.int .i64)) hsqf41_2 qf41_2 ++ ([] : List Fact)))) := hC
 obtain ⟨rfl, hr274'⟩ := hr274
 refine mixE.load hM (v := .int .i64 x269) (fun _ hF => ld_one Try.isAgg3 rfl (hF.cell (hc273 0 _ rfl) (off1 ho275))) ?_
 refine mp (.pointer (some ((⟨g5, 0, none⟩ : Addr).add 1))) (pu_field (sz := 1) Try.underlying24 rfl Try.sizeOf22 (by decide) rfl e2) ?_
 refine mixE.load hM (v := .slice Ag_0_1 g_0_1.length cg_0_1) (fun _ hF => ld_fld (hS.bx2 (i := 0) rfl [] (by decide) hF) Try.isAgg22 rfl rfl) ?_
 refine mp (.int .i64 v111_2) (pu_move rfl) ?_
 obtain ⟨x276, h277, hb⟩ := bd hb
 obtain ⟨ad278, cs279, hA, ho282, hc280, hr281⟩ := hS.elr2 (i := 2) rfl (get_some h277).2 []
 subst hA
 refine mp (.pointer (some (ad278.add (v111_2.toNat * 1)))) (pu_index (a := v111_2) Try.underlying22 Try.sizeOf3 rfl rfl (get_some h277).1) ?_
 replace hC : Cx _ O0 w _ ([.box g5 24 [.slice (some ad271) g_0_0.length cg_0_0, .slice (some ad278) g_0_1.length cg_0_1], _, .ro (.sl (.int .i64)) [.slice (some ad278) g_0_1.length cg_0_1] g_0_1, _, _, _, _, _] ++ (rowsF 58 (.pr (.int .i64) (.int .i64)) hsqf49_2 qf49_2 ++ (rowsF 58 (.pr (.int .i64) (.int .i64)) hsqf41_2 qf41_2 ++ ([] : List Fact)))) := hC
 obtain ⟨rfl, hr281'⟩ := hr281
 refine mixE.load hM (v := .int .i64 x276) (fun _ hF => ld_one Try.isAgg3 rfl (hF.cell (hc280 0 _ rfl) (off1 ho282))) ?_
 refine mp (.bool (decide (x276 < x269))) (pu_gtr (k := .i64) (a := x269) (b := x276) rfl rfl) ?_
 refine mixE.nil ?_
 clear hS hM
 refine hK266 _ _ ?_
 refine Wc.fresh fun E283 hE => ?_
 have e2 := (congrFun hE 2).trans e2
 have e4 := (congrFun hE 4).trans e4
 have e5 := (congrFun hE 5).trans e5
 have e6 := (congrFun hE 6).trans e6
 have e8 := (congrFun hE 8).trans e8
 have e9 := (congrFun hE 9).trans e9
 have e18 : E283 18 = .int .i64 v111_2 := (congrFun hE 18).trans rfl
 have e110 := (congrFun hE 110).trans e110
 have e111 := (congrFun hE 111).trans e111
 have e112 : E283 112 = .bool (decide (v111_2 < (g_0_0.length : Int))) := (congrFun hE 112).trans rfl
 have e124 : E283 124 = .bool (decide (x276 < x269)) := (congrFun hE 124).trans rfl
 clear hE
 refine Wc.cond (t := (decide (x276 < x269))) (e124) (fun hq284 => ?_) (fun hq284 => ?_)
 replace hb := tt hq284 hb
 refine rg ?_
 refine lp (.slice A36 (((List.replicate (g_0_0.length : Int).toNat (Value.slice none 0 0))).length) c37) (pu_move e5) ?_
 refine lp (.int .i64 v111_2) (pu_move e18) ?_
 obtain ⟨x285, h286, hb⟩ := bd hb
 obtain ⟨v291, hv292, -⟩ := rowsF_get (e := 58) (s := (.pr (.int .i64) (.int .i64))) hNqf41_2 (get_some h286).2
 obtain ⟨ad287, cs288, hA, hc289, hr290⟩ := hC.elo (i := 4) rfl hv292
 subst hA
 refine lp (.pointer (some (ad287.add (v111_2.toNat * 1)))) (pu_index (a := v111_2) Try.underlying51 Try.sizeOf56 rfl rfl (by rw [(hC.ow (i := 4) rfl).sl_len.1, hNqf41_2]; exact (get_some h286).1)) ?_
 replace hC : Cx _ O0 w _ ([_, _, _, _, .own 56 .raw (.slice (some ad287) (((List.replicate (g_0_0.length : Int).toNat (Value.slice none 0 0))).length) c37) hsqf41_2, _, _, _] ++ (rowsF 58 (.pr (.int .i64) (.int .i64)) hsqf49_2 qf49_2 ++ (rowsF 58 (.pr (.int .i64) (.int .i64)) hsqf41_2 qf41_2 ++ ([] : List Fact)))) := hC
 replace hC := hC.swapT
 replace hC : Cx _ O0 w _ ([_, _, _, _, _, _, _, _] ++ (rowsF 58 (.pr (.int .i64) (.int .i64)) hsqf41_2 qf41_2 ++ (rowsF 58 (.pr (.int .i64) (.int .i64)) hsqf49_2 qf49_2 ++ ([] : List Fact)))) := hC
 replace hC := Cx.takeRow hC hv292 (get_some h286).2
 obtain ⟨A293, c294, hvf297, hl295, hc296⟩ := (hC.ow (i := 0) rfl).form
 subst hvf297
 obtain ⟨rfl, -⟩ := hr290
 replace hC : Cx _ O0 w _ ([.own 58 (.pr (.int .i64) (.int .i64)) (.slice A293 x285.length c294) x285, _, _, _, _, _, _, _, _] ++ ((rowsF 58 (.pr (.int .i64) (.int .i64)) hsqf41_2 qf41_2).eraseIdx v111_2.toNat ++ (rowsF 58 (.pr (.int .i64) (.int .i64)) hsqf49_2 qf49_2 ++ ([] : List Fact)))) := hC
 refine lv (.slice A293 x285.length c294) (ld_one Try.isAgg56 rfl (hc289 0 _ rfl)) ?_
 replace hC := hC.selT [0, 1, 2, 3, 4, 5, 6, 7, 8] (by decide)
 replace hC : Cx _ O0 w _ ([_] ++ ([.box g5 24 [.slice (some ad271) g_0_0.length cg_0_0, .slice (some ad278) g_0_1.length cg_0_1], .ro (.sl (.int .i64)) [.slice (some ad271) g_0_0.length cg_0_0] g_0_0, .ro (.sl (.int .i64)) [.slice (some ad278) g_0_1.length cg_0_1] g_0_1, .own 3 (.int .i64) (.slice Al4_0 l4_0.length cl4_0) l4_0, .own 56 .raw (.slice (some ad287) (((List.replicate (g_0_0.length : Int).toNat (Value.slice none 0 0))).length) c37) hsqf41_2, .own 56 .raw (.slice A44 (((List.replicate (g_0_0.length : Int).toNat (Value.slice none 0 0))).length) c45) hsqf49_2, .own 3 (.int .i64) (.slice A14 y12.length c16) y12, .own 3 (.int .i64) (.slice A23 y21.length c25) y21] ++ ((rowsF 58 (.pr (.int .i64) (.int .i64)) hsqf41_2 qf41_2).eraseIdx v111_2.toNat ++ (rowsF 58 (.pr (.int .i64) (.int .i64)) hsqf49_2 qf49_2 ++ ([] : List Fact))))) := hC
 obtain ⟨y299, h300, hb⟩ := bd hb
 refine lex.cl (⟨_, _, op_call (vs := [.slice A293 x285.length c294]) Try.call67 rfl rfl rfl, slices_Reverse_passage_passage_ok n hC.lt hC.give h300⟩) ?_
 rintro _ w301 ⟨rfl, hK⟩
 replace hC := hC.back hK
 clear hK
 refine ln ?_
 replace hC : Cx _ O0 w _ ([.own 58 (.pr (.int .i64) (.int .i64)) (.slice A293 x285.length c294) y299, .box g5 24 [.slice (some ad271) g_0_0.length cg_0_0, .slice (some ad278) g_0_1.length cg_0_1], .ro (.sl (.int .i64)) [.slice (some ad271) g_0_0.length cg_0_0] g_0_0, .ro (.sl (.int .i64)) [.slice (some ad278) g_0_1.length cg_0_1] g_0_1, .own 3 (.int .i64) (.slice Al4_0 l4_0.length cl4_0) l4_0, .own 56 .raw (.slice (some ad287) (((List.replicate (g_0_0.length : Int).toNat (Value.slice none 0 0))).length) c37) hsqf41_2, .own 56 .raw (.slice A44 (((List.replicate (g_0_0.length : Int).toNat (Value.slice none 0 0))).length) c45) hsqf49_2, .own 3 (.int .i64) (.slice A14 y12.length c16) y12, .own 3 (.int .i64) (.slice A23 y21.length c25) y21] ++ ((rowsF 58 (.pr (.int .i64) (.int .i64)) hsqf41_2 qf41_2).eraseIdx v111_2.toNat ++ (rowsF 58 (.pr (.int .i64) (.int .i64)) hsqf49_2 qf49_2 ++ ([] : List Fact)))) := hC
 replace hC := hC.selT [0, 1, 2, 3, 4, 5, 6, 7, 8] (by decide)
 replace hC := Cx.putSame hC hNqf41_2 (List.getElem?_eq_some_iff.1 (get_some h286).2).1 hv292
 have hN302 : hsqf41_2.length = (qf41_2.set v111_2.toNat y299).length := by rw [List.length_set]; exact hNqf41_2
 replace hC : Cx _ O0 w _ ([_, _, _, _, _, _, _, _] ++ (rowsF 58 (.pr (.int .i64) (.int .i64)) hsqf41_2 (qf41_2.set v111_2.toNat y299) ++ (rowsF 58 (.pr (.int .i64) (.int .i64)) hsqf49_2 qf49_2 ++ ([] : List Fact)))) := hC
 replace hC := hC.swapT
 replace hC : Cx _ O0 w _ ([_, _, _, _, _, _, _, _] ++ (rowsF 58 (.pr (.int .i64) (.int .i64)) hsqf49_2 qf49_2 ++ (rowsF 58 (.pr (.int .i64) (.int .i64)) hsqf41_2 (qf41_2.set v111_2.toNat y299) ++ ([] : List Fact)))) := hC
 exact hK265 _ _ ⟨(decide (x276 < x269)), (qf41_2.set v111_2.toNat y299), hsqf41_2, e2, e4, e5, e6, e8, e9, e18, e110, e111, e112, e124, hN302, hC.selT [0, 1, 2, 3, 4, 5, 6, 7] (by decide), hb⟩
 replace hb := tf hq284 hb
 refine Wc.skip ?_
 exact hK265 _ _ ⟨(decide (x276 < x269)), qf41_2, hsqf41_2, e2, e4, e5, e6, e8, e9, e18, e110, e111, e112, e124, hNqf41_2, hC.selT [0, 1, 2, 3, 4, 5, 6, 7] (by decide), hb⟩
 clear hb hC
 rintro E304 w303 ⟨v124_3, qf41_3, hsqf41_3, e2, e4, e5, e6, e8, e9, e18, e110, e111, e112, e124, hNqf41_3, hC, hb⟩
 unfold F.gridlink_segments_j3 at hb
 refine Wc.seq fun K305 hK305 => ?_
 refine Wc.regionMix [] (frm [] ([] : List Fact) ([] : List Fact)) (fun _ => rfl) mixed (by decide +kernel) (by decide +kernel) fun w307 hw306 => ?_
 replace hC := hC.step (Fr.of_drew hw306)
 have hM := Fr.refl (fun k => k ∈ blocks ([] : List Fact)) w307
 clear hw306
 have hS := hC
 replace hC : Cx _ O0 w _ ([.box g5 24 [.slice Ag_0_0 g_0_0.length cg_0_0, .slice Ag_0_1 g_0_1.length cg_0_1], .ro (.sl (.int .i64)) [.slice Ag_0_0 g_0_0.length cg_0_0] g_0_0, .ro (.sl (.int .i64)) [.slice Ag_0_1 g_0_1.length cg_0_1] g_0_1, _, .own 56 .raw (.slice A36 (((List.replicate (g_0_0.length : Int).toNat (Value.slice none 0 0))).length) c37) hsqf41_3, _, _, _] ++ (rowsF 58 (.pr (.int .i64) (.int .i64)) hsqf49_2 qf49_2 ++ (rowsF 58 (.pr (.int .i64) (.int .i64)) hsqf41_3 qf41_3 ++ ([] : List Fact)))) := hC
 refine mp (.slice A23 y21.length c25) (pu_move e9) ?_
 refine mp (.int .i64 v111_2) (pu_move e18) ?_
 obtain ⟨x308, h309, hb⟩ := bd hb
 obtain ⟨ad310, cs311, hA, ho314, hc312, hr313⟩ := hS.elo2 (i := 7) rfl (get_some h309).2 [] (by decide)
 subst hA
 refine mp (.pointer (some (ad310.add (v111_2.toNat * 1)))) (pu_index (a := v111_2) Try.underlying22 Try.sizeOf3 rfl rfl (get_some h309).1) ?_
 replace hC : Cx _ O0 w _ ([_, _, _, _, _, _, _, .own 3 (.int .i64) (.slice (some ad310) y21.length c25) y21] ++ (rowsF 58 (.pr (.int .i64) (.int .i64)) hsqf49_2 qf49_2 ++ (rowsF 58 (.pr (.int .i64) (.int .i64)) hsqf41_3 qf41_3 ++ ([] : List Fact)))) := hC
 obtain ⟨rfl, hr313'⟩ := hr313
 refine mixE.load hM (v := .int .i64 x308) (fun _ hF => ld_one Try.isAgg3 rfl (hF.cell (hc312 0 _ rfl) (off1 ho314))) ?_
 refine mp (.slice A14 y12.length c16) (pu_move e8) ?_
 refine mp (.int .i64 v111_2) (pu_move e18) ?_
 obtain ⟨x315, h316, hb⟩ := bd hb
 obtain ⟨ad317, cs318, hA, ho321, hc319, hr320⟩ := hS.elo2 (i := 6) rfl (get_some h316).2 [] (by decide)
 subst hA
 refine mp (.pointer (some (ad317.add (v111_2.toNat * 1)))) (pu_index (a := v111_2) Try.underlying22 Try.sizeOf3 rfl rfl (get_some h316).1) ?_
 replace hC : Cx _ O0 w _ ([_, _, _, _, _, _, .own 3 (.int .i64) (.slice (some ad317) y12.length c16) y12, _] ++ (rowsF 58 (.pr (.int .i64) (.int .i64)) hsqf49_2 qf49_2 ++ (rowsF 58 (.pr (.int .i64) (.int .i64)) hsqf41_3 qf41_3 ++ ([] : List Fact)))) := hC
 obtain ⟨rfl, hr320'⟩ := hr320
 refine mixE.load hM (v := .int .i64 x315) (fun _ hF => ld_one Try.isAgg3 rfl (hF.cell (hc319 0 _ rfl) (off1 ho321))) ?_
 refine mp (.bool (decide (x315 < x308))) (pu_gtr (k := .i64) (a := x308) (b := x315) rfl rfl) ?_
 refine mixE.nil ?_
 clear hS hM
 refine hK305 _ _ ?_
 refine Wc.cond (t := (decide (x315 < x308))) (rfl) (fun hq322 => ?_) (fun hq322 => ?_)
 replace hb := tt hq322 hb
 refine rg ?_
 refine lp (.slice A44 (((List.replicate (g_0_0.length : Int).toNat (Value.slice none 0 0))).length) c45) (pu_move e6) ?_
 refine lp (.int .i64 v111_2) (pu_move e18) ?_
 obtain ⟨x323, h324, hb⟩ := bd hb
 obtain ⟨v329, hv330, -⟩ := rowsF_get (e := 58) (s := (.pr (.int .i64) (.int .i64))) hNqf49_2 (get_some h324).2
 obtain ⟨ad325, cs326, hA, hc327, hr328⟩ := hC.elo (i := 5) rfl hv330
 subst hA
 refine lp (.pointer (some (ad325.add (v111_2.toNat * 1)))) (pu_index (a := v111_2) Try.underlying51 Try.sizeOf56 rfl rfl (by rw [(hC.ow (i := 5) rfl).sl_len.1, hNqf49_2]; exact (get_some h324).1)) ?_
 replace hC : Cx _ O0 w _ ([_, _, _, _, _, .own 56 .raw (.slice (some ad325) (((List.replicate (g_0_0.length : Int).toNat (Value.slice none 0 0))).length) c45) hsqf49_2, _, _] ++ (rowsF 58 (.pr (.int .i64) (.int .i64)) hsqf49_2 qf49_2 ++ (rowsF 58 (.pr (.int .i64) (.int .i64)) hsqf41_3 qf41_3 ++ ([] : List Fact)))) := hC
 replace hC := Cx.takeRow hC hv330 (get_some h324).2
 obtain ⟨A331, c332, hvf335, hl333, hc334⟩ := (hC.ow (i := 0) rfl).form
 subst hvf335
 obtain ⟨rfl, -⟩ := hr328
 replace hC : Cx _ O0 w _ ([.own 58 (.pr (.int .i64) (.int .i64)) (.slice A331 x323.length c332) x323, _, _, _, _, _, _, _, _] ++ ((rowsF 58 (.pr (.int .i64) (.int .i64)) hsqf49_2 qf49_2).eraseIdx v111_2.toNat ++ (rowsF 58 (.pr (.int .i64) (.int .i64)) hsqf41_3 qf41_3 ++ ([] : List Fact)))) := hC
 refine lv (.slice A331 x323.length c332) (ld_one Try.isAgg56 rfl (hc327 0 _ rfl)) ?_
 replace hC := hC.selT [0, 1, 2, 3, 4, 5, 6, 7, 8] (by decide)
 replace hC : Cx _ O0 w _ ([_] ++ ([.box g5 24 [.slice Ag_0_0 g_0_0.length cg_0_0, .slice Ag_0_1 g_0_1.length cg_0_1], .ro (.sl (.int .i64)) [.slice Ag_0_0 g_0_0.length cg_0_0] g_0_0, .ro (.sl (.int .i64)) [.slice Ag_0_1 g_0_1.length cg_0_1] g_0_1, .own 3 (.int .i64) (.slice Al4_0 l4_0.length cl4_0) l4_0, .own 56 .raw (.slice A36 (((List.replicate (g_0_0.length : Int).toNat (Value.slice none 0 0))).length) c37) hsqf41_3, .own 56 .raw (.slice (some ad325) (((List.replicate (g_0_0.length : Int).toNat (Value.slice none 0 0))).length) c45) hsqf49_2, .own 3 (.int .i64) (.slice (some ad317) y12.length c16) y12, .own 3 (.int .i64) (.slice (some ad310) y21.length c25) y21] ++ ((rowsF 58 (.pr (.int .i64) (.int .i64)) hsqf49_2 qf49_2).eraseIdx v111_2.toNat ++ (rowsF 58 (.pr (.int .i64) (.int .i64)) hsqf41_3 qf41_3 ++ ([] : List Fact))))) := hC
 obtain ⟨y337, h338, hb⟩ := bd hb
 refine lex.cl (⟨_, _, op_call (vs := [.slice A331 x323.length c332]) Try.call67 rfl rfl rfl, slices_Reverse_passage_passage_ok n hC.lt hC.give h338⟩) ?_
 rintro _ w339 ⟨rfl, hK⟩
 replace hC := hC.back hK
 clear hK
 refine ln ?_
 refine hK263 _ _ ?_
 refine rg ?_
 replace hC : Cx _ O0 w _ ([.own 58 (.pr (.int .i64) (.int .i64)) (.slice A331 x323.length c332) y337, .box g5 24 [.slice Ag_0_0 g_0_0.length cg_0_0, .slice Ag_0_1 g_0_1.length cg_0_1], .ro (.sl (.int .i64)) [.slice Ag_0_0 g_0_0.length cg_0_0] g_0_0, .ro (.sl (.int .i64)) [.slice Ag_0_1 g_0_1.length cg_0_1] g_0_1, .own 3 (.int .i64) (.slice Al4_0 l4_0.length cl4_0) l4_0, .own 56 .raw (.slice A36 (((List.replicate (g_0_0.length : Int).toNat (Value.slice none 0 0))).length) c37) hsqf41_3, .own 56 .raw (.slice (some ad325) (((List.replicate (g_0_0.length : Int).toNat (Value.slice none 0 0))).length) c45) hsqf49_2, .own 3 (.int .i64) (.slice (some ad317) y12.length c16) y12, .own 3 (.int .i64) (.slice (some ad310) y21.length c25) y21] ++ ((rowsF 58 (.pr (.int .i64) (.int .i64)) hsqf49_2 qf49_2).eraseIdx v111_2.toNat ++ (rowsF 58 (.pr (.int .i64) (.int .i64)) hsqf41_3 qf41_3 ++ ([] : List Fact)))) := hC
 obtain ⟨z340, h341, hb⟩ := bd hb
 refine lp (.int .i64 z340) (pu_addc (a := v111_2) (b := 1) e111 rfl h341) ?_
 refine lp (.int .i64 z340) (pu_move rfl) ?_
 refine ln ?_
 replace hC := hC.selT [0, 1, 2, 3, 4, 5, 6, 7, 8] (by decide)
 replace hC := Cx.putSame hC hNqf49_2 (List.getElem?_eq_some_iff.1 (get_some h324).2).1 hv330
 have hN342 : hsqf49_2.length = (qf49_2.set v111_2.toNat y337).length := by rw [List.length_set]; exact hNqf49_2
 replace hC : Cx _ O0 w _ ([_, _, _, _, _, _, _, _] ++ (rowsF 58 (.pr (.int .i64) (.int .i64)) hsqf49_2 (qf49_2.set v111_2.toNat y337) ++ (rowsF 58 (.pr (.int .i64) (.int .i64)) hsqf41_3 qf41_3 ++ ([] : List Fact)))) := hC
 obtain rfl := os hb
 exact hK255 m256' _ _ (Nat.lt_succ_self _) ⟨z340, qf41_3, (qf49_2.set v111_2.toNat y337), hsqf41_3, hsqf49_2, e2, e4, e5, e6, e8, e9, e110, rfl, (chk_rng h341), hNqf41_3, hN342, hC.selT [0, 1, 2, 3, 4, 5, 6, 7] (by decide), lN hl2⟩
 replace hb := tf hq322 hb
 refine Wc.skip ?_
 refine hK263 _ _ ?_
 refine rg ?_
 obtain ⟨z343, h344, hb⟩ := bd hb
 refine lp (.int .i64 z343) (pu_addc (a := v111_2) (b := 1) e111 rfl h344) ?_
 refine lp (.int .i64 z343) (pu_move rfl) ?_
 refine ln ?_
 obtain rfl := os hb
 exact hK255 m256' _ _ (Nat.lt_succ_self _) ⟨z343, qf41_3, qf49_2, hsqf41_3, hsqf49_2, e2, e4, e5, e6, e8, e9, e110, rfl, (chk_rng h344), hNqf41_3, hNqf49_2, hC.selT [0, 1, 2, 3, 4, 5, 6, 7] (by decide), lN hl2⟩
 replace hb := tf hq262 hb
 refine Wc.exit rfl ?_
 obtain rfl := os hb
 obtain rfl := (lX hl2).symm
 exact hK254 _ _ ⟨v111_2, qf41_2, qf49_2, hsqf41_2, hsqf49_2, e4, e5, e6, hrv111_2, hNqf41_2, hNqf49_2, hC.selT [3, 4, 5] (by decide), hbK2⟩
 clear hb hC hl2
 rintro E346 w345 ⟨v111_2, qf41_2, qf49_2, hsqf41_2, hsqf49_2, e4, e5, e6, hrv111_2, hNqf41_2, hNqf49_2, hC, hb⟩
 refine hK251 _ _ ?_
 refine Wc.seq fun K347 hK347 => ?_
 refine rg ?_
 replace hC : Cx _ O0 w _ ([_, .own 56 .raw (.slice A36 (((List.replicate (g_0_0.length : Int).toNat (Value.slice none 0 0))).length) c37) hsqf41_2, .own 56 .raw (.slice A44 (((List.replicate (g_0_0.length : Int).toNat (Value.slice none 0 0))).length) c45) hsqf49_2] ++ (rowsF 58 (.pr (.int .i64) (.int .i64)) hsqf49_2 qf49_2 ++ (rowsF 58 (.pr (.int .i64) (.int .i64)) hsqf41_2 qf41_2 ++ ([] : List Fact)))) := hC
 refine lp (.slice Al4_0 l4_0.length cl4_0) (pu_move e4) ?_
 refine lp (.slice A36 (((List.replicate (g_0_0.length : Int).toNat (Value.slice none 0 0))).length) c37) (pu_move e5) ?_
 refine lp (.slice A44 (((List.replicate (g_0_0.length : Int).toNat (Value.slice none 0 0))).length) c45) (pu_move e6) ?_
 refine lp (.slice Al4_0 l4_0.length cl4_0) (pu_assign rfl) ?_
 refine lp (.slice A36 (((List.replicate (g_0_0.length : Int).toNat (Value.slice none 0 0))).length) c37) (pu_assign rfl) ?_
 refine lp (.slice A44 (((List.replicate (g_0_0.length : Int).toNat (Value.slice none 0 0))).length) c45) (pu_assign rfl) ?_
 refine ln ?_
 refine hK347 _ _ ?_
 replace hC := hC.swapT
 replace hC : Cx _ O0 w _ ([_, _, _] ++ (rowsF 58 (.pr (.int .i64) (.int .i64)) hsqf41_2 qf41_2 ++ (rowsF 58 (.pr (.int .i64) (.int .i64)) hsqf49_2 qf49_2 ++ ([] : List Fact)))) := hC
 replace hC := hC.selT [1, 0, 2] (by decide)
 replace hC := Cx.freezeR hC hNqf41_2
 replace hC : Cx _ O0 w _ ([.ro (.sl (.sl (.pr (.int .i64) (.int .i64)))) [.slice A36 (((List.replicate (g_0_0.length : Int).toNat (Value.slice none 0 0))).length) c37] qf41_2, _, _] ++ (rowsF 58 (.pr (.int .i64) (.int .i64)) hsqf49_2 qf49_2 ++ ([] : List Fact))) := hC
 replace hC := hC.selT [2, 0, 1] (by decide)
 replace hC := Cx.freezeR hC hNqf49_2
 replace hC : Cx _ O0 w _ ([.ro (.sl (.sl (.pr (.int .i64) (.int .i64)))) [.slice A44 (((List.replicate (g_0_0.length : Int).toNat (Value.slice none 0 0))).length) c45] qf49_2, _, _] ++ ([] : List Fact)) := hC
 obtain rfl := os hb
 refine Wc.ret ?_
 refine hKR _ _ ?_
 refine ⟨_, res3 Try.results37 (show RV _ _ _ (.tmp _) (.slice Al4_0 l4_0.length cl4_0) from rfl) (show RV _ _ _ (.tmp _) (.slice A36 (((List.replicate (g_0_0.length : Int).toNat (Value.slice none 0 0))).length) c37) from rfl) (show RV _ _ _ (.tmp _) (.slice A44 (((List.replicate (g_0_0.length : Int).toNat (Value.slice none 0 0))).length) c45) from rfl), _, rfl, Al4_0, l4_0.length, cl4_0, A36, ((List.replicate (g_0_0.length : Int).toNat (Value.slice none 0 0))).length, c37, A44, ((List.replicate (g_0_0.length : Int).toNat (Value.slice none 0 0))).length, c45, rfl, hC.sel [2, 1, 0] (by decide)⟩
 refine mixPE_chain ?_
 obtain ⟨u34, h349, hb⟩ := bd hb
 refine mixE.op hM (hC.make (s := .raw) (n := (g_0_0.length : Int)) Try.underlying51 Try.type56 rfl rfl rfl rfl rfl (pos_some h349).1 (pos_some h349).2 (by decide)) ?_
 rintro _ w354 ⟨A350, c351, rfl, hl352, hc353, hC, hF, hN⟩
 have hBf355 := Beside.new hM hN
 replace hM := hM.none hF
 refine ⟨hM, ?_⟩
 clear hF hN
 replace hC : Cx _ O0 w _ ([.own 56 .raw (.slice A350 (((List.replicate (g_0_0.length : Int).toNat (Value.slice none 0 0))).length) c351) (List.replicate (g_0_0.length : Int).toNat (Value.slice none 0 0)), .own 3 (.int .i64) (.slice A23 y21.length c25) y21, .own 3 (.int .i64) (.slice A14 y12.length c16) y12, .box g5 24 [.slice Ag_0_0 g_0_0.length cg_0_0, .slice Ag_0_1 g_0_1.length cg_0_1], .ro (.sl (.pr (.int .i64) (.int .i64))) [.slice Acrossings_1 crossings_1.length ccrossings_1] crossings_1, .ro (.sl (.int .i64)) [.slice Ag_0_1 g_0_1.length cg_0_1] g_0_1, .ro (.sl (.int .i64)) [.slice Ag_0_0 g_0_0.length cg_0_0] g_0_0] ++ ([] : List Fact)) := hC
 replace hC := hC.nilRows 58 (.pr (.int .i64) (.int .i64)) (g_0_0.length : Int).toNat
 replace hC : Cx _ O0 w _ ([_, _, _, _, _, _, _] ++ (rowsF 58 (.pr (.int .i64) (.int .i64)) (List.replicate (g_0_0.length : Int).toNat (Value.slice none 0 0)) (List.replicate (g_0_0.length : Int).toNat ([] : List (Int × Int))) ++ ([] : List Fact))) := hC
 refine mixE.nil ?_
 refine mixPE_chain ?_
 obtain ⟨u42, h357, hb⟩ := bd hb
 refine mixE.op hM (hC.make (s := .raw) (n := (g_0_0.length : Int)) Try.underlying51 Try.type56 rfl rfl rfl rfl rfl (pos_some h357).1 (pos_some h357).2 (by decide)) ?_
 rintro _ w362 ⟨A358, c359, rfl, hl360, hc361, hC, hF, hN⟩
 have hBf363 := Beside.new hM hN
 replace hM := hM.none hF
 refine ⟨hM, ?_⟩
 clear hF hN
 replace hC : Cx _ O0 w _ ([.own 56 .raw (.slice A358 (((List.replicate (g_0_0.length : Int).toNat (Value.slice none 0 0))).length) c359) (List.replicate (g_0_0.length : Int).toNat (Value.slice none 0 0)), _, _, _, _, _, _, _] ++ (rowsF 58 (.pr (.int .i64) (.int .i64)) (List.replicate (g_0_0.length : Int).toNat (Value.slice none 0 0)) (List.replicate (g_0_0.length : Int).toNat ([] : List (Int × Int))) ++ ([] : List Fact))) := hC
 replace hC := hC.nilRows 58 (.pr (.int .i64) (.int .i64)) (g_0_0.length : Int).toNat
 replace hC : Cx _ O0 w _ ([_, _, _, _, _, _, _, _] ++ (rowsF 58 (.pr (.int .i64) (.int .i64)) (List.replicate (g_0_0.length : Int).toNat (Value.slice none 0 0)) (List.replicate (g_0_0.length : Int).toNat ([] : List (Int × Int))) ++ (rowsF 58 (.pr (.int .i64) (.int .i64)) (List.replicate (g_0_0.length : Int).toNat (Value.slice none 0 0)) (List.replicate (g_0_0.length : Int).toNat ([] : List (Int × Int))) ++ ([] : List Fact)))) := hC
 refine mp (.slice A358 (((List.replicate (g_0_0.length : Int).toNat (Value.slice none 0 0))).length) c359) (pu_assign rfl) ?_
 refine mp (.slice A350 (((List.replicate (g_0_0.length : Int).toNat (Value.slice none 0 0))).length) c351) (pu_assign rfl) ?_
 refine mixE.nil ?_
 clear hS hM
 refine hK31 _ _ ?_
 refine Wc.seq fun K364 hK364 => ?_
 refine Wc.seq fun K365 hK365 => ?_
 refine rg ?_
 refine lp (.slice Acrossings_1 crossings_1.length ccrossings_1) (pu_move e1) ?_
 refine lp (.int .i64 (crossings_1.length : Int)) (pu_len (A := Acrossings_1) (n := crossings_1.length) (m := ccrossings_1) Try.underlying33 rfl) ?_
 refine lp (.int .i64 0) (pu_move rfl) ?_
 refine ln ?_
 refine hK365 _ _ ?_
 replace hC := hC.nil 3 (.int .i64)
 obtain ⟨o53, hl0, hb⟩ := bd hb
 refine Wc.cut (fun E wv => ∃ (l4_0 : List Int) (v34_0 : Int) (qf41_0 : List (List (Int × Int))) (qf49_0 : List (List (Int × Int))) (Al4_0 : Option Addr) (ml4_0 cl4_0 : Nat) (hsqf363_0 : List Value) (hsqf355_0 : List Value), E 2 = .pointer (some ⟨g5, 0, none⟩) ∧ E 4 = .slice Al4_0 ml4_0 cl4_0 ∧ E 5 = .slice A358 (((List.replicate (g_0_0.length : Int).toNat (Value.slice none 0 0))).length) c359 ∧ E 6 = .slice A350 (((List.replicate (g_0_0.length : Int).toNat (Value.slice none 0 0))).length) c351 ∧ E 7 = .int .i64 (g_0_0.length : Int) ∧ E 8 = .slice A14 y12.length c16 ∧ E 9 = .slice A23 y21.length c25 ∧ I64 v34_0 ∧ hsqf363_0.length = qf41_0.length ∧ hsqf355_0.length = qf49_0.length ∧ Cx (fun _ => False) O0 w wv ([.box g5 24 [.slice Ag_0_0 g_0_0.length cg_0_0, .slice Ag_0_1 g_0_1.length cg_0_1], .ro (.sl (.int .i64)) [.slice Ag_0_0 g_0_0.length cg_0_0] g_0_0, .ro (.sl (.int .i64)) [.slice Ag_0_1 g_0_1.length cg_0_1] g_0_1, .own 3 (.int .i64) (.slice Al4_0 ml4_0 cl4_0) l4_0, .own 56 .raw (.slice A358 (((List.replicate (g_0_0.length : Int).toNat (Value.slice none 0 0))).length) c359) hsqf363_0, .own 56 .raw (.slice A350 (((List.replicate (g_0_0.length : Int).toNat (Value.slice none 0 0))).length) c351) hsqf355_0, .own 3 (.int .i64) (.slice A14 y12.length c16) y12, .own 3 (.int .i64) (.slice A23 y21.length c25) y21] ++ (rowsF 58 (.pr (.int .i64) (.int .i64)) hsqf363_0 qf41_0 ++ (rowsF 58 (.pr (.int .i64) (.int .i64)) hsqf355_0 qf49_0 ++ ([] : List Fact)))) ∧ (((loopN n (F.gridlink_segments_b2 n g_0_0 g_0_1 y12 y21) (0, qf41_0, qf49_0)).bind fun o253 => match o253 with     | (v111_2, qf41_2, qf49_2) => some (l4_0, qf41_2, qf49_2)) : Option ((List Int) × (List (List (Int × Int))) × (List (List (Int × Int))))) = some r) (fun K368 hK368 => ?_) ?_
 refine Wc.block ?_
 replace hC : Cx _ O0 w _ ([.own 3 (.int .i64) (.slice none 0 0) ([] : List Int), _, _, _, _, _, _, _, _] ++ (rowsF 58 (.pr (.int .i64) (.int .i64)) (List.replicate (g_0_0.length : Int).toNat (Value.slice none 0 0)) (List.replicate (g_0_0.length : Int).toNat ([] : List (Int × Int))) ++ (rowsF 58 (.pr (.int .i64) (.int .i64)) (List.replicate (g_0_0.length : Int).toNat (Value.slice none 0 0)) (List.replicate (g_0_0.length : Int).toNat ([] : List (Int × Int))) ++ ([] : List Fact)))) := hC
 refine Wc.loop (fun m E wv => ∃ (l4_0 : List Int) (v34_0 : Int) (qf41_0 : List (List (Int × Int))) (qf49_0 : List (List (Int × Int))) (Al4_0 : Option Addr) (ml4_0 cl4_0 : Nat) (hsqf363_0 : List Value) (hsqf355_0 : List Value), E 2 = .pointer (some ⟨g5, 0, none⟩) ∧ E 4 = .slice Al4_0 ml4_0 cl4_0 ∧ E 5 = .slice A358 (((List.replicate (g_0_0.length : Int).toNat (Value.slice none 0 0))).length) c359 ∧ E 6 = .slice A350 (((List.replicate (g_0_0.length : Int).toNat (Value.slice none 0 0))).length) c351 ∧ E 7 = .int .i64 (g_0_0.length : Int) ∧ E 8 = .slice A14 y12.length c16 ∧ E 9 = .slice A23 y21.length c25 ∧ E 32 = .slice Acrossings_1 crossings_1.length ccrossings_1 ∧ E 33 = .int .i64 (crossings_1.length : Int) ∧ E 34 = .int .i64 v34_0 ∧ I64 v34_0 ∧ hsqf363_0.length = qf41_0.length ∧ hsqf355_0.length = qf49_0.length ∧ Cx (fun _ => False) O0 w wv ([.box g5 24 [.slice Ag_0_0 g_0_0.length cg_0_0, .slice Ag_0_1 g_0_1.length cg_0_1], .ro (.sl (.int .i64)) [.slice Ag_0_0 g_0_0.length cg_0_0] g_0_0, .ro (.sl (.int .i64)) [.slice Ag_0_1 g_0_1.length cg_0_1] g_0_1, .own 3 (.int .i64) (.slice Al4_0 ml4_0 cl4_0) l4_0, .own 56 .raw (.slice A358 (((List.replicate (g_0_0.length : Int).toNat (Value.slice none 0 0))).length) c359) hsqf363_0, .own 56 .raw (.slice A350 (((List.replicate (g_0_0.length : Int).toNat (Value.slice none 0 0))).length) c351) hsqf355_0, .own 3 (.int .i64) (.slice A14 y12.length c16) y12, .own 3 (.int .i64) (.slice A23 y21.length c25) y21, .ro (.sl (.pr (.int .i64) (.int .i64))) [.slice Acrossings_1 crossings_1.length ccrossings_1] crossings_1] ++ (rowsF 58 (.pr (.int .i64) (.int .i64)) hsqf363_0 qf41_0 ++ (rowsF 58 (.pr (.int .i64) (.int .i64)) hsqf355_0 qf49_0 ++ ([] : List Fact)))) ∧ loopN m (F.gridlink_segments_b0 n g_0_0 g_0_1 crossings_1 y12 y21) (l4_0, v34_0, qf41_0, qf49_0) = some o53) n ⟨([] : List Int), 0, (List.replicate (g_0_0.length : Int).toNat ([] : List (Int × Int))), (List.replicate (g_0_0.length : Int).toNat ([] : List (Int × Int))), none, 0, 0, (List.replicate (g_0_0.length : Int).toNat (Value.slice none 0 0)), (List.replicate (g_0_0.length : Int).toNat (Value.slice none 0 0)), e2, e4, rfl, rfl, e7, e8, e9, rfl, rfl, rfl, (show I64 0 from by unfold I64; omega), (nilRows_len (g_0_0.length : Int).toNat (s := (.pr (.int .i64) (.int .i64)))), (nilRows_len (g_0_0.length : Int).toNat (s := (.pr (.int .i64) (.int .i64)))), hC.selT [5, 8, 7, 0, 1, 2, 4, 3, 6] (by decide), hl0⟩ ?_
 have hbK0 := hb
 clear hb hC hl0
 rintro m370 E372 w371 ⟨l4_0, v34_0, qf41_0, qf49_0, Al4_0, ml4_0, cl4_0, hsqf363_0, hsqf355_0, e2, e4, e5, e6, e7, e8, e9, e32, e33, e34, hrv34_0, hNqf363_0, hNqf355_0, hC, hl0⟩ K369 hK369
 obtain ⟨m370', o373, rfl, hb, hl0⟩ := loopN_some hl0
 unfold F.gridlink_segments_b0 at hb
 obtain ⟨rfl, hll4_0, hcl4_0⟩ := (hC.ow (i := 3) rfl).sl_len
 refine Wc.seq fun K374 hK374 => ?_
 refine rg ?_
 replace hC : Cx _ O0 w _ ([_, _, _, .own 3 (.int .i64) (.slice Al4_0 l4_0.length cl4_0) l4_0, .own 56 .raw (.slice A358 (((List.replicate (g_0_0.length : Int).toNat (Value.slice none 0 0))).length) c359) hsqf363_0, .own 56 .raw (.slice A350 (((List.replicate (g_0_0.length : Int).toNat (Value.slice none 0 0))).length) c351) hsqf355_0, _, _, _] ++ (rowsF 58 (.pr (.int .i64) (.int .i64)) hsqf363_0 qf41_0 ++ (rowsF 58 (.pr (.int .i64) (.int .i64)) hsqf355_0 qf49_0 ++ ([] : List Fact)))) := hC
 refine lp (.bool (decide (v34_0 < (crossings_1.length : Int)))) (pu_lss (k := .i64) (a := v34_0) (b := (crossings_1.length : Int)) e34 e33) ?_
 refine ln ?_
 refine hK374 _ _ ?_
 refine Wc.seq fun K375 hK375 => ?_
 refine Wc.cond (t := (decide (v34_0 < (crossings_1.length : Int)))) (rfl) (fun hq376 => ?_) (fun hq376 => ?_)
 replace hb := tt hq376 hb
 refine Wc.skip ?_
 refine hK375 _ _ ?_
 refine Wc.seq fun K377 hK377 => ?_
 refine Wc.block ?_
 refine Wc.seq fun K378 hK378 => ?_
 refine rg ?_
 refine lp (.int .i64 v34_0) (pu_move e34) ?_
 obtain ⟨x65, h380, hb⟩ := bd hb
 obtain ⟨ad381, cs382, hA, hc383, hr384⟩ := hC.elr (i := 8) rfl (get_some h380).2
 subst hA
 refine lp (.pointer (some (ad381.add (v34_0.toNat * 2)))) (pu_index (a := v34_0) Try.underlying33 Try.sizeOf67 e32 e34 (get_some h380).1) ?_
 replace hC : Cx _ O0 w _ ([_, _, _, _, _, _, _, _, .ro (.sl (.pr (.int .i64) (.int .i64))) [.slice (some ad381) crossings_1.length ccrossings_1] crossings_1] ++ (rowsF 58 (.pr (.int .i64) (.int .i64)) hsqf363_0 qf41_0 ++ (rowsF 58 (.pr (.int .i64) (.int .i64)) hsqf355_0 qf49_0 ++ ([] : List Fact)))) := hC
 obtain ⟨k385, k386, rfl, hr387, hr388⟩ := hr384
 obtain ⟨rfl, hr387⟩ := hr387
 obtain ⟨rfl, hr388⟩ := hr388
 refine lv (.agg #[.int .i64 x65.1, .int .i64 x65.2]) (ld_agg Try.isAgg67 Try.sizeOf67 rfl rfl hc383) ?_
 refine lex.op (hC.alloc (cs := [.int .i64 0, .int .i64 0]) Try.zeroValue67 rfl) ?_
 rintro _ w390 ⟨g389, rfl, hC, hF, hG⟩
 clear hG
 replace hC : Cx _ O0 w _ ([.box g389 67 [.int .i64 0, .int .i64 0], _, _, _, _, _, _, _, _, _] ++ (rowsF 58 (.pr (.int .i64) (.int .i64)) hsqf363_0 qf41_0 ++ (rowsF 58 (.pr (.int .i64) (.int .i64)) hsqf355_0 qf49_0 ++ ([] : List Fact)))) := hC
 refine lp (.int .i64 v34_0) (pu_assign rfl) ?_
 refine lex.sk (hC.seta (i := 0) (ds := [.int .i64 x65.1, .int .i64 x65.2]) rfl Try.type67 rfl rfl rfl rfl rfl) ?_
 rintro w392 ⟨hC, hF⟩
 refine ln ?_
 refine hK378 _ _ ?_
 refine Wc.seq fun K393 hK393 => ?_
 refine Wc.regionMix [] (frm [] ([] : List Fact) ([] : List Fact)) (fun _ => rfl) mixed (by decide +kernel) (by decide +kernel) fun w395 hw394 => ?_
 replace hC := hC.step (Fr.of_drew hw394)
 have hM := Fr.refl (fun k => k ∈ blocks ([] : List Fact)) w395
 clear hw394
 have hS := hC
 replace hC : Cx _ O0 w _ ([.box g389 67 [.int .i64 x65.1, .int .i64 x65.2], _, _, _, _, _, _, _, _, _] ++ (rowsF 58 (.pr (.int .i64) (.int .i64)) hsqf363_0 qf41_0 ++ (rowsF 58 (.pr (.int .i64) (.int .i64)) hsqf355_0 qf49_0 ++ ([] : List Fact)))) := hC
 refine mp (.pointer (some ((⟨g389, 0, none⟩ : Addr).add 0))) (pu_ixa (A := ⟨g389, 0, none⟩) (a := 0) (sz := 1) Try.underlying67 Try.sizeOf3 rfl rfl (by decide)) ?_
 refine mixE.load hM (v := .int .i64 x65.1) (fun _ hF => ld_fld (hS.bx2 (i := 0) rfl [] (by decide) hF) Try.isAgg3 rfl rfl) ?_
 refine mp (.pointer (some ((⟨g389, 0, none⟩ : Addr).add 1))) (pu_ixa (A := ⟨g389, 0, none⟩) (a := 1) (sz := 1) Try.underlying67 Try.sizeOf3 rfl rfl (by decide)) ?_
 refine mixE.load hM (v := .int .i64 x65.2) (fun _ hF => ld_fld (hS.bx2 (i := 0) rfl [] (by decide) hF) Try.isAgg3 rfl rfl) ?_
 refine mp (.int .i64 x65.1) (pu_assign rfl) ?_
 refine mp (.int .i64 x65.2) (pu_assign rfl) ?_
 refine mixE.nil ?_
 clear hS hM
 refine hK393 _ _ ?_
 refine Wc.fresh fun E396 hE => ?_
 have e2 := (congrFun hE 2).trans e2
 have e4 := (congrFun hE 4).trans e4
 have e5 := (congrFun hE 5).trans e5
 have e6 := (congrFun hE 6).trans e6
 have e7 := (congrFun hE 7).trans e7
 have e8 := (congrFun hE 8).trans e8
 have e9 := (congrFun hE 9).trans e9
 have e10 : E396 10 = .int .i64 v34_0 := (congrFun hE 10).trans rfl
 have e11 : E396 11 = .pointer (some ⟨g389, 0, none⟩) := (congrFun hE 11).trans rfl
 have e12 : E396 12 = .int .i64 x65.1 := (congrFun hE 12).trans rfl
 have e13 : E396 13 = .int .i64 x65.2 := (congrFun hE 13).trans rfl
 have e32 := (congrFun hE 32).trans e32
 have e33 := (congrFun hE 33).trans e33
 have e34 := (congrFun hE 34).trans e34
 have e35 : E396 35 = .bool (decide (v34_0 < (crossings_1.length : Int))) := (congrFun hE 35).trans rfl
 clear hE
 refine Wc.seq fun K397 hK397 => ?_
 refine Wc.regionMix [] (frm [] ([] : List Fact) ([] : List Fact)) (fun _ => rfl) mixed (by decide +kernel) (by decide +kernel) fun w399 hw398 => ?_
 replace hC := hC.step (Fr.of_drew hw398)
 have hM := Fr.refl (fun k => k ∈ blocks ([] : List Fact)) w399
 clear hw398
 have hS := hC
 replace hC : Cx _ O0 w _ ([_, _, _, _, _, _, _, _, _, _] ++ (rowsF 58 (.pr (.int .i64) (.int .i64)) hsqf363_0 qf41_0 ++ (rowsF 58 (.pr (.int .i64) (.int .i64)) hsqf355_0 qf49_0 ++ ([] : List Fact)))) := hC
 refine mp (.pointer (some ((⟨g5, 0, none⟩ : Addr).add 0))) (pu_field (sz := 1) Try.underlying24 rfl Try.sizeOf22 (by decide) rfl e2) ?_
 refine mixE.load hM (v := .slice Ag_0_0 g_0_0.length cg_0_0) (fun _ hF => ld_fld (hS.bx2 (i := 1) rfl [] (by decide) hF) Try.isAgg22 rfl rfl) ?_
 refine mp (.int .i64 x65.1) (pu_move e12) ?_
 obtain ⟨x86, h401, hb⟩ := bd hb
 obtain ⟨ad402, cs403, hA, ho406, hc404, hr405⟩ := hS.elr2 (i := 2) rfl (get_some h401).2 []
 subst hA
 refine mp (.pointer (some (ad402.add (x65.1.toNat * 1)))) (pu_index (a := x65.1) Try.underlying22 Try.sizeOf3 rfl rfl (get_some h401).1) ?_
 replace hC : Cx _ O0 w _ ([_, .box g5 24 [.slice (some ad402) g_0_0.length cg_0_0, .slice Ag_0_1 g_0_1.length cg_0_1], .ro (.sl (.int .i64)) [.slice (some ad402) g_0_0.length cg_0_0] g_0_0, _, _, _, _, _, _, _] ++ (rowsF 58 (.pr (.int .i64) (.int .i64)) hsqf363_0 qf41_0 ++ (rowsF 58 (.pr (.int .i64) (.int .i64)) hsqf355_0 qf49_0 ++ ([] : List Fact)))) := hC
 obtain ⟨rfl, hr405'⟩ := hr405
 refine mixE.load hM (v := .int .i64 x86) (fun _ hF => ld_one Try.isAgg3 rfl (hF.cell (hc404 0 _ rfl) (off1 ho406))) ?_
 refine mp (.pointer (some ((⟨g5, 0, none⟩ : Addr).add 1))) (pu_field (sz := 1) Try.underlying24 rfl Try.sizeOf22 (by decide) rfl e2) ?_
 refine mixE.load hM (v := .slice Ag_0_1 g_0_1.length cg_0_1) (fun _ hF => ld_fld (hS.bx2 (i := 1) rfl [] (by decide) hF) Try.isAgg22 rfl rfl) ?_
 refine mp (.int .i64 x65.1) (pu_move e12) ?_
 obtain ⟨x93, h408, hb⟩ := bd hb
 obtain ⟨ad409, cs410, hA, ho413, hc411, hr412⟩ := hS.elr2 (i := 3) rfl (get_some h408).2 []
 subst hA
 refine mp (.pointer (some (ad409.add (x65.1.toNat * 1)))) (pu_index (a := x65.1) Try.underlying22 Try.sizeOf3 rfl rfl (get_some h408).1) ?_
 replace hC : Cx _ O0 w _ ([_, .box g5 24 [.slice (some ad402) g_0_0.length cg_0_0, .slice (some ad409) g_0_1.length cg_0_1], _, .ro (.sl (.int .i64)) [.slice (some ad409) g_0_1.length cg_0_1] g_0_1, _, _, _, _, _, _] ++ (rowsF 58 (.pr (.int .i64) (.int .i64)) hsqf363_0 qf41_0 ++ (rowsF 58 (.pr (.int .i64) (.int .i64)) hsqf355_0 qf49_0 ++ ([] : List Fact)))) := hC
 obtain ⟨rfl, hr412'⟩ := hr412
 refine mixE.load hM (v := .int .i64 x93) (fun _ hF => ld_one Try.isAgg3 rfl (hF.cell (hc411 0 _ rfl) (off1 ho413))) ?_
 refine mp (.bool (decide (x86 < x93))) (pu_lss (k := .i64) (a := x86) (b := x93) rfl rfl) ?_
 refine mp (.slice A23 y21.length c25) (pu_move e9) ?_
 refine mp (.int .i64 x65.2) (pu_move e13) ?_
 obtain ⟨x100, h415, hb⟩ := bd hb
 obtain ⟨ad416, cs417, hA, ho420, hc418, hr419⟩ := hS.elo2 (i := 8) rfl (get_some h415).2 [] (by decide)
 subst hA
 refine mp (.pointer (some (ad416.add (x65.2.toNat * 1)))) (pu_index (a := x65.2) Try.underlying22 Try.sizeOf3 rfl rfl (get_some h415).1) ?_
 replace hC : Cx _ O0 w _ ([_, _, _, _, _, _, _, _, .own 3 (.int .i64) (.slice (some ad416) y21.length c25) y21, _] ++ (rowsF 58 (.pr (.int .i64) (.int .i64)) hsqf363_0 qf41_0 ++ (rowsF 58 (.pr (.int .i64) (.int .i64)) hsqf355_0 qf49_0 ++ ([] : List Fact)))) := hC
 obtain ⟨rfl, hr419'⟩ := hr419
 refine mixE.load hM (v := .int .i64 x100) (fun _ hF => ld_one Try.isAgg3 rfl (hF.cell (hc418 0 _ rfl) (off1 ho420))) ?_
 refine mp (.slice A14 y12.length c16) (pu_move e8) ?_
 refine mp (.int .i64 x65.2) (pu_move e13) ?_
 obtain ⟨x107, h422, hb⟩ := bd hb
 obtain ⟨ad423, cs424, hA, ho427, hc425, hr426⟩ := hS.elo2 (i := 7) rfl (get_some h422).2 [] (by decide)
 subst hA
 refine mp (.pointer (some (ad423.add (x65.2.toNat * 1)))) (pu_index (a := x65.2) Try.underlying22 Try.sizeOf3 rfl rfl (get_some h422).1) ?_
 replace hC : Cx _ O0 w _ ([_, _, _, _, _, _, _, .own 3 (.int .i64) (.slice (some ad423) y12.length c16) y12, _, _] ++ (rowsF 58 (.pr (.int .i64) (.int .i64)) hsqf363_0 qf41_0 ++ (rowsF 58 (.pr (.int .i64) (.int .i64)) hsqf355_0 qf49_0 ++ ([] : List Fact)))) := hC
 obtain ⟨rfl, hr426'⟩ := hr426
 refine mixE.load hM (v := .int .i64 x107) (fun _ hF => ld_one Try.isAgg3 rfl (hF.cell (hc425 0 _ rfl) (off1 ho427))) ?_
 refine mp (.bool (decide (x100 < x107))) (pu_lss (k := .i64) (a := x100) (b := x107) rfl rfl) ?_
 refine mp (.bool (decide (x86 < x93))) (pu_assign rfl) ?_
 refine mp (.bool (decide (x100 < x107))) (pu_assign rfl) ?_
 refine mixE.nil ?_
 clear hS hM
 refine hK397 _ _ ?_
 refine Wc.fresh fun E428 hE => ?_
 have e2 := (congrFun hE 2).trans e2
 have e4 := (congrFun hE 4).trans e4
 have e5 := (congrFun hE 5).trans e5
 have e6 := (congrFun hE 6).trans e6
 have e7 := (congrFun hE 7).trans e7
 have e8 := (congrFun hE 8).trans e8
 have e9 := (congrFun hE 9).trans e9
 have e10 := (congrFun hE 10).trans e10
 have e11 := (congrFun hE 11).trans e11
 have e12 := (congrFun hE 12).trans e12
 have e13 := (congrFun hE 13).trans e13
 have e14 : E428 14 = .bool (decide (x86 < x93)) := (congrFun hE 14).trans rfl
 have e15 : E428 15 = .bool (decide (x100 < x107)) := (congrFun hE 15).trans rfl
 have e32 := (congrFun hE 32).trans e32
 have e33 := (congrFun hE 33).trans e33
 have e34 := (congrFun hE 34).trans e34
 have e35 := (congrFun hE 35).trans e35
 clear hE
 refine Wc.seq fun K429 hK429 => ?_
 refine rg ?_
 refine lp (.int .i64 v34_0) (pu_move e10) ?_
 obtain ⟨z116, h431, hb⟩ := bd hb
 refine lp (.int .i64 z116) (pu_mulc (a := 4) (b := v34_0) rfl rfl h431) ?_
 obtain ⟨z118, h433, hb⟩ := bd hb
 refine lp (.int .i64 z118) (pu_addc (a := z116) (b := 1) rfl rfl h433) ?_
 refine lp (.int .i64 v34_0) (pu_move e10) ?_
 obtain ⟨z120, h435, hb⟩ := bd hb
 refine lp (.int .i64 z120) (pu_mulc (a := 4) (b := v34_0) rfl rfl h435) ?_
 obtain ⟨z122, h437, hb⟩ := bd hb
 refine lp (.int .i64 z122) (pu_addc (a := z120) (b := 3) rfl rfl h437) ?_
 refine lp (.agg #[.int .i64 z118, .int .i64 z122]) (pu_builds (places := [(0, 1), (1, 1)]) (pv := [(0, .int .i64 z118), (1, .int .i64 z122)]) Try.type58 Try.underlying58 rfl (mp_cons Try.type3 (mp_cons Try.type3 mp_nil rfl rfl) rfl rfl) rfl (by simp [Instr.fill, Value.cells])) ?_
 refine lex.op (hC.alloc (cs := [.int .i64 0, .int .i64 0]) Try.zeroValue58 rfl) ?_
 rintro _ w439 ⟨g438, rfl, hC, hF, hG⟩
 clear hG
 replace hC : Cx _ O0 w _ ([.box g438 58 [.int .i64 0, .int .i64 0], _, _, _, _, _, _, _, _, _, _] ++ (rowsF 58 (.pr (.int .i64) (.int .i64)) hsqf363_0 qf41_0 ++ (rowsF 58 (.pr (.int .i64) (.int .i64)) hsqf355_0 qf49_0 ++ ([] : List Fact)))) := hC
 refine lp (.int .i64 (-1)) (pu_assign rfl) ?_
 refine lex.sk (hC.seta (i := 0) (ds := [.int .i64 z118, .int .i64 z122]) rfl Try.type58 rfl rfl rfl rfl rfl) ?_
 rintro w441 ⟨hC, hF⟩
 refine ln ?_
 refine hK429 _ _ ?_
 refine Wc.seqJ (fun E wv => ∃ (v16_1 : Int) (v72_1 : Bool) (bf126_0_1 : Int) (bf126_1_1 : Int), E 2 = .pointer (some ⟨g5, 0, none⟩) ∧ E 4 = .slice Al4_0 l4_0.length cl4_0 ∧ E 5 = .slice A358 (((List.replicate (g_0_0.length : Int).toNat (Value.slice none 0 0))).length) c359 ∧ E 6 = .slice A350 (((List.replicate (g_0_0.length : Int).toNat (Value.slice none 0 0))).length) c351 ∧ E 7 = .int .i64 (g_0_0.length : Int) ∧ E 8 = .slice (some ad423) y12.length c16 ∧ E 9 = .slice (some ad416) y21.length c25 ∧ E 10 = .int .i64 v34_0 ∧ E 11 = .pointer (some ⟨g389, 0, none⟩) ∧ E 12 = .int .i64 x65.1 ∧ E 13 = .int .i64 x65.2 ∧ E 14 = .bool (decide (x86 < x93)) ∧ E 15 = .bool (decide (x100 < x107)) ∧ E 16 = .int .i64 v16_1 ∧ E 17 = .pointer (some ⟨g438, 0, none⟩) ∧ E 32 = .slice (some ad381) crossings_1.length ccrossings_1 ∧ E 33 = .int .i64 (crossings_1.length : Int) ∧ E 34 = .int .i64 v34_0 ∧ E 35 = .bool (decide (v34_0 < (crossings_1.length : Int))) ∧ E 72 = .bool v72_1 ∧ I64 v16_1 ∧ I64 bf126_0_1 ∧ I64 bf126_1_1 ∧ Cx (fun _ => False) O0 w wv ([.box g5 24 [.slice (some ad402) g_0_0.length cg_0_0, .slice (some ad409) g_0_1.length cg_0_1], .ro (.sl (.int .i64)) [.slice (some ad402) g_0_0.length cg_0_0] g_0_0, .ro (.sl (.int .i64)) [.slice (some ad409) g_0_1.length cg_0_1] g_0_1, .own 3 (.int .i64) (.slice Al4_0 l4_0.length cl4_0) l4_0, .own 56 .raw (.slice A358 (((List.replicate (g_0_0.length : Int).toNat (Value.slice none 0 0))).length) c359) hsqf363_0, .own 56 .raw (.slice A350 (((List.replicate (g_0_0.length : Int).toNat (Value.slice none 0 0))).length) c351) hsqf355_0, .own 3 (.int .i64) (.slice (some ad423) y12.length c16) y12, .own 3 (.int .i64) (.slice (some ad416) y21.length c25) y21, .box g389 67 [.int .i64 x65.1, .int .i64 x65.2], .box g438 58 [.int .i64 bf126_0_1, .int .i64 bf126_1_1], .ro (.sl (.pr (.int .i64) (.int .i64))) [.slice (some ad381) crossings_1.length ccrossings_1] crossings_1] ++ (rowsF 58 (.pr (.int .i64) (.int .i64)) hsqf363_0 qf41_0 ++ (rowsF 58 (.pr (.int .i64) (.int .i64)) hsqf355_0 qf49_0 ++ ([] : List Fact)))) ∧ F.gridlink_segments_j1 n l4_0 v34_0 qf41_0 qf49_0 x65 v16_1 v72_1 bf126_0_1 bf126_1_1 = some o373) (fun K442 hK442 => ?_) ?_
 refine Wc.seq fun K443 hK443 => ?_
 refine rg ?_
 replace hC : Cx _ O0 w _ ([.box g438 58 [.int .i64 z118, .int .i64 z122], _, _, _, _, _, _, _, _, _, _] ++ (rowsF 58 (.pr (.int .i64) (.int .i64)) hsqf363_0 qf41_0 ++ (rowsF 58 (.pr (.int .i64) (.int .i64)) hsqf355_0 qf49_0 ++ ([] : List Fact)))) := hC
 refine lp (.bool (decide (x86 < x93))) (pu_move e14) ?_
 refine lp (.bool (decide (x100 < x107))) (pu_move e15) ?_
 refine lp (.bool (!((decide (x86 < x93)) == (decide (x100 < x107))))) (pu_neqb (p := (decide (x86 < x93))) (q := (decide (x100 < x107))) Try.underlying4 rfl rfl) ?_
 refine ln ?_
 refine hK443 _ _ ?_
 refine Wc.fresh fun E444 hE => ?_
 have e2 := (congrFun hE 2).trans e2
 have e4 := (congrFun hE 4).trans e4
 have e5 := (congrFun hE 5).trans e5
 have e6 := (congrFun hE 6).trans e6
 have e7 := (congrFun hE 7).trans e7
 have e8 := (congrFun hE 8).trans e8
 have e9 := (congrFun hE 9).trans e9
 have e10 := (congrFun hE 10).trans e10
 have e11 := (congrFun hE 11).trans e11
 have e12 := (congrFun hE 12).trans e12
 have e13 := (congrFun hE 13).trans e13
 have e14 := (congrFun hE 14).trans e14
 have e15 := (congrFun hE 15).trans e15
 have e16 : E444 16 = .int .i64 (-1) := (congrFun hE 16).trans rfl
 have e17 : E444 17 = .pointer (some ⟨g438, 0, none⟩) := (congrFun hE 17).trans rfl
 have e32 := (congrFun hE 32).trans e32
 have e33 := (congrFun hE 33).trans e33
 have e34 := (congrFun hE 34).trans e34
 have e35 := (congrFun hE 35).trans e35
 have e72 : E444 72 = .bool (!((decide (x86 < x93)) == (decide (x100 < x107)))) := (congrFun hE 72).trans rfl
 clear hE
 refine Wc.cond (t := (!((decide (x86 < x93)) == (decide (x100 < x107))))) (e72) (fun hq445 => ?_) (fun hq445 => ?_)
 replace hb := tt hq445 hb
 refine rg ?_
 refine lp (.int .i64 v34_0) (pu_move e10) ?_
 obtain ⟨z132, h447, hb⟩ := bd hb
 refine lp (.int .i64 z132) (pu_mulc (a := 4) (b := v34_0) rfl rfl h447) ?_
 obtain ⟨z134, h449, hb⟩ := bd hb
 refine lp (.int .i64 z134) (pu_addc (a := z132) (b := 3) rfl rfl h449) ?_
 refine lp (.int .i64 v34_0) (pu_move e10) ?_
 obtain ⟨z136, h451, hb⟩ := bd hb
 refine lp (.int .i64 z136) (pu_mulc (a := 4) (b := v34_0) rfl rfl h451) ?_
 obtain ⟨z138, h453, hb⟩ := bd hb
 refine lp (.int .i64 z138) (pu_addc (a := z136) (b := 1) rfl rfl h453) ?_
 refine lp (.agg #[.int .i64 z134, .int .i64 z138]) (pu_builds (places := [(0, 1), (1, 1)]) (pv := [(0, .int .i64 z134), (1, .int .i64 z138)]) Try.type58 Try.underlying58 rfl (mp_cons Try.type3 (mp_cons Try.type3 mp_nil rfl rfl) rfl rfl) rfl (by simp [Instr.fill, Value.cells])) ?_
 refine lp (.int .i64 1) (pu_assign rfl) ?_
 refine lex.sk (hC.seta (i := 0) (ds := [.int .i64 z134, .int .i64 z138]) rfl Try.type58 rfl rfl rfl e17 rfl) ?_
 rintro w454 ⟨hC, hF⟩
 refine ln ?_
 replace hC : Cx _ O0 w _ ([.box g438 58 [.int .i64 z134, .int .i64 z138], _, _, _, _, _, _, _, _, _, _] ++ (rowsF 58 (.pr (.int .i64) (.int .i64)) hsqf363_0 qf41_0 ++ (rowsF 58 (.pr (.int .i64) (.int .i64)) hsqf355_0 qf49_0 ++ ([] : List Fact)))) := hC
 exact hK442 _ _ ⟨1, (!((decide (x86 < x93)) == (decide (x100 < x107)))), z134, z138, e2, e4, e5, e6, e7, e8, e9, e10, e11, e12, e13, e14, e15, rfl, e17, e32, e33, e34, e35, e72, (show I64 1 from by unfold I64; omega), (chk_rng h449), (chk_rng h453), hC.selT [2, 3, 4, 5, 6, 7, 8, 9, 1, 0, 10] (by decide), hb⟩
 replace hb := tf hq445 hb
 refine Wc.skip ?_
 exact hK442 _ _ ⟨(-1), (!((decide (x86 < x93)) == (decide (x100 < x107)))), z118, z122, e2, e4, e5, e6, e7, e8, e9, e10, e11, e12, e13, e14, e15, e16, e17, e32, e33, e34, e35, e72, (show I64 (-1) from by unfold I64; omega), (chk_rng h433), (chk_rng h437), hC.selT [2, 3, 4, 5, 6, 7, 8, 9, 1, 0, 10] (by decide), hb⟩
 clear hb hC
 rintro E456 w455 ⟨v16_1, v72_1, bf126_0_1, bf126_1_1, e2, e4, e5, e6, e7, e8, e9, e10, e11, e12, e13, e14, e15, e16, e17, e32, e33, e34, e35, e72, hrv16_1, hrbf440_0_1, hrbf440_1_1, hC, hb⟩
 unfold F.gridlink_segments_j1 at hb
 refine Wc.seq fun K457 hK457 => ?_
 refine rg ?_
 replace hC : Cx _ O0 w _ ([_, _, _, _, _, _, _, _, _, .box g438 58 [.int .i64 bf126_0_1, .int .i64 bf126_1_1], _] ++ (rowsF 58 (.pr (.int .i64) (.int .i64)) hsqf363_0 qf41_0 ++ (rowsF 58 (.pr (.int .i64) (.int .i64)) hsqf355_0 qf49_0 ++ ([] : List Fact)))) := hC
 refine lp (.slice Al4_0 l4_0.length cl4_0) (pu_move e4) ?_
 refine lp (.int .i64 v16_1) (pu_move e16) ?_
 refine lex.op (hC.lit (s := (.int .i64)) (vs := [.int .i64 v16_1]) (xs := [v16_1]) Try.underlying22 Try.type3 rfl rfl (Nat.le_of_ble_eq_true rfl) rfl rfl (by simp [Value.cells, Sh.n]) rfl (show Elems _ _ (.int .i64) ([.int .i64 v16_1] ++ ([])) ([v16_1] : List Int) from Elems.cons (⟨rfl, I64.wr hrv16_1⟩) (Elems.nil _ _ _))) ?_
 rintro _ w462 ⟨A458, c459, rfl, hl460, hc461, hC, hF, hN⟩
 clear hF hN
 replace hC : Cx _ O0 w _ ([.own 3 (.int .i64) (.slice A458 ((([v16_1] : List Int)).length) c459) ([v16_1] : List Int), _, _, _, _, _, _, _, _, _, _, _] ++ (rowsF 58 (.pr (.int .i64) (.int .i64)) hsqf363_0 qf41_0 ++ (rowsF 58 (.pr (.int .i64) (.int .i64)) hsqf355_0 qf49_0 ++ ([] : List Fact)))) := hC
 obtain ⟨u150, h465, hb⟩ := bd hb
 refine lex.op (hC.app (i := 4) (s := (.int .i64)) (xs := l4_0) (ys := ([v16_1] : List Int)) (m := ((([v16_1] : List Int)).length)) rfl Try.underlying22 Try.underlying22 Try.type3 rfl rfl rfl (hC.srco (i := 0) rfl) rfl rfl (by have := lim_some h465; simp at this ⊢ <;> omega) (by decide)) ?_
 rintro _ w470 ⟨A466, c467, rfl, hl468, hc469, hC, hF, hN⟩
 clear hF hN
 replace hC : Cx _ O0 w _ ([_, _, _, _, .own 3 (.int .i64) (.slice A466 ((l4_0 ++ ([v16_1] : List Int)).length) c467) (l4_0 ++ ([v16_1] : List Int)), _, _, _, _, _, _, _] ++ (rowsF 58 (.pr (.int .i64) (.int .i64)) hsqf363_0 qf41_0 ++ (rowsF 58 (.pr (.int .i64) (.int .i64)) hsqf355_0 qf49_0 ++ ([] : List Fact)))) := hC
 refine lp (.slice A466 ((l4_0 ++ ([v16_1] : List Int)).length) c467) (pu_assign rfl) ?_
 refine ln ?_
 refine hK457 _ _ ?_
 refine Wc.seq fun K471 hK471 => ?_
 obtain ⟨x158, h473, hb⟩ := bd hb
 obtain ⟨v474, hv475, -⟩ := rowsF_get (e := 58) (s := (.pr (.int .i64) (.int .i64))) hNqf363_0 (get_some h473).2
 replace hC := Cx.takeRow hC hv475 (get_some h473).2
 obtain ⟨A476, c477, hvf480, hl478, hc479⟩ := (hC.ow (i := 0) rfl).form
 subst hvf480
 replace hC : Cx _ O0 w _ ([.own 58 (.pr (.int .i64) (.int .i64)) (.slice A476 x158.length c477) x158, _, _, _, _, _, _, _, _, _, _, _, _] ++ ((rowsF 58 (.pr (.int .i64) (.int .i64)) hsqf363_0 qf41_0).eraseIdx x65.1.toNat ++ (rowsF 58 (.pr (.int .i64) (.int .i64)) hsqf355_0 qf49_0 ++ ([] : List Fact)))) := hC
 refine Wc.regionMix [90] (frm [90] [.own 58 (.pr (.int .i64) (.int .i64)) (.slice A476 x158.length c477) x158] [.own 56 .raw (.slice A358 (((List.replicate (g_0_0.length : Int).toNat (Value.slice none 0 0))).length) c359) hsqf363_0]) (fun _ => rfl) mixed (by decide +kernel) (by decide +kernel) fun w483 hw482 => ?_
 replace hC := hC.step (Fr.of_drew hw482)
 have hM := Fr.refl (fun k => k ∈ blocks [.own 58 (.pr (.int .i64) (.int .i64)) (.slice A476 x158.length c477) x158]) w483
 clear hw482
 have hS := hC
 have hBf481 : Beside [.own 58 (.pr (.int .i64) (.int .i64)) (.slice A476 x158.length c477) x158] w483 (.slice A476 x158.length c477) := Beside.of (i := 0) rfl
 have hD : Fr (fun k => k ∈ blocks ([.own 58 (.pr (.int .i64) (.int .i64)) (.slice A476 x158.length c477) x158] ++ [.own 56 .raw (.slice A358 (((List.replicate (g_0_0.length : Int).toNat (Value.slice none 0 0))).length) c359) hsqf363_0])) w483 w483 := hM.wide
 have hUf481 : Beside ([.own 58 (.pr (.int .i64) (.int .i64)) (.slice A476 x158.length c477) x158] ++ [.own 56 .raw (.slice A358 (((List.replicate (g_0_0.length : Int).toNat (Value.slice none 0 0))).length) c359) hsqf363_0]) w483 (.slice A476 x158.length c477) := Beside.of (i := 0) rfl
 have hUf363 : Beside ([.own 58 (.pr (.int .i64) (.int .i64)) (.slice A476 x158.length c477) x158] ++ [.own 56 .raw (.slice A358 (((List.replicate (g_0_0.length : Int).toNat (Value.slice none 0 0))).length) c359) hsqf363_0]) w483 (.slice A358 (((List.replicate (g_0_0.length : Int).toNat (Value.slice none 0 0))).length) c359) := Beside.of (i := 1) rfl
 replace hC : Cx _ O0 w _ ([_, _, _, _, _, _, _, _, _, _, _, _, _] ++ ((rowsF 58 (.pr (.int .i64) (.int .i64)) hsqf363_0 qf41_0).eraseIdx x65.1.toNat ++ (rowsF 58 (.pr (.int .i64) (.int .i64)) hsqf355_0 qf49_0 ++ ([] : List Fact)))) := hC
 refine mp (.slice A358 (((List.replicate (g_0_0.length : Int).toNat (Value.slice none 0 0))).length) c359) (pu_move e5) ?_
 refine mp (.int .i64 x65.1) (pu_move e12) ?_
 refine mp (.slice A358 (((List.replicate (g_0_0.length : Int).toNat (Value.slice none 0 0))).length) c359) (pu_move e5) ?_
 refine mp (.int .i64 x65.1) (pu_move e12) ?_
 obtain ⟨x170, h485, hb⟩ := bd hb
 obtain ⟨v490, hv491, -⟩ := rowsF_get (e := 58) (s := (.pr (.int .i64) (.int .i64))) hNqf363_0 (get_some h485).2
 obtain ⟨ad486, cs487, hA, ho492, hc488, hr489⟩ := hS.elo2 (i := 6) rfl hv491 [0] (by decide)
 subst hA
 refine mp (.pointer (some (ad486.add (x65.1.toNat * 1)))) (pu_index (a := x65.1) Try.underlying51 Try.sizeOf56 rfl rfl (by rw [(hC.ow (i := 6) rfl).sl_len.1, hNqf363_0]; exact (get_some h485).1)) ?_
 replace hC : Cx _ O0 w _ ([_, _, _, _, _, _, .own 56 .raw (.slice (some ad486) (((List.replicate (g_0_0.length : Int).toNat (Value.slice none 0 0))).length) c359) hsqf363_0, _, _, _, _, _, _] ++ ((rowsF 58 (.pr (.int .i64) (.int .i64)) hsqf363_0 qf41_0).eraseIdx x65.1.toNat ++ (rowsF 58 (.pr (.int .i64) (.int .i64)) hsqf355_0 qf49_0 ++ ([] : List Fact)))) := hC
 obtain rfl := Option.some.inj (hv491.symm.trans hv475)
 obtain ⟨rfl, -⟩ := hr489
 refine mixE.load hM (v := .slice A476 x158.length c477) (fun _ hF => ld_one Try.isAgg56 rfl (hF.cell (hc488 0 _ rfl) (off1 ho492))) ?_
 refine mixE.steady hD (v := .agg #[.int .i64 bf126_0_1, .int .i64 bf126_1_1]) (fun _ hF => ld_blk (hS.bx2 (i := 11) rfl [0, 6] (by decide) hF) Try.isAgg58 Try.sizeOf58 e17) ?_
 refine mixE.op hM (hC.lit (s := (.pr (.int .i64) (.int .i64))) (vs := [.agg #[.int .i64 bf126_0_1, .int .i64 bf126_1_1]]) (xs := [(bf126_0_1, bf126_1_1)]) Try.underlying56 Try.type58 rfl rfl (Nat.le_of_ble_eq_true rfl) rfl rfl (by simp [Value.cells, Sh.n]) rfl (show Elems _ _ (.pr (.int .i64) (.int .i64)) ([.int .i64 bf126_0_1, .int .i64 bf126_1_1] ++ ([])) ([(bf126_0_1, bf126_1_1)] : List (Int × Int)) from Elems.cons (⟨[.int .i64 bf126_0_1], [.int .i64 bf126_1_1], rfl, ⟨rfl, I64.wr hrbf440_0_1⟩, ⟨rfl, I64.wr hrbf440_1_1⟩⟩) (Elems.nil _ _ _))) ?_
 rintro _ w497 ⟨A493, c494, rfl, hl495, hc496, hC, hF, hN⟩
 have hBf498 := Beside.new hM hN
 have hUf498 := Beside.new (hM.wide (H := [.own 56 .raw (.slice (some ad486) (((List.replicate (g_0_0.length : Int).toNat (Value.slice none 0 0))).length) c359) hsqf363_0])) hN
 replace hM := hM.none hF
 replace hD := hM.wide (H := [.own 56 .raw (.slice (some ad486) (((List.replicate (g_0_0.length : Int).toNat (Value.slice none 0 0))).length) c359) hsqf363_0])
 refine ⟨hM, ?_⟩
 clear hF hN
 replace hC : Cx _ O0 w _ ([.own 58 (.pr (.int .i64) (.int .i64)) (.slice A493 ((([(bf126_0_1, bf126_1_1)] : List (Int × Int))).length) c494) ([(bf126_0_1, bf126_1_1)] : List (Int × Int)), _, _, _, _, _, _, _, _, _, _, _, _, _] ++ ((rowsF 58 (.pr (.int .i64) (.int .i64)) hsqf363_0 qf41_0).eraseIdx x65.1.toNat ++ (rowsF 58 (.pr (.int .i64) (.int .i64)) hsqf355_0 qf49_0 ++ ([] : List Fact)))) := hC
 obtain ⟨u185, h500, hb⟩ := bd hb
 refine mixE.op hM (hC.app (i := 1) (s := (.pr (.int .i64) (.int .i64))) (xs := x158) (ys := ([(bf126_0_1, bf126_1_1)] : List (Int × Int))) (m := ((([(bf126_0_1, bf126_1_1)] : List (Int × Int))).length)) rfl Try.underlying56 Try.underlying56 Try.type58 rfl rfl rfl (hC.srco (i := 0) rfl) rfl rfl (by have := lim_some h500; simp at this ⊢ <;> omega) (by decide)) ?_
 rintro _ w505 ⟨A501, c502, rfl, hl503, hc504, hC, hF, hN⟩
 have hB := hBf481
 replace hBf481 := hB.app hM hN
 replace hM := hM.beside hB hF
 clear hB
 replace hD := hM.wide (H := [.own 56 .raw (.slice (some ad486) (((List.replicate (g_0_0.length : Int).toNat (Value.slice none 0 0))).length) c359) hsqf363_0])
 refine ⟨hM, ?_⟩
 clear hF hN
 replace hC : Cx _ O0 w _ ([_, .own 58 (.pr (.int .i64) (.int .i64)) (.slice A501 ((x158 ++ ([(bf126_0_1, bf126_1_1)] : List (Int × Int))).length) c502) (x158 ++ ([(bf126_0_1, bf126_1_1)] : List (Int × Int))), _, _, _, _, _, _, _, _, _, _, _, _] ++ ((rowsF 58 (.pr (.int .i64) (.int .i64)) hsqf363_0 qf41_0).eraseIdx x65.1.toNat ++ (rowsF 58 (.pr (.int .i64) (.int .i64)) hsqf355_0 qf49_0 ++ ([] : List Fact)))) := hC
 obtain ⟨x192, h507, hb⟩ := bd hb
 obtain ⟨v512, hv513, -⟩ := rowsF_get (e := 58) (s := (.pr (.int .i64) (.int .i64))) hNqf363_0 (get_some h507).2
 obtain ⟨ad508, cs509, hA, ho514, hc510, hr511⟩ := hS.elo2 (i := 6) rfl hv513 [0] (by decide)
 obtain rfl := Option.some.inj hA
 refine mp (.pointer (some (ad486.add (x65.1.toNat * 1)))) (pu_index (a := x65.1) Try.underlying51 Try.sizeOf56 rfl rfl (by rw [(hC.ow (i := 7) rfl).sl_len.1, hNqf363_0]; exact (get_some h507).1)) ?_
 refine mixE.sk hD (hC.put (i := 7) (s := .raw) rfl rfl Try.sizeOf56 (k := x65.1.toNat) (a := Value.slice A501 ((x158 ++ ([(bf126_0_1, bf126_1_1)] : List (Int × Int))).length) c502) (by rw [hNqf363_0]; exact (List.getElem?_eq_some_iff.1 (get_some h507).2).1) (show Rep _ _ .raw [Value.slice A501 ((x158 ++ ([(bf126_0_1, bf126_1_1)] : List (Int × Int))).length) c502] (Value.slice A501 ((x158 ++ ([(bf126_0_1, bf126_1_1)] : List (Int × Int))).length) c502) from ⟨rfl, rfl⟩) rfl rfl rfl) ?_
 rintro w515 ⟨hC, hF⟩
 replace hD := hD.beside hUf363 hF
 clear hF
 refine ⟨hD, ?_⟩
 replace hC : Cx _ O0 w _ ([_, _, _, _, _, _, _, .own 56 .raw (.slice (some ad486) (((List.replicate (g_0_0.length : Int).toNat (Value.slice none 0 0))).length) c359) (hsqf363_0.set x65.1.toNat (Value.slice A501 ((x158 ++ ([(bf126_0_1, bf126_1_1)] : List (Int × Int))).length) c502)), _, _, _, _, _, _] ++ ((rowsF 58 (.pr (.int .i64) (.int .i64)) hsqf363_0 qf41_0).eraseIdx x65.1.toNat ++ (rowsF 58 (.pr (.int .i64) (.int .i64)) hsqf355_0 qf49_0 ++ ([] : List Fact)))) := hC
 replace hC := hC.selT [1, 0, 2, 3, 4, 5, 6, 7, 8, 9, 10, 11, 12, 13] (by decide)
 replace hC := Cx.putRow hC hNqf363_0 (List.getElem?_eq_some_iff.1 (get_some h507).2).1
 have hN516 : (hsqf363_0.set x65.1.toNat (Value.slice A501 ((x158 ++ ([(bf126_0_1, bf126_1_1)] : List (Int × Int))).length) c502)).length = (qf41_0.set x65.1.toNat (x158 ++ ([(bf126_0_1, bf126_1_1)] : List (Int × Int)))).length := lenset hNqf363_0 _ _ _ _
 replace hC : Cx _ O0 w _ ([_, _, _, _, _, _, _, _, _, _, _, _, _] ++ (rowsF 58 (.pr (.int .i64) (.int .i64)) (hsqf363_0.set x65.1.toNat (Value.slice A501 ((x158 ++ ([(bf126_0_1, bf126_1_1)] : List (Int × Int))).length) c502)) (qf41_0.set x65.1.toNat (x158 ++ ([(bf126_0_1, bf126_1_1)] : List (Int × Int)))) ++ (rowsF 58 (.pr (.int .i64) (.int .i64)) hsqf355_0 qf49_0 ++ ([] : List Fact)))) := hC
 refine mixE.nil ?_
 clear hS hM
 clear hD
 refine hK471 _ _ ?_
 refine Wc.fresh fun E517 hE => ?_
 have e2 := (congrFun hE 2).trans e2
 have e4 : E517 4 = .slice A466 ((l4_0 ++ ([v16_1] : List Int)).length) c467 := (congrFun hE 4).trans rfl
 have e5 := (congrFun hE 5).trans e5
 have e6 := (congrFun hE 6).trans e6
 have e7 := (congrFun hE 7).trans e7
 have e8 := (congrFun hE 8).trans e8
 have e9 := (congrFun hE 9).trans e9
 have e10 := (congrFun hE 10).trans e10
 have e11 := (congrFun hE 11).trans e11
 have e12 := (congrFun hE 12).trans e12
 have e13 := (congrFun hE 13).trans e13
 have e14 := (congrFun hE 14).trans e14
 have e15 := (congrFun hE 15).trans e15
 have e16 := (congrFun hE 16).trans e16
 have e17 := (congrFun hE 17).trans e17
 have e32 := (congrFun hE 32).trans e32
 have e33 := (congrFun hE 33).trans e33
 have e34 := (congrFun hE 34).trans e34
 have e35 := (congrFun hE 35).trans e35
 have e72 := (congrFun hE 72).trans e72
 clear hE
 refine rg ?_
 refine lp (.slice A350 (((List.replicate (g_0_0.length : Int).toNat (Value.slice none 0 0))).length) c351) (pu_move e6) ?_
 refine lp (.int .i64 x65.2) (pu_move e13) ?_
 refine lp (.slice A350 (((List.replicate (g_0_0.length : Int).toNat (Value.slice none 0 0))).length) c351) (pu_move e6) ?_
 refine lp (.int .i64 x65.2) (pu_move e13) ?_
 obtain ⟨x204, h519, hb⟩ := bd hb
 obtain ⟨v524, hv525, -⟩ := rowsF_get (e := 58) (s := (.pr (.int .i64) (.int .i64))) hNqf355_0 (get_some h519).2
 obtain ⟨ad520, cs521, hA, hc522, hr523⟩ := hC.elo (i := 7) rfl hv525
 subst hA
 refine lp (.pointer (some (ad520.add (x65.2.toNat * 1)))) (pu_index (a := x65.2) Try.underlying51 Try.sizeOf56 rfl rfl (by rw [(hC.ow (i := 7) rfl).sl_len.1, hNqf355_0]; exact (get_some h519).1)) ?_
 replace hC : Cx _ O0 w _ ([_, _, _, _, _, _, _, .own 56 .raw (.slice (some ad520) (((List.replicate (g_0_0.length : Int).toNat (Value.slice none 0 0))).length) c351) hsqf355_0, _, _, _, _, _] ++ (rowsF 58 (.pr (.int .i64) (.int .i64)) (hsqf363_0.set x65.1.toNat (Value.slice A501 ((x158 ++ ([(bf126_0_1, bf126_1_1)] : List (Int × Int))).length) c502)) (qf41_0.set x65.1.toNat (x158 ++ ([(bf126_0_1, bf126_1_1)] : List (Int × Int)))) ++ (rowsF 58 (.pr (.int .i64) (.int .i64)) hsqf355_0 qf49_0 ++ ([] : List Fact)))) := hC
 replace hC := hC.swapT
 replace hC : Cx _ O0 w _ ([_, _, _, _, _, _, _, _, _, _, _, _, _] ++ (rowsF 58 (.pr (.int .i64) (.int .i64)) hsqf355_0 qf49_0 ++ (rowsF 58 (.pr (.int .i64) (.int .i64)) (hsqf363_0.set x65.1.toNat (Value.slice A501 ((x158 ++ ([(bf126_0_1, bf126_1_1)] : List (Int × Int))).length) c502)) (qf41_0.set x65.1.toNat (x158 ++ ([(bf126_0_1, bf126_1_1)] : List (Int × Int)))) ++ ([] : List Fact)))) := hC
 replace hC := Cx.takeRow hC hv525 (get_some h519).2
 obtain ⟨A526, c527, hvf530, hl528, hc529⟩ := (hC.ow (i := 0) rfl).form
 subst hvf530
 obtain ⟨rfl, -⟩ := hr523
 replace hC : Cx _ O0 w _ ([.own 58 (.pr (.int .i64) (.int .i64)) (.slice A526 x204.length c527) x204, _, _, _, _, _, _, _, _, _, _, _, _, _] ++ ((rowsF 58 (.pr (.int .i64) (.int .i64)) hsqf355_0 qf49_0).eraseIdx x65.2.toNat ++ (rowsF 58 (.pr (.int .i64) (.int .i64)) (hsqf363_0.set x65.1.toNat (Value.slice A501 ((x158 ++ ([(bf126_0_1, bf126_1_1)] : List (Int × Int))).length) c502)) (qf41_0.set x65.1.toNat (x158 ++ ([(bf126_0_1, bf126_1_1)] : List (Int × Int)))) ++ ([] : List Fact)))) := hC
 refine lv (.slice A526 x204.length c527) (ld_one Try.isAgg56 rfl (hc522 0 _ rfl)) ?_
 refine lp (.int .i64 v34_0) (pu_move e10) ?_
 obtain ⟨z218, h533, hb⟩ := bd hb
 refine lp (.int .i64 z218) (pu_mulc (a := 4) (b := v34_0) rfl rfl h533) ?_
 refine lp (.int .i64 v34_0) (pu_move e10) ?_
 obtain ⟨z220, h535, hb⟩ := bd hb
 refine lp (.int .i64 z220) (pu_mulc (a := 4) (b := v34_0) rfl rfl h535) ?_
 obtain ⟨z222, h537, hb⟩ := bd hb
 refine lp (.int .i64 z222) (pu_addc (a := z220) (b := 2) rfl rfl h537) ?_
 refine lp (.agg #[.int .i64 z218, .int .i64 z222]) (pu_builds (places := [(0, 1), (1, 1)]) (pv := [(0, .int .i64 z218), (1, .int .i64 z222)]) Try.type58 Try.underlying58 rfl (mp_cons Try.type3 (mp_cons Try.type3 mp_nil rfl rfl) rfl rfl) rfl (by simp [Instr.fill, Value.cells])) ?_
 refine lex.op (hC.lit (s := (.pr (.int .i64) (.int .i64))) (vs := [.agg #[.int .i64 z218, .int .i64 z222]]) (xs := [(z218, z222)]) Try.underlying56 Try.type58 rfl rfl (Nat.le_of_ble_eq_true rfl) rfl rfl (by simp [Value.cells, Sh.n]) rfl (show Elems _ _ (.pr (.int .i64) (.int .i64)) ([.int .i64 z218, .int .i64 z222] ++ ([])) ([(z218, z222)] : List (Int × Int)) from Elems.cons (⟨[.int .i64 z218], [.int .i64 z222], rfl, ⟨rfl, I64.wr (chk_rng h533)⟩, ⟨rfl, I64.wr (chk_rng h537)⟩⟩) (Elems.nil _ _ _))) ?_
 rintro _ w542 ⟨A538, c539, rfl, hl540, hc541, hC, hF, hN⟩
 clear hF hN
 replace hC : Cx _ O0 w _ ([.own 58 (.pr (.int .i64) (.int .i64)) (.slice A538 ((([(z218, z222)] : List (Int × Int))).length) c539) ([(z218, z222)] : List (Int × Int)), _, _, _, _, _, _, _, _, _, _, _, _, _, _] ++ ((rowsF 58 (.pr (.int .i64) (.int .i64)) hsqf355_0 qf49_0).eraseIdx x65.2.toNat ++ (rowsF 58 (.pr (.int .i64) (.int .i64)) (hsqf363_0.set x65.1.toNat (Value.slice A501 ((x158 ++ ([(bf126_0_1, bf126_1_1)] : List (Int × Int))).length) c502)) (qf41_0.set x65.1.toNat (x158 ++ ([(bf126_0_1, bf126_1_1)] : List (Int × Int)))) ++ ([] : List Fact)))) := hC
 obtain ⟨u230, h545, hb⟩ := bd hb
 refine lex.op (hC.app (i := 1) (s := (.pr (.int .i64) (.int .i64))) (xs := x204) (ys := ([(z218, z222)] : List (Int × Int))) (m := ((([(z218, z222)] : List (Int × Int))).length)) rfl Try.underlying56 Try.underlying56 Try.type58 rfl rfl rfl (hC.srco (i := 0) rfl) rfl rfl (by have := lim_some h545; simp at this ⊢ <;> omega) (by decide)) ?_
 rintro _ w550 ⟨A546, c547, rfl, hl548, hc549, hC, hF, hN⟩
 clear hF hN
 replace hC : Cx _ O0 w _ ([_, .own 58 (.pr (.int .i64) (.int .i64)) (.slice A546 ((x204 ++ ([(z218, z222)] : List (Int × Int))).length) c547) (x204 ++ ([(z218, z222)] : List (Int × Int))), _, _, _, _, _, _, _, _, _, _, _, _, _] ++ ((rowsF 58 (.pr (.int .i64) (.int .i64)) hsqf355_0 qf49_0).eraseIdx x65.2.toNat ++ (rowsF 58 (.pr (.int .i64) (.int .i64)) (hsqf363_0.set x65.1.toNat (Value.slice A501 ((x158 ++ ([(bf126_0_1, bf126_1_1)] : List (Int × Int))).length) c502)) (qf41_0.set x65.1.toNat (x158 ++ ([(bf126_0_1, bf126_1_1)] : List (Int × Int)))) ++ ([] : List Fact)))) := hC
 obtain ⟨x237, h552, hb⟩ := bd hb
 obtain ⟨v557, hv558, -⟩ := rowsF_get (e := 58) (s := (.pr (.int .i64) (.int .i64))) hNqf355_0 (get_some h552).2
 obtain ⟨ad553, cs554, hA, hc555, hr556⟩ := hC.elo (i := 9) rfl hv558
 obtain rfl := Option.some.inj hA
 refine lp (.pointer (some (ad520.add (x65.2.toNat * 1)))) (pu_index (a := x65.2) Try.underlying51 Try.sizeOf56 rfl rfl (by rw [(hC.ow (i := 9) rfl).sl_len.1, hNqf355_0]; exact (get_some h552).1)) ?_
 refine lex.sk (hC.put (i := 9) (s := .raw) rfl rfl Try.sizeOf56 (k := x65.2.toNat) (a := Value.slice A546 ((x204 ++ ([(z218, z222)] : List (Int × Int))).length) c547) (by rw [hNqf355_0]; exact (List.getElem?_eq_some_iff.1 (get_some h552).2).1) (show Rep _ _ .raw [Value.slice A546 ((x204 ++ ([(z218, z222)] : List (Int × Int))).length) c547] (Value.slice A546 ((x204 ++ ([(z218, z222)] : List (Int × Int))).length) c547) from ⟨rfl, rfl⟩) rfl rfl rfl) ?_
 rintro w559 ⟨hC, hF⟩
 clear hF
 replace hC : Cx _ O0 w _ ([_, _, _, _, _, _, _, _, _, .own 56 .raw (.slice (some ad520) (((List.replicate (g_0_0.length : Int).toNat (Value.slice none 0 0))).length) c351) (hsqf355_0.set x65.2.toNat (Value.slice A546 ((x204 ++ ([(z218, z222)] : List (Int × Int))).length) c547)), _, _, _, _, _] ++ ((rowsF 58 (.pr (.int .i64) (.int .i64)) hsqf355_0 qf49_0).eraseIdx x65.2.toNat ++ (rowsF 58 (.pr (.int .i64) (.int .i64)) (hsqf363_0.set x65.1.toNat (Value.slice A501 ((x158 ++ ([(bf126_0_1, bf126_1_1)] : List (Int × Int))).length) c502)) (qf41_0.set x65.1.toNat (x158 ++ ([(bf126_0_1, bf126_1_1)] : List (Int × Int)))) ++ ([] : List Fact)))) := hC
 replace hC := hC.selT [1, 0, 2, 3, 4, 5, 6, 7, 8, 9, 10, 11, 12, 13, 14] (by decide)
 replace hC := Cx.putRow hC hNqf355_0 (List.getElem?_eq_some_iff.1 (get_some h552).2).1
 have hN560 : (hsqf355_0.set x65.2.toNat (Value.slice A546 ((x204 ++ ([(z218, z222)] : List (Int × Int))).length) c547)).length = (qf49_0.set x65.2.toNat (x204 ++ ([(z218, z222)] : List (Int × Int)))).length := lenset hNqf355_0 _ _ _ _
 replace hC : Cx _ O0 w _ ([_, _, _, _, _, _, _, _, _, _, _, _, _, _] ++ (rowsF 58 (.pr (.int .i64) (.int .i64)) (hsqf355_0.set x65.2.toNat (Value.slice A546 ((x204 ++ ([(z218, z222)] : List (Int × Int))).length) c547)) (qf49_0.set x65.2.toNat (x204 ++ ([(z218, z222)] : List (Int × Int)))) ++ (rowsF 58 (.pr (.int .i64) (.int .i64)) (hsqf363_0.set x65.1.toNat (Value.slice A501 ((x158 ++ ([(bf126_0_1, bf126_1_1)] : List (Int × Int))).length) c502)) (qf41_0.set x65.1.toNat (x158 ++ ([(bf126_0_1, bf126_1_1)] : List (Int × Int)))) ++ ([] : List Fact)))) := hC
 refine ln ?_
 refine hK377 _ _ ?_
 refine rg ?_
 obtain ⟨z247, h562, hb⟩ := bd hb
 refine lp (.int .i64 z247) (pu_addc (a := v34_0) (b := 1) e34 rfl h562) ?_
 refine lp (.int .i64 z247) (pu_move rfl) ?_
 refine ln ?_
 obtain rfl := os hb
 replace hC := hC.swapT
 replace hC : Cx _ O0 w _ ([_, _, _, _, _, _, _, _, _, _, _, _, _, _] ++ (rowsF 58 (.pr (.int .i64) (.int .i64)) (hsqf363_0.set x65.1.toNat (Value.slice A501 ((x158 ++ ([(bf126_0_1, bf126_1_1)] : List (Int × Int))).length) c502)) (qf41_0.set x65.1.toNat (x158 ++ ([(bf126_0_1, bf126_1_1)] : List (Int × Int)))) ++ (rowsF 58 (.pr (.int .i64) (.int .i64)) (hsqf355_0.set x65.2.toNat (Value.slice A546 ((x204 ++ ([(z218, z222)] : List (Int × Int))).length) c547)) (qf49_0.set x65.2.toNat (x204 ++ ([(z218, z222)] : List (Int × Int)))) ++ ([] : List Fact)))) := hC
 exact hK369 m370' _ _ (Nat.lt_succ_self _) ⟨(l4_0 ++ ([v16_1] : List Int)), z247, (qf41_0.set x65.1.toNat (x158 ++ ([(bf126_0_1, bf126_1_1)] : List (Int × Int)))), (qf49_0.set x65.2.toNat (x204 ++ ([(z218, z222)] : List (Int × Int)))), A466, (l4_0 ++ ([v16_1] : List Int)).length, c467, (hsqf363_0.set x65.1.toNat (Value.slice A501 ((x158 ++ ([(bf126_0_1, bf126_1_1)] : List (Int × Int))).length) c502)), (hsqf355_0.set x65.2.toNat (Value.slice A546 ((x204 ++ ([(z218, z222)] : List (Int × Int))).length) c547)), e2, e4, e5, e6, e7, e8, e9, e32, e33, rfl, (chk_rng h562), hN516, hN560, hC.selT [3, 4, 5, 6, 7, 8, 9, 10, 13] (by decide), lN hl0⟩
 replace hb := tf hq376 hb
 refine Wc.exit rfl ?_
 obtain rfl := os hb
 obtain rfl := (lX hl0).symm
 exact hK368 _ _ ⟨l4_0, v34_0, qf41_0, qf49_0, Al4_0, l4_0.length, cl4_0, hsqf363_0, hsqf355_0, e2, e4, e5, e6, e7, e8, e9, hrv34_0, hNqf363_0, hNqf355_0, hC.selT [0, 1, 2, 3, 4, 5, 6, 7] (by decide), hbK0⟩
 clear hb hC hl0
 rintro E564 w563 ⟨l4_0, v34_0, qf41_0, qf49_0, Al4_0, ml4_0, cl4_0, hsqf363_0, hsqf355_0, e2, e4, e5, e6, e7, e8, e9, hrv34_0, hNqf363_0, hNqf355_0, hC, hb⟩
 obtain ⟨rfl, hll4_0, hcl4_0⟩ := (hC.ow (i := 3) rfl).sl_len
 refine hK364 _ _ ?_
 refine Wc.seq fun K565 hK565 => ?_
 refine Wc.seq fun K566 hK566 => ?_
 refine rg ?_
 replace hC : Cx _ O0 w _ ([.box g5 24 [.slice Ag_0_0 g_0_0.length cg_0_0, .slice Ag_0_1 g_0_1.length cg_0_1], .ro (.sl (.int .i64)) [.slice Ag_0_0 g_0_0.length cg_0_0] g_0_0, .ro (.sl (.int .i64)) [.slice Ag_0_1 g_0_1.length cg_0_1] g_0_1, .own 3 (.int .i64) (.slice Al4_0 l4_0.length cl4_0) l4_0, .own 56 .raw (.slice A358 (((List.replicate (g_0_0.length : Int).toNat (Value.slice none 0 0))).length) c359) hsqf363_0, .own 56 .raw (.slice A350 (((List.replicate (g_0_0.length : Int).toNat (Value.slice none 0 0))).length) c351) hsqf355_0, .own 3 (.int .i64) (.slice A14 y12.length c16) y12, .own 3 (.int .i64) (.slice A23 y21.length c25) y21] ++ (rowsF 58 (.pr (.int .i64) (.int .i64)) hsqf363_0 qf41_0 ++ (rowsF 58 (.pr (.int .i64) (.int .i64)) hsqf355_0 qf49_0 ++ ([] : List Fact)))) := hC
 refine lp (.int .i64 (g_0_0.length : Int)) (pu_move e7) ?_
 refine lp (.int .i64 0) (pu_move rfl) ?_
 refine ln ?_
 refine hK566 _ _ ?_
 obtain ⟨o253, hl2, hb⟩ := bd hb
 refine Wc.cut (fun E wv => ∃ (v111_2 : Int) (qf41_2 : List (List (Int × Int))) (qf49_2 : List (List (Int × Int))) (hsqf363_2 : List Value) (hsqf355_2 : List Value), E 4 = .slice Al4_0 l4_0.length cl4_0 ∧ E 5 = .slice A358 (((List.replicate (g_0_0.length : Int).toNat (Value.slice none 0 0))).length) c359 ∧ E 6 = .slice A350 (((List.replicate (g_0_0.length : Int).toNat (Value.slice none 0 0))).length) c351 ∧ I64 v111_2 ∧ hsqf363_2.length = qf41_2.length ∧ hsqf355_2.length = qf49_2.length ∧ Cx (fun _ => False) O0 w wv ([.own 3 (.int .i64) (.slice Al4_0 l4_0.length cl4_0) l4_0, .own 56 .raw (.slice A358 (((List.replicate (g_0_0.length : Int).toNat (Value.slice none 0 0))).length) c359) hsqf363_2, .own 56 .raw (.slice A350 (((List.replicate (g_0_0.length : Int).toNat (Value.slice none 0 0))).length) c351) hsqf355_2] ++ (rowsF 58 (.pr (.int .i64) (.int .i64)) hsqf363_2 qf41_2 ++ (rowsF 58 (.pr (.int .i64) (.int .i64)) hsqf355_2 qf49_2 ++ ([] : List Fact)))) ∧ (some (l4_0, qf41_2, qf49_2) : Option ((List Int) × (List (List (Int × Int))) × (List (List (Int × Int))))) = some r) (fun K568 hK568 => ?_) ?_
 refine Wc.block ?_
 refine Wc.loop (fun m E wv => ∃ (v111_2 : Int) (qf41_2 : List (List (Int × Int))) (qf49_2 : List (List (Int × Int))) (hsqf363_2 : List Value) (hsqf355_2 : List Value), E 2 = .pointer (some ⟨g5, 0, none⟩) ∧ E 4 = .slice Al4_0 l4_0.length cl4_0 ∧ E 5 = .slice A358 (((List.replicate (g_0_0.length : Int).toNat (Value.slice none 0 0))).length) c359 ∧ E 6 = .slice A350 (((List.replicate (g_0_0.length : Int).toNat (Value.slice none 0 0))).length) c351 ∧ E 8 = .slice A14 y12.length c16 ∧ E 9 = .slice A23 y21.length c25 ∧ E 110 = .int .i64 (g_0_0.length : Int) ∧ E 111 = .int .i64 v111_2 ∧ I64 v111_2 ∧ hsqf363_2.length = qf41_2.length ∧ hsqf355_2.length = qf49_2.length ∧ Cx (fun _ => False) O0 w wv ([.box g5 24 [.slice Ag_0_0 g_0_0.length cg_0_0, .slice Ag_0_1 g_0_1.length cg_0_1], .ro (.sl (.int .i64)) [.slice Ag_0_0 g_0_0.length cg_0_0] g_0_0, .ro (.sl (.int .i64)) [.slice Ag_0_1 g_0_1.length cg_0_1] g_0_1, .own 3 (.int .i64) (.slice Al4_0 l4_0.length cl4_0) l4_0, .own 56 .raw (.slice A358 (((List.replicate (g_0_0.length : Int).toNat (Value.slice none 0 0))).length) c359) hsqf363_2, .own 56 .raw (.slice A350 (((List.replicate (g_0_0.length : Int).toNat (Value.slice none 0 0))).length) c351) hsqf355_2, .own 3 (.int .i64) (.slice A14 y12.length c16) y12, .own 3 (.int .i64) (.slice A23 y21.length c25) y21] ++ (rowsF 58 (.pr (.int .i64) (.int .i64)) hsqf363_2 qf41_2 ++ (rowsF 58 (.pr (.int .i64) (.int .i64)) hsqf355_2 qf49_2 ++ ([] : List Fact)))) ∧ loopN m (F.gridlink_segments_b2 n g_0_0 g_0_1 y12 y21) (v111_2, qf41_2, qf49_2) = some o253) n ⟨0, qf41_0, qf49_0, hsqf363_0, hsqf355_0, e2, e4, e5, e6, e8, e9, rfl, rfl, (show I64 0 from by unfold I64; omega), hNqf363_0, hNqf355_0, hC.selT [0, 1, 2, 3, 4, 5, 6, 7] (by decide), hl2⟩ ?_
 have hbK2 := hb
 clear hb hC hl2
 rintro m570 E572 w571 ⟨v111_2, qf41_2, qf49_2, hsqf363_2, hsqf355_2, e2, e4, e5, e6, e8, e9, e110, e111, hrv111_2, hNqf363_2, hNqf355_2, hC, hl2⟩ K569 hK569
 obtain ⟨m570', o573, rfl, hb, hl2⟩ := loopN_some hl2
 unfold F.gridlink_segments_b2 at hb
 refine Wc.seq fun K574 hK574 => ?_
 refine rg ?_
 replace hC : Cx _ O0 w _ ([_, _, _, _, .own 56 .raw (.slice A358 (((List.replicate (g_0_0.length : Int).toNat (Value.slice none 0 0))).length) c359) hsqf363_2, .own 56 .raw (.slice A350 (((List.replicate (g_0_0.length : Int).toNat (Value.slice none 0 0))).length) c351) hsqf355_2, _, _] ++ (rowsF 58 (.pr (.int .i64) (.int .i64)) hsqf363_2 qf41_2 ++ (rowsF 58 (.pr (.int .i64) (.int .i64)) hsqf355_2 qf49_2 ++ ([] : List Fact)))) := hC
 refine lp (.bool (decide (v111_2 < (g_0_0.length : Int)))) (pu_lss (k := .i64) (a := v111_2) (b := (g_0_0.length : Int)) e111 e110) ?_
 refine ln ?_
 refine hK574 _ _ ?_
 refine Wc.seq fun K575 hK575 => ?_
 refine Wc.cond (t := (decide (v111_2 < (g_0_0.length : Int)))) (rfl) (fun hq576 => ?_) (fun hq576 => ?_)
 replace hb := tt hq576 hb
 refine Wc.skip ?_
 refine hK575 _ _ ?_
 refine Wc.seq fun K577 hK577 => ?_
 refine Wc.block ?_
 refine Wc.seq fun K578 hK578 => ?_
 refine rg ?_
 refine lp (.int .i64 v111_2) (pu_move e111) ?_
 refine lp (.int .i64 v111_2) (pu_assign rfl) ?_
 refine ln ?_
 refine hK578 _ _ ?_
 refine Wc.seqJ (fun E wv => ∃ (v124_3 : Bool) (qf41_3 : List (List (Int × Int))) (hsqf363_3 : List Value), E 2 = .pointer (some ⟨g5, 0, none⟩) ∧ E 4 = .slice Al4_0 l4_0.length cl4_0 ∧ E 5 = .slice A358 (((List.replicate (g_0_0.length : Int).toNat (Value.slice none 0 0))).length) c359 ∧ E 6 = .slice A350 (((List.replicate (g_0_0.length : Int).toNat (Value.slice none 0 0))).length) c351 ∧ E 8 = .slice A14 y12.length c16 ∧ E 9 = .slice A23 y21.length c25 ∧ E 18 = .int .i64 v111_2 ∧ E 110 = .int .i64 (g_0_0.length : Int) ∧ E 111 = .int .i64 v111_2 ∧ E 112 = .bool (decide (v111_2 < (g_0_0.length : Int))) ∧ E 124 = .bool v124_3 ∧ hsqf363_3.length = qf41_3.length ∧ Cx (fun _ => False) O0 w wv ([.box g5 24 [.slice Ag_0_0 g_0_0.length cg_0_0, .slice Ag_0_1 g_0_1.length cg_0_1], .ro (.sl (.int .i64)) [.slice Ag_0_0 g_0_0.length cg_0_0] g_0_0, .ro (.sl (.int .i64)) [.slice Ag_0_1 g_0_1.length cg_0_1] g_0_1, .own 3 (.int .i64) (.slice Al4_0 l4_0.length cl4_0) l4_0, .own 56 .raw (.slice A358 (((List.replicate (g_0_0.length : Int).toNat (Value.slice none 0 0))).length) c359) hsqf363_3, .own 56 .raw (.slice A350 (((List.replicate (g_0_0.length : Int).toNat (Value.slice none 0 0))).length) c351) hsqf355_2, .own 3 (.int .i64) (.slice A14 y12.length c16) y12, .own 3 (.int .i64) (.slice A23 y21.length c25) y21] ++ (rowsF 58 (.pr (.int .i64) (.int .i64)) hsqf363_3 qf41_3 ++ (rowsF 58 (.pr (.int .i64) (.int .i64)) hsqf355_2 qf49_2 ++ ([] : List Fact)))) ∧ F.gridlink_segments_j3 n y12 y21 v111_2 qf49_2 v124_3 qf41_3 = some o573) (fun K579 hK579 => ?_) ?_
 refine Wc.seq fun K580 hK580 => ?_
 refine Wc.regionMix [] (frm [] ([] : List Fact) ([] : List Fact)) (fun _ => rfl) mixed (by decide +kernel) (by decide +kernel) fun w582 hw581 => ?_
 replace hC := hC.step (Fr.of_drew hw581)
 have hM := Fr.refl (fun k => k ∈ blocks ([] : List Fact)) w582
 clear hw581
 have hS := hC
 replace hC : Cx _ O0 w _ ([_, _, _, _, _, _, _, _] ++ (rowsF 58 (.pr (.int .i64) (.int .i64)) hsqf363_2 qf41_2 ++ (rowsF 58 (.pr (.int .i64) (.int .i64)) hsqf355_2 qf49_2 ++ ([] : List Fact)))) := hC
 refine mp (.pointer (some ((⟨g5, 0, none⟩ : Addr).add 0))) (pu_field (sz := 1) Try.underlying24 rfl Try.sizeOf22 (by decide) rfl e2) ?_
 refine mixE.load hM (v := .slice Ag_0_0 g_0_0.length cg_0_0) (fun _ hF => ld_fld (hS.bx2 (i := 0) rfl [] (by decide) hF) Try.isAgg22 rfl rfl) ?_
 refine mp (.int .i64 v111_2) (pu_move rfl) ?_
 obtain ⟨x269, h584, hb⟩ := bd hb
 obtain ⟨ad585, cs586, hA, ho589, hc587, hr588⟩ := hS.elr2 (i := 1) rfl (get_some h584).2 []
 subst hA
 refine mp (.pointer (some (ad585.add (v111_2.toNat * 1)))) (pu_index (a := v111_2) Try.underlying22 Try.sizeOf3 rfl rfl (get_some h584).1) ?_
 replace hC : Cx _ O0 w _ ([.box g5 24 [.slice (some ad585) g_0_0.length cg_0_0, .slice Ag_0_1 g_0_1.length cg_0_1], .ro (.sl (.int .i64)) [.slice (some ad585) g_0_0.length cg_0_0] g_0_0, _, _, _, _, _, _] ++ (rowsF 58 (.pr (.int .i64) (.int .i64)) hsqf363_2 qf41_2 ++ (rowsF 58 (.pr (.int .i64) (.int .i64)) hsqf355_2 qf49_2 ++ ([] : List Fact)))) := hC
 obtain ⟨rfl, hr588'⟩ := hr588
 refine mixE.load hM (v := .int .i64 x269) (fun _ hF => ld_one Try.isAgg3 rfl (hF.cell (hc587 0 _ rfl) (off1 ho589))) ?_
 refine mp (.pointer (some ((⟨g5, 0, none⟩ : Addr).add 1))) (pu_field (sz := 1) Try.underlying24 rfl Try.sizeOf22 (by decide) rfl e2) ?_
 refine mixE.load hM (v := .slice Ag_0_1 g_0_1.length cg_0_1) (fun _ hF => ld_fld (hS.bx2 (i := 0) rfl [] (by decide) hF) Try.isAgg22 rfl rfl) ?_
 refine mp (.int .i64 v111_2) (pu_move rfl) ?_
 obtain ⟨x276, h591, hb⟩ := bd hb
 obtain ⟨ad592, cs593, hA, ho596, hc594, hr595⟩ := hS.elr2 (i := 2) rfl (get_some h591).2 []
 subst hA
 refine mp (.pointer (some (ad592.add (v111_2.toNat * 1)))) (pu_index (a := v111_2) Try.underlying22 Try.sizeOf3 rfl rfl (get_some h591).1) ?_
 replace hC : Cx _ O0 w _ ([.box g5 24 [.slice (some ad585) g_0_0.length cg_0_0, .slice (some ad592) g_0_1.length cg_0_1], _, .ro (.sl (.int .i64)) [.slice (some ad592) g_0_1.length cg_0_1] g_0_1, _, _, _, _, _] ++ (rowsF 58 (.pr (.int .i64) (.int .i64)) hsqf363_2 qf41_2 ++ (rowsF 58 (.pr (.int .i64) (.int .i64)) hsqf355_2 qf49_2 ++ ([] : List Fact)))) := hC
 obtain ⟨rfl, hr595'⟩ := hr595
 refine mixE.load hM (v := .int .i64 x276) (fun _ hF => ld_one Try.isAgg3 rfl (hF.cell (hc594 0 _ rfl) (off1 ho596))) ?_
 refine mp (.bool (decide (x276 < x269))) (pu_gtr (k := .i64) (a := x269) (b := x276) rfl rfl) ?_
 refine mixE.nil ?_
 clear hS hM
 refine hK580 _ _ ?_
 refine Wc.fresh fun E597 hE => ?_
 have e2 := (congrFun hE 2).trans e2
 have e4 := (congrFun hE 4).trans e4
 have e5 := (congrFun hE 5).trans e5
 have e6 := (congrFun hE 6).trans e6
 have e8 := (congrFun hE 8).trans e8
 have e9 := (congrFun hE 9).trans e9
 have e18 : E597 18 = .int .i64 v111_2 := (congrFun hE 18).trans rfl
 have e110 := (congrFun hE 110).trans e110
 have e111 := (congrFun hE 111).trans e111
 have e112 : E597 112 = .bool (decide (v111_2 < (g_0_0.length : Int))) := (congrFun hE 112).trans rfl
 have e124 : E597 124 = .bool (decide (x276 < x269)) := (congrFun hE 124).trans rfl
 clear hE
 refine Wc.cond (t := (decide (x276 < x269))) (e124) (fun hq598 => ?_) (fun hq598 => ?_)
 replace hb := tt hq598 hb
 refine rg ?_
 refine lp (.slice A358 (((List.replicate (g_0_0.length : Int).toNat (Value.slice none 0 0))).length) c359) (pu_move e5) ?_
 refine lp (.int .i64 v111_2) (pu_move e18) ?_
 obtain ⟨x285, h600, hb⟩ := bd hb
 obtain ⟨v605, hv606, -⟩ := rowsF_get (e := 58) (s := (.pr (.int .i64) (.int .i64))) hNqf363_2 (get_some h600).2
 obtain ⟨ad601, cs602, hA, hc603, hr604⟩ := hC.elo (i := 4) rfl hv606
 subst hA
 refine lp (.pointer (some (ad601.add (v111_2.toNat * 1)))) (pu_index (a := v111_2) Try.underlying51 Try.sizeOf56 rfl rfl (by rw [(hC.ow (i := 4) rfl).sl_len.1, hNqf363_2]; exact (get_some h600).1)) ?_
 replace hC : Cx _ O0 w _ ([_, _, _, _, .own 56 .raw (.slice (some ad601) (((List.replicate (g_0_0.length : Int).toNat (Value.slice none 0 0))).length) c359) hsqf363_2, _, _, _] ++ (rowsF 58 (.pr (.int .i64) (.int .i64)) hsqf363_2 qf41_2 ++ (rowsF 58 (.pr (.int .i64) (.int .i64)) hsqf355_2 qf49_2 ++ ([] : List Fact)))) := hC
 replace hC := Cx.takeRow hC hv606 (get_some h600).2
 obtain ⟨A607, c608, hvf611, hl609, hc610⟩ := (hC.ow (i := 0) rfl).form
 subst hvf611
 obtain ⟨rfl, -⟩ := hr604
 replace hC : Cx _ O0 w _ ([.own 58 (.pr (.int .i64) (.int .i64)) (.slice A607 x285.length c608) x285, _, _, _, _, _, _, _, _] ++ ((rowsF 58 (.pr (.int .i64) (.int .i64)) hsqf363_2 qf41_2).eraseIdx v111_2.toNat ++ (rowsF 58 (.pr (.int .i64) (.int .i64)) hsqf355_2 qf49_2 ++ ([] : List Fact)))) := hC
 refine lv (.slice A607 x285.length c608) (ld_one Try.isAgg56 rfl (hc603 0 _ rfl)) ?_
 replace hC := hC.selT [0, 1, 2, 3, 4, 5, 6, 7, 8] (by decide)
 replace hC : Cx _ O0 w _ ([_] ++ ([.box g5 24 [.slice (some ad585) g_0_0.length cg_0_0, .slice (some ad592) g_0_1.length cg_0_1], .ro (.sl (.int .i64)) [.slice (some ad585) g_0_0.length cg_0_0] g_0_0, .ro (.sl (.int .i64)) [.slice (some ad592) g_0_1.length cg_0_1] g_0_1, .own 3 (.int .i64) (.slice Al4_0 l4_0.length cl4_0) l4_0, .own 56 .raw (.slice (some ad601) (((List.replicate (g_0_0.length : Int).toNat (Value.slice none 0 0))).length) c359) hsqf363_2, .own 56 .raw (.slice A350 (((List.replicate (g_0_0.length : Int).toNat (Value.slice none 0 0))).length) c351) hsqf355_2, .own 3 (.int .i64) (.slice A14 y12.length c16) y12, .own 3 (.int .i64) (.slice A23 y21.length c25) y21] ++ ((rowsF 58 (.pr (.int .i64) (.int .i64)) hsqf363_2 qf41_2).eraseIdx v111_2.toNat ++ (rowsF 58 (.pr (.int .i64) (.int .i64)) hsqf355_2 qf49_2 ++ ([] : List Fact))))) := hC
 obtain ⟨y299, h614, hb⟩ := bd hb
 refine lex.cl (⟨_, _, op_call (vs := [.slice A607 x285.length c608]) Try.call67 rfl rfl rfl, slices_Reverse_passage_passage_ok n hC.lt hC.give h614⟩) ?_
 rintro _ w615 ⟨rfl, hK⟩
 replace hC := hC.back hK
 clear hK
 refine ln ?_
 replace hC : Cx _ O0 w _ ([.own 58 (.pr (.int .i64) (.int .i64)) (.slice A607 x285.length c608) y299, .box g5 24 [.slice (some ad585) g_0_0.length cg_0_0, .slice (some ad592) g_0_1.length cg_0_1], .ro (.sl (.int .i64)) [.slice (some ad585) g_0_0.length cg_0_0] g_0_0, .ro (.sl (.int .i64)) [.slice (some ad592) g_0_1.length cg_0_1] g_0_1, .own 3 (.int .i64) (.slice Al4_0 l4_0.length cl4_0) l4_0, .own 56 .raw (.slice (some ad601) (((List.replicate (g_0_0.length : Int).toNat (Value.slice none 0 0))).length) c359) hsqf363_2, .own 56 .raw (.slice A350 (((List.replicate (g_0_0.length : Int).toNat (Value.slice none 0 0))).length) c351) hsqf355_2, .own 3 (.int .i64) (.slice A14 y12.length c16) y12, .own 3 (.int .i64) (.slice A23 y21.length c25) y21] ++ ((rowsF 58 (.pr (.int .i64) (.int .i64)) hsqf363_2 qf41_2).eraseIdx v111_2.toNat ++ (rowsF 58 (.pr (.int .i64) (.int .i64)) hsqf355_2 qf49_2 ++ ([] : List Fact)))) := hC
 replace hC := hC.selT [0, 1, 2, 3, 4, 5, 6, 7, 8] (by decide)
 replace hC := Cx.putSame hC hNqf363_2 (List.getElem?_eq_some_iff.1 (get_some h600).2).1 hv606
 have hN616 : hsqf363_2.length = (qf41_2.set v111_2.toNat y299).length := by rw [List.length_set]; exact hNqf363_2
 replace hC : Cx _ O0 w _ ([_, _, _, _, _, _, _, _] ++ (rowsF 58 (.pr (.int .i64) (.int .i64)) hsqf363_2 (qf41_2.set v111_2.toNat y299) ++ (rowsF 58 (.pr (.int .i64) (.int .i64)) hsqf355_2 qf49_2 ++ ([] : List Fact)))) := hC
 exact hK579 _ _ ⟨(decide (x276 < x269)), (qf41_2.set v111_2.toNat y299), hsqf363_2, e2, e4, e5, e6, e8, e9, e18, e110, e111, e112, e124, hN616, hC.selT [0, 1, 2, 3, 4, 5, 6, 7] (by decide), hb⟩
 replace hb := tf hq598 hb
 refine Wc.skip ?_
 exact hK579 _ _ ⟨(decide (x276 < x269)), qf41_2, hsqf363_2, e2, e4, e5, e6, e8, e9, e18, e110, e111, e112, e124, hNqf363_2, hC.selT [0, 1, 2, 3, 4, 5, 6, 7] (by decide), hb⟩
 clear hb hC
 rintro E618 w617 ⟨v124_3, qf41_3, hsqf363_3, e2, e4, e5, e6, e8, e9, e18, e110, e111, e112, e124, hNqf363_3, hC, hb⟩
 unfold F.gridlink_segments_j3 at hb
 refine Wc.seq fun K619 hK619 => ?_
 refine Wc.regionMix [] (frm [] ([] : List Fact) ([] : List Fact)) (fun _ => rfl) mixed (by decide +kernel) (by decide +kernel) fun w621 hw620 => ?_
 replace hC := hC.step (Fr.of_drew hw620)
 have hM := Fr.refl (fun k => k ∈ blocks ([] : List Fact)) w621
 clear hw620
 have hS := hC
 replace hC : Cx _ O0 w _ ([.box g5 24 [.slice Ag_0_0 g_0_0.length cg_0_0, .slice Ag_0_1 g_0_1.length cg_0_1], .ro (.sl (.int .i64)) [.slice Ag_0_0 g_0_0.length cg_0_0] g_0_0, .ro (.sl (.int .i64)) [.slice Ag_0_1 g_0_1.length cg_0_1] g_0_1, _, .own 56 .raw (.slice A358 (((List.replicate (g_0_0.length : Int).toNat (Value.slice none 0 0))).length) c359) hsqf363_3, _, _, _] ++ (rowsF 58 (.pr (.int .i64) (.int .i64)) hsqf363_3 qf41_3 ++ (rowsF 58 (.pr (.int .i64) (.int .i64)) hsqf355_2 qf49_2 ++ ([] : List Fact)))) := hC
 refine mp (.slice A23 y21.length c25) (pu_move e9) ?_
 refine mp (.int .i64 v111_2) (pu_move e18) ?_
 obtain ⟨x308, h623, hb⟩ := bd hb
 obtain ⟨ad624, cs625, hA, ho628, hc626, hr627⟩ := hS.elo2 (i := 7) rfl (get_some h623).2 [] (by decide)
 subst hA
 refine mp (.pointer (some (ad624.add (v111_2.toNat * 1)))) (pu_index (a := v111_2) Try.underlying22 Try.sizeOf3 rfl rfl (get_some h623).1) ?_
 replace hC : Cx _ O0 w _ ([_, _, _, _, _, _, _, .own 3 (.int .i64) (.slice (some ad624) y21.length c25) y21] ++ (rowsF 58 (.pr (.int .i64) (.int .i64)) hsqf363_3 qf41_3 ++ (rowsF 58 (.pr (.int .i64) (.int .i64)) hsqf355_2 qf49_2 ++ ([] : List Fact)))) := hC
 obtain ⟨rfl, hr627'⟩ := hr627
 refine mixE.load hM (v := .int .i64 x308) (fun _ hF => ld_one Try.isAgg3 rfl (hF.cell (hc626 0 _ rfl) (off1 ho628))) ?_
 refine mp (.slice A14 y12.length c16) (pu_move e8) ?_
 refine mp (.int .i64 v111_2) (pu_move e18) ?_
 obtain ⟨x315, h630, hb⟩ := bd hb
 obtain ⟨ad631, cs632, hA, ho635, hc633, hr634⟩ := hS.elo2 (i := 6) rfl (get_some h630).2 [] (by decide)
 subst hA
 refine mp (.pointer (some (ad631.add (v111_2.toNat * 1)))) (pu_index (a := v111_2) Try.underlying22 Try.sizeOf3 rfl rfl (get_some h630).1) ?_
 replace hC : Cx _ O0 w _ ([_, _, _, _, _, _, .own 3 (.int .i64) (.slice (some ad631) y12.length c16) y12, _] ++ (rowsF 58 (.pr (.int .i64) (.int .i64)) hsqf363_3 qf41_3 ++ (rowsF 58 (.pr (.int .i64) (.int .i64)) hsqf355_2 qf49_2 ++ ([] : List Fact)))) := hC
 obtain ⟨rfl, hr634'⟩ := hr634
 refine mixE.load hM (v := .int .i64 x315) (fun _ hF => ld_one Try.isAgg3 rfl (hF.cell (hc633 0 _ rfl) (off1 ho635))) ?_
 refine mp (.bool (decide (x315 < x308))) (pu_gtr (k := .i64) (a := x308) (b := x315) rfl rfl) ?_
 refine mixE.nil ?_
 clear hS hM
 refine hK619 _ _ ?_
 refine Wc.cond (t := (decide (x315 < x308))) (rfl) (fun hq636 => ?_) (fun hq636 => ?_)
 replace hb := tt hq636 hb
 refine rg ?_
 refine lp (.slice A350 (((List.replicate (g_0_0.length : Int).toNat (Value.slice none 0 0))).length) c351) (pu_move e6) ?_
 refine lp (.int .i64 v111_2) (pu_move e18) ?_
 obtain ⟨x323, h638, hb⟩ := bd hb
 obtain ⟨v643, hv644, -⟩ := rowsF_get (e := 58) (s := (.pr (.int .i64) (.int .i64))) hNqf355_2 (get_some h638).2
 obtain ⟨ad639, cs640, hA, hc641, hr642⟩ := hC.elo (i := 5) rfl hv644
 subst hA
 refine lp (.pointer (some (ad639.add (v111_2.toNat * 1)))) (pu_index (a := v111_2) Try.underlying51 Try.sizeOf56 rfl rfl (by rw [(hC.ow (i := 5) rfl).sl_len.1, hNqf355_2]; exact (get_some h638).1)) ?_
 replace hC : Cx _ O0 w _ ([_, _, _, _, _, .own 56 .raw (.slice (some ad639) (((List.replicate (g_0_0.length : Int).toNat (Value.slice none 0 0))).length) c351) hsqf355_2, _, _] ++ (rowsF 58 (.pr (.int .i64) (.int .i64)) hsqf363_3 qf41_3 ++ (rowsF 58 (.pr (.int .i64) (.int .i64)) hsqf355_2 qf49_2 ++ ([] : List Fact)))) := hC
 replace hC := hC.swapT
 replace hC : Cx _ O0 w _ ([_, _, _, _, _, _, _, _] ++ (rowsF 58 (.pr (.int .i64) (.int .i64)) hsqf355_2 qf49_2 ++ (rowsF 58 (.pr (.int .i64) (.int .i64)) hsqf363_3 qf41_3 ++ ([] : List Fact)))) := hC
 replace hC := Cx.takeRow hC hv644 (get_some h638).2
 obtain ⟨A645, c646, hvf649, hl647, hc648⟩ := (hC.ow (i := 0) rfl).form
 subst hvf649
 obtain ⟨rfl, -⟩ := hr642
 replace hC : Cx _ O0 w _ ([.own 58 (.pr (.int .i64) (.int .i64)) (.slice A645 x323.length c646) x323, _, _, _, _, _, _, _, _] ++ ((rowsF 58 (.pr (.int .i64) (.int .i64)) hsqf355_2 qf49_2).eraseIdx v111_2.toNat ++ (rowsF 58 (.pr (.int .i64) (.int .i64)) hsqf363_3 qf41_3 ++ ([] : List Fact)))) := hC
 refine lv (.slice A645 x323.length c646) (ld_one Try.isAgg56 rfl (hc641 0 _ rfl)) ?_
 replace hC := hC.selT [0, 1, 2, 3, 4, 5, 6, 7, 8] (by decide)
 replace hC : Cx _ O0 w _ ([_] ++ ([.box g5 24 [.slice Ag_0_0 g_0_0.length cg_0_0, .slice Ag_0_1 g_0_1.length cg_0_1], .ro (.sl (.int .i64)) [.slice Ag_0_0 g_0_0.length cg_0_0] g_0_0, .ro (.sl (.int .i64)) [.slice Ag_0_1 g_0_1.length cg_0_1] g_0_1, .own 3 (.int .i64) (.slice Al4_0 l4_0.length cl4_0) l4_0, .own 56 .raw (.slice A358 (((List.replicate (g_0_0.length : Int).toNat (Value.slice none 0 0))).length) c359) hsqf363_3, .own 56 .raw (.slice (some ad639) (((List.replicate (g_0_0.length : Int).toNat (Value.slice none 0 0))).length) c351) hsqf355_2, .own 3 (.int .i64) (.slice (some ad631) y12.length c16) y12, .own 3 (.int .i64) (.slice (some ad624) y21.length c25) y21] ++ ((rowsF 58 (.pr (.int .i64) (.int .i64)) hsqf355_2 qf49_2).eraseIdx v111_2.toNat ++ (rowsF 58 (.pr (.int .i64) (.int .i64)) hsqf363_3 qf41_3 ++ ([] : List Fact))))) := hC
 obtain ⟨y337, h652, hb⟩ := bd hb
 refine lex.cl (⟨_, _, op_call (vs := [.slice A645 x323.length c646]) Try.call67 rfl rfl rfl, slices_Reverse_passage_passage_ok n hC.lt hC.give h652⟩) ?_
 rintro _ w653 ⟨rfl, hK⟩
 replace hC := hC.back hK
 clear hK
 refine ln ?_
 refine hK577 _ _ ?_
 refine rg ?_
 replace hC : Cx _ O0 w _ ([.own 58 (.pr (.int .i64) (.int .i64)) (.slice A645 x323.length c646) y337, .box g5 24 [.slice Ag_0_0 g_0_0.length cg_0_0, .slice Ag_0_1 g_0_1.length cg_0_1], .ro (.sl (.int .i64)) [.slice Ag_0_0 g_0_0.length cg_0_0] g_0_0, .ro (.sl (.int .i64)) [.slice Ag_0_1 g_0_1.length cg_0_1] g_0_1, .own 3 (.int .i64) (.slice Al4_0 l4_0.length cl4_0) l4_0, .own 56 .raw (.slice A358 (((List.replicate (g_0_0.length : Int).toNat (Value.slice none 0 0))).length) c359) hsqf363_3, .own 56 .raw (.slice (some ad639) (((List.replicate (g_0_0.length : Int).toNat (Value.slice none 0 0))).length) c351) hsqf355_2, .own 3 (.int .i64) (.slice (some ad631) y12.length c16) y12, .own 3 (.int .i64) (.slice (some ad624) y21.length c25) y21] ++ ((rowsF 58 (.pr (.int .i64) (.int .i64)) hsqf355_2 qf49_2).eraseIdx v111_2.toNat ++ (rowsF 58 (.pr (.int .i64) (.int .i64)) hsqf363_3 qf41_3 ++ ([] : List Fact)))) := hC
 obtain ⟨z340, h655, hb⟩ := bd hb
 refine lp (.int .i64 z340) (pu_addc (a := v111_2) (b := 1) e111 rfl h655) ?_
 refine lp (.int .i64 z340) (pu_move rfl) ?_
 refine ln ?_
 replace hC := hC.selT [0, 1, 2, 3, 4, 5, 6, 7, 8] (by decide)
 replace hC := Cx.putSame hC hNqf355_2 (List.getElem?_eq_some_iff.1 (get_some h638).2).1 hv644
 have hN656 : hsqf355_2.length = (qf49_2.set v111_2.toNat y337).length := by rw [List.length_set]; exact hNqf355_2
 replace hC : Cx _ O0 w _ ([_, _, _, _, _, _, _, _] ++ (rowsF 58 (.pr (.int .i64) (.int .i64)) hsqf355_2 (qf49_2.set v111_2.toNat y337) ++ (rowsF 58 (.pr (.int .i64) (.int .i64)) hsqf363_3 qf41_3 ++ ([] : List Fact)))) := hC
 obtain rfl := os hb
 replace hC := hC.swapT
 replace hC : Cx _ O0 w _ ([_, _, _, _, _, _, _, _] ++ (rowsF 58 (.pr (.int .i64) (.int .i64)) hsqf363_3 qf41_3 ++ (rowsF 58 (.pr (.int .i64) (.int .i64)) hsqf355_2 (qf49_2.set v111_2.toNat y337) ++ ([] : List Fact)))) := hC
 exact hK569 m570' _ _ (Nat.lt_succ_self _) ⟨z340, qf41_3, (qf49_2.set v111_2.toNat y337), hsqf363_3, hsqf355_2, e2, e4, e5, e6, e8, e9, e110, rfl, (chk_rng h655), hNqf363_3, hN656, hC.selT [0, 1, 2, 3, 4, 5, 6, 7] (by decide), lN hl2⟩
 replace hb := tf hq636 hb
 refine Wc.skip ?_
 refine hK577 _ _ ?_
 refine rg ?_
 obtain ⟨z343, h658, hb⟩ := bd hb
 refine lp (.int .i64 z343) (pu_addc (a := v111_2) (b := 1) e111 rfl h658) ?_
 refine lp (.int .i64 z343) (pu_move rfl) ?_
 refine ln ?_
 obtain rfl := os hb
 exact hK569 m570' _ _ (Nat.lt_succ_self _) ⟨z343, qf41_3, qf49_2, hsqf363_3, hsqf355_2, e2, e4, e5, e6, e8, e9, e110, rfl, (chk_rng h658), hNqf363_3, hNqf355_2, hC.selT [0, 1, 2, 3, 4, 5, 6, 7] (by decide), lN hl2⟩
 replace hb := tf hq576 hb
 refine Wc.exit rfl ?_
 obtain rfl := os hb
 obtain rfl := (lX hl2).symm
 exact hK568 _ _ ⟨v111_2, qf41_2, qf49_2, hsqf363_2, hsqf355_2, e4, e5, e6, hrv111_2, hNqf363_2, hNqf355_2, hC.selT [3, 4, 5] (by decide), hbK2⟩
 clear hb hC hl2
 rintro E660 w659 ⟨v111_2, qf41_2, qf49_2, hsqf363_2, hsqf355_2, e4, e5, e6, hrv111_2, hNqf363_2, hNqf355_2, hC, hb⟩
 refine hK565 _ _ ?_
 refine Wc.seq fun K661 hK661 => ?_
 refine rg ?_
 replace hC : Cx _ O0 w _ ([_, .own 56 .raw (.slice A358 (((List.replicate (g_0_0.length : Int).toNat (Value.slice none 0 0))).length) c359) hsqf363_2, .own 56 .raw (.slice A350 (((List.replicate (g_0_0.length : Int).toNat (Value.slice none 0 0))).length) c351) hsqf355_2] ++ (rowsF 58 (.pr (.int .i64) (.int .i64)) hsqf363_2 qf41_2 ++ (rowsF 58 (.pr (.int .i64) (.int .i64)) hsqf355_2 qf49_2 ++ ([] : List Fact)))) := hC
 refine lp (.slice Al4_0 l4_0.length cl4_0) (pu_move e4) ?_
 refine lp (.slice A358 (((List.replicate (g_0_0.length : Int).toNat (Value.slice none 0 0))).length) c359) (pu_move e5) ?_
 refine lp (.slice A350 (((List.replicate (g_0_0.length : Int).toNat (Value.slice none 0 0))).length) c351) (pu_move e6) ?_
 refine lp (.slice Al4_0 l4_0.length cl4_0) (pu_assign rfl) ?_
 refine lp (.slice A358 (((List.replicate (g_0_0.length : Int).toNat (Value.slice none 0 0))).length) c359) (pu_assign rfl) ?_
 refine lp (.slice A350 (((List.replicate (g_0_0.length : Int).toNat (Value.slice none 0 0))).length) c351) (pu_assign rfl) ?_
 refine ln ?_
 refine hK661 _ _ ?_
 replace hC := hC.selT [1, 0, 2] (by decide)
 replace hC := Cx.freezeR hC hNqf363_2
 replace hC : Cx _ O0 w _ ([.ro (.sl (.sl (.pr (.int .i64) (.int .i64)))) [.slice A358 (((List.replicate (g_0_0.length : Int).toNat (Value.slice none 0 0))).length) c359] qf41_2, _, _] ++ (rowsF 58 (.pr (.int .i64) (.int .i64)) hsqf355_2 qf49_2 ++ ([] : List Fact))) := hC
 replace hC := hC.selT [2, 0, 1] (by decide)
 replace hC := Cx.freezeR hC hNqf355_2
 replace hC : Cx _ O0 w _ ([.ro (.sl (.sl (.pr (.int .i64) (.int .i64)))) [.slice A350 (((List.replicate (g_0_0.length : Int).toNat (Value.slice none 0 0))).length) c351] qf49_2, _, _] ++ ([] : List Fact)) := hC
 obtain rfl := os hb
 refine Wc.ret ?_
 refine hKR _ _ ?_
 refine ⟨_, res3 Try.results37 (show RV _ _ _ (.tmp _) (.slice Al4_0 l4_0.length cl4_0) from rfl) (show RV _ _ _ (.tmp _) (.slice A358 (((List.replicate (g_0_0.length : Int).toNat (Value.slice none 0 0))).length) c359) from rfl) (show RV _ _ _ (.tmp _) (.slice A350 (((List.replicate (g_0_0.length : Int).toNat (Value.slice none 0 0))).length) c351) from rfl), _, rfl, Al4_0, l4_0.length, cl4_0, A358, ((List.replicate (g_0_0.length : Int).toNat (Value.slice none 0 0))).length, c359, A350, ((List.replicate (g_0_0.length : Int).toNat (Value.slice none 0 0))).length, c351, rfl, hC.sel [2, 1, 0] (by decide)⟩
end Go.Proofs.Yticemffhlapnnaa
