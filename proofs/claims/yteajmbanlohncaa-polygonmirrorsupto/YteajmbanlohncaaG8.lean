/- The walks: part 8. -/
import Derived.Test.YteajmbanlohncaaS
import Derived.Test.YteajmbanlohncaaG5
import Derived.Test.YteajmbanlohncaaG7
set_option linter.unusedVariables false
set_option linter.unusedSimpArgs false
namespace Go.Proofs.Yteajmbanlohncaa
open Ev
set_option maxRecDepth 100000 in
set_option maxHeartbeats 4000000 in
theorem diagram_spherical_ok (n : Nat) {w : World} {O0 : List Nat} (hO : ∀ k ∈ O0, k < w.heap.size) {Ad_0_0 : Option Addr} {md_0_0 cd_0_0 : Nat} {d_0_0 : List Int} (hd_0_0 : Rep O0 w (.sl (.int .i64)) [.slice Ad_0_0 md_0_0 cd_0_0] d_0_0) {Ad_0_1 : Option Addr} {md_0_1 cd_0_1 : Nat} {d_0_1 : List Int} (hd_0_1 : Rep O0 w (.sl (.int .i64)) [.slice Ad_0_1 md_0_1 cd_0_1] d_0_1) {d_0_2 : Int} (hd_0_2 : I64 d_0_2) {r : Bool} (hb : F.diagram_spherical n d_0_0 d_0_1 d_0_2 = some r) :
    Calls Try.prog 66 #[.agg #[.slice Ad_0_0 md_0_0 cd_0_0, .slice Ad_0_1 md_0_1 cd_0_1, .int .i64 d_0_2]] w fun e w' => ∃ v, e = .returned v ∧ v = .bool r ∧ Cx (fun _ => False) O0 w w' [] := by
 unfold F.diagram_spherical at hb
 have hC := Cx.start hO
 replace hC := hC.arg rfl hd_0_0
 replace hC := hC.arg rfl hd_0_1
 clear hO
 obtain ⟨rfl, hld_0_0, hcd_0_0⟩ := hd_0_0.sl_len
 obtain ⟨rfl, hld_0_1, hcd_0_1⟩ := hd_0_1.sl_len
 refine calls_of_Wc Try.func66 rfl (by rw [Try.ntmps66]; exact Nat.le_of_ble_eq_true rfl) fun KR hKR => ?_
 refine Wc.seq fun K3 hK3 => ?_
 refine rg ?_
 refine lex.op (hC.box (cs := [.slice Ad_0_0 d_0_0.length cd_0_0, .slice Ad_0_1 d_0_1.length cd_0_1, .int .i64 d_0_2]) rfl rfl) ?_
 rintro _ w5 ⟨g4, rfl, hC, hF, hG⟩
 clear hG
 refine lp (.bool false) (pu_assign rfl) ?_
 refine ln ?_
 refine hK3 _ _ ?_
 refine Wc.seq fun K7 hK7 => ?_
 refine rg ?_
 refine lv (.agg #[.slice Ad_0_0 d_0_0.length cd_0_0, .slice Ad_0_1 d_0_1.length cd_0_1, .int .i64 d_0_2]) (ld_blk (hC.bx (i := 0) rfl) Try.isAgg32 Try.sizeOf32 rfl) ?_
 obtain ⟨y8, h9, hb⟩ := bd hb
 refine lex.cl (⟨_, _, op_call (vs := [.agg #[.slice Ad_0_0 d_0_0.length cd_0_0, .slice Ad_0_1 d_0_1.length cd_0_1, .int .i64 d_0_2]]) Try.call88 rfl rfl rfl, diagram_label_ok n hC.lt (hC.rd (i := 2) rfl) (hC.rd (i := 1) rfl) hd_0_2 h9⟩) ?_
 rintro _ w15 ⟨A10, m11, c12, rfl, hr14, hK⟩
 replace hC := hC.merge hK
 clear hK
 obtain ⟨rfl, hl16, hc17⟩ := (hC.ow (i := 0) rfl).sl_len
 refine lp (.tuple #[.slice A10 y8.1.length c12, .int .i64 y8.2]) (pu_move rfl) ?_
 refine lp (.slice A10 y8.1.length c12) (pu_extract rfl rfl) ?_
 refine lp (.int .i64 y8.2) (pu_extract rfl rfl) ?_
 refine lp (.slice A10 y8.1.length c12) (pu_assign rfl) ?_
 refine lp (.int .i64 y8.2) (pu_assign rfl) ?_
 refine ln ?_
 refine hK7 _ _ ?_
 refine Wc.seq fun K18 hK18 => ?_
 refine rg ?_
 refine lp (.int .i64 y8.2) (pu_move rfl) ?_
 obtain ⟨u19, h20, hb⟩ := bd hb
 refine lex.op (hC.make (s := (.int .i64)) (n := y8.2) Try.underlying30 Try.type3 rfl rfl rfl rfl rfl (pos_some h20).1 (pos_some h20).2 (by decide)) ?_
 rintro _ w25 ⟨A21, c22, rfl, hl23, hc24, hC, hF, hN⟩
 clear hF hN
 refine lp (.slice A21 (((List.replicate y8.2.toNat (0 : Int))).length) c22) (pu_assign rfl) ?_
 refine ln ?_
 refine hK18 _ _ ?_
 refine Wc.fresh fun E27 hE => ?_
 have e1 : E27 1 = .pointer (some ⟨g4, 0, none⟩) := (congrFun hE 1).trans rfl
 have e2 : E27 2 = .bool false := (congrFun hE 2).trans rfl
 have e3 : E27 3 = .slice A10 y8.1.length c12 := (congrFun hE 3).trans rfl
 have e5 : E27 5 = .slice A21 (((List.replicate y8.2.toNat (0 : Int))).length) c22 := (congrFun hE 5).trans rfl
 clear hE
 refine Wc.seq fun K28 hK28 => ?_
 refine Wc.seq fun K29 hK29 => ?_
 refine rg ?_
 refine lp (.slice A10 y8.1.length c12) (pu_move e3) ?_
 refine lp (.int .i64 (y8.1.length : Int)) (pu_len (A := A10) (n := y8.1.length) (m := c12) Try.underlying30 rfl) ?_
 refine lp (.int .i64 0) (pu_move rfl) ?_
 refine ln ?_
 refine hK29 _ _ ?_
 obtain ⟨o30, hl0, hb⟩ := bd hb
 refine Wc.cut (fun E wv => ∃ (v22_0 : Int) (qf26_0 : List Int), E 1 = .pointer (some ⟨g4, 0, none⟩) ∧ E 2 = .bool false ∧ E 3 = .slice A10 y8.1.length c12 ∧ E 5 = .slice A21 (((List.replicate y8.2.toNat (0 : Int))).length) c22 ∧ I64 v22_0 ∧ Cx (fun _ => False) O0 w wv [.box g4 32 [.slice Ad_0_0 d_0_0.length cd_0_0, .slice Ad_0_1 d_0_1.length cd_0_1, .int .i64 d_0_2], .ro (.sl (.int .i64)) [.slice Ad_0_0 d_0_0.length cd_0_0] d_0_0, .ro (.sl (.int .i64)) [.slice Ad_0_1 d_0_1.length cd_0_1] d_0_1, .own 3 (.int .i64) (.slice A10 y8.1.length c12) y8.1, .own 3 (.int .i64) (.slice A21 (((List.replicate y8.2.toNat (0 : Int))).length) c22) qf26_0] ∧ ((pos (d_0_1.length : Int)).bind fun u68 => ((loopN n (F.diagram_spherical_b1 n d_0_1 y8) (0, qf26_0, (List.replicate (d_0_1.length : Int).toNat false))).bind fun o78 => match o78 with     | (v40_1, qf26_1, qf75_1) => ((loopN n (F.diagram_spherical_b3 n y8 qf26_1) 0).bind fun o171 => match o171 with     | (.inl v75_3) => some true     | (.inr q) => some q)) : Option (Bool)) = some r) (fun K31 hK31 => ?_) ?_
 refine Wc.block ?_
 refine Wc.loop (fun m E wv => ∃ (v22_0 : Int) (qf26_0 : List Int), E 1 = .pointer (some ⟨g4, 0, none⟩) ∧ E 2 = .bool false ∧ E 3 = .slice A10 y8.1.length c12 ∧ E 5 = .slice A21 (((List.replicate y8.2.toNat (0 : Int))).length) c22 ∧ E 20 = .slice A10 y8.1.length c12 ∧ E 21 = .int .i64 (y8.1.length : Int) ∧ E 22 = .int .i64 v22_0 ∧ I64 v22_0 ∧ Cx (fun _ => False) O0 w wv [.box g4 32 [.slice Ad_0_0 d_0_0.length cd_0_0, .slice Ad_0_1 d_0_1.length cd_0_1, .int .i64 d_0_2], .ro (.sl (.int .i64)) [.slice Ad_0_0 d_0_0.length cd_0_0] d_0_0, .ro (.sl (.int .i64)) [.slice Ad_0_1 d_0_1.length cd_0_1] d_0_1, .own 3 (.int .i64) (.slice A10 y8.1.length c12) y8.1, .own 3 (.int .i64) (.slice A21 (((List.replicate y8.2.toNat (0 : Int))).length) c22) qf26_0] ∧ loopN m (F.diagram_spherical_b0 n y8) (v22_0, qf26_0) = some o30) n ⟨0, (List.replicate y8.2.toNat (0 : Int)), e1, e2, e3, e5, rfl, rfl, rfl, (show I64 0 from by unfold I64; omega), hC.sel [2, 4, 3, 1, 0] (by decide), hl0⟩ ?_
 have hbK0 := hb
 clear hb hC hl0
 rintro m33 E35 w34 ⟨v22_0, qf26_0, e1, e2, e3, e5, e20, e21, e22, hrv22_0, hC, hl0⟩ K32 hK32
 obtain ⟨m33', o36, rfl, hb, hl0⟩ := loopN_some hl0
 unfold F.diagram_spherical_b0 at hb
 refine Wc.seq fun K37 hK37 => ?_
 refine rg ?_
 refine lp (.bool (decide (v22_0 < (y8.1.length : Int)))) (pu_lss (k := .i64) (a := v22_0) (b := (y8.1.length : Int)) e22 e21) ?_
 refine ln ?_
 refine hK37 _ _ ?_
 refine Wc.seq fun K38 hK38 => ?_
 refine Wc.cond (t := (decide (v22_0 < (y8.1.length : Int)))) (rfl) (fun hq39 => ?_) (fun hq39 => ?_)
 replace hb := tt hq39 hb
 refine Wc.skip ?_
 refine hK38 _ _ ?_
 refine Wc.seq fun K40 hK40 => ?_
 refine Wc.block ?_
 refine Wc.seq fun K41 hK41 => ?_
 refine rg ?_
 obtain ⟨x42, h43, hb⟩ := bd hb
 obtain ⟨ad44, cs45, hA, hc46, hr47⟩ := hC.elo (i := 3) rfl (get_some h43).2
 subst hA
 refine lp (.pointer (some (ad44.add (v22_0.toNat * 1)))) (pu_index (a := v22_0) Try.underlying30 Try.sizeOf3 e20 e22 (get_some h43).1) ?_
 obtain ⟨rfl, hr47'⟩ := hr47
 refine lv (.int .i64 x42) (ld_one Try.isAgg3 rfl (hc46 0 _ rfl)) ?_
 refine lp (.int .i64 x42) (pu_assign rfl) ?_
 refine ln ?_
 refine hK41 _ _ ?_
 refine rg ?_
 refine lp (.slice A21 (((List.replicate y8.2.toNat (0 : Int))).length) c22) (pu_move e5) ?_
 refine lp (.int .i64 x42) (pu_move rfl) ?_
 obtain ⟨x48, h49, hb⟩ := bd hb
 obtain ⟨ad50, cs51, hA, hc52, hr53⟩ := hC.elo (i := 4) rfl (get_some h49).2
 subst hA
 refine lp (.pointer (some (ad50.add (x42.toNat * 1)))) (pu_index (a := x42) Try.underlying30 Try.sizeOf3 rfl rfl (by rw [(hC.ow (i := 4) rfl).sl_len.1]; exact (get_some h49).1)) ?_
 obtain ⟨rfl, hr53'⟩ := hr53
 refine lv (.int .i64 x48) (ld_one Try.isAgg3 rfl (hc52 0 _ rfl)) ?_
 obtain ⟨z54, h55, hb⟩ := bd hb
 refine lp (.int .i64 z54) (pu_subc (a := x48) (b := 1) rfl rfl h55) ?_
 obtain ⟨x56, h57, hb⟩ := bd hb
 obtain ⟨ad58, cs59, hA, hc60, hr61⟩ := hC.elo (i := 4) rfl (get_some h57).2
 obtain rfl := Option.some.inj hA
 refine lp (.pointer (some (ad50.add (x42.toNat * 1)))) (pu_index (a := x42) Try.underlying30 Try.sizeOf3 rfl rfl (by rw [(hC.ow (i := 4) rfl).sl_len.1]; exact (get_some h57).1)) ?_
 refine lex.sk (hC.put (i := 4) rfl rfl Try.sizeOf3 (k := x42.toNat) (a := z54) (by have := (get_some h57).1; simp at this ⊢; omega) (⟨rfl, I64.wr (chk_rng h55)⟩) rfl rfl rfl) ?_
 rintro w62 ⟨hC, hF⟩
 refine ln ?_
 refine hK40 _ _ ?_
 refine rg ?_
 obtain ⟨z63, h64, hb⟩ := bd hb
 refine lp (.int .i64 z63) (pu_addc (a := v22_0) (b := 1) e22 rfl h64) ?_
 refine lp (.int .i64 z63) (pu_move rfl) ?_
 refine ln ?_
 obtain rfl := os hb
 exact hK32 m33' _ _ (Nat.lt_succ_self _) ⟨z63, (qf26_0.set x42.toNat z54), e1, e2, e3, e5, e20, e21, rfl, (chk_rng h64), hC.sel [0, 1, 2, 3, 4] (by decide), lN hl0⟩
 replace hb := tf hq39 hb
 refine Wc.exit rfl ?_
 obtain rfl := os hb
 obtain rfl := (lX hl0).symm
 exact hK31 _ _ ⟨v22_0, qf26_0, e1, e2, e3, e5, hrv22_0, hC.sel [0, 1, 2, 3, 4] (by decide), hbK0⟩
 clear hb hC hl0
 rintro E66 w65 ⟨v22_0, qf26_0, e1, e2, e3, e5, hrv22_0, hC, hb⟩
 refine hK28 _ _ ?_
 refine Wc.seq fun K67 hK67 => ?_
 refine rg ?_
 refine lp (.pointer (some ((⟨g4, 0, none⟩ : Addr).add 1))) (pu_field (sz := 1) Try.underlying32 rfl Try.sizeOf30 (by decide) rfl e1) ?_
 refine lv (.slice Ad_0_1 d_0_1.length cd_0_1) (ld_fld (hC.bx (i := 0) rfl) Try.isAgg30 rfl rfl) ?_
 refine lp (.int .i64 (d_0_1.length : Int)) (pu_len (A := Ad_0_1) (n := d_0_1.length) (m := cd_0_1) Try.underlying30 rfl) ?_
 obtain ⟨u68, h69, hb⟩ := bd hb
 refine lex.op (hC.make (s := .bool) (n := (d_0_1.length : Int)) Try.underlying122 Try.type4 rfl rfl rfl rfl rfl (pos_some h69).1 (pos_some h69).2 (by decide)) ?_
 rintro _ w74 ⟨A70, c71, rfl, hl72, hc73, hC, hF, hN⟩
 clear hF hN
 refine lp (.slice A70 (((List.replicate (d_0_1.length : Int).toNat false)).length) c71) (pu_assign rfl) ?_
 refine ln ?_
 refine hK67 _ _ ?_
 refine Wc.seq fun K76 hK76 => ?_
 refine Wc.seq fun K77 hK77 => ?_
 refine rg ?_
 refine lp (.pointer (some ((⟨g4, 0, none⟩ : Addr).add 1))) (pu_field (sz := 1) Try.underlying32 rfl Try.sizeOf30 (by decide) rfl e1) ?_
 refine lv (.slice Ad_0_1 d_0_1.length cd_0_1) (ld_fld (hC.bx (i := 1) rfl) Try.isAgg30 rfl rfl) ?_
 refine lp (.int .i64 (d_0_1.length : Int)) (pu_len (A := Ad_0_1) (n := d_0_1.length) (m := cd_0_1) Try.underlying30 rfl) ?_
 refine lp (.int .i64 0) (pu_move rfl) ?_
 refine ln ?_
 refine hK77 _ _ ?_
 obtain ⟨o78, hl1, hb⟩ := bd hb
 refine Wc.cut (fun E wv => ∃ (v40_1 : Int) (qf26_1 : List Int) (qf75_1 : List Bool), E 2 = .bool false ∧ E 5 = .slice A21 (((List.replicate y8.2.toNat (0 : Int))).length) c22 ∧ I64 v40_1 ∧ Cx (fun _ => False) O0 w wv [.own 3 (.int .i64) (.slice A21 (((List.replicate y8.2.toNat (0 : Int))).length) c22) qf26_1] ∧ (((loopN n (F.diagram_spherical_b3 n y8 qf26_1) 0).bind fun o171 => match o171 with     | (.inl v75_3) => some true     | (.inr q) => some q) : Option (Bool)) = some r) (fun K79 hK79 => ?_) ?_
 refine Wc.block ?_
 refine Wc.loop (fun m E wv => ∃ (v40_1 : Int) (qf26_1 : List Int) (qf75_1 : List Bool), E 1 = .pointer (some ⟨g4, 0, none⟩) ∧ E 2 = .bool false ∧ E 3 = .slice A10 y8.1.length c12 ∧ E 5 = .slice A21 (((List.replicate y8.2.toNat (0 : Int))).length) c22 ∧ E 8 = .slice A70 (((List.replicate (d_0_1.length : Int).toNat false)).length) c71 ∧ E 39 = .int .i64 (d_0_1.length : Int) ∧ E 40 = .int .i64 v40_1 ∧ I64 v40_1 ∧ Cx (fun _ => False) O0 w wv [.box g4 32 [.slice Ad_0_0 d_0_0.length cd_0_0, .slice Ad_0_1 d_0_1.length cd_0_1, .int .i64 d_0_2], .ro (.sl (.int .i64)) [.slice Ad_0_0 d_0_0.length cd_0_0] d_0_0, .ro (.sl (.int .i64)) [.slice Ad_0_1 d_0_1.length cd_0_1] d_0_1, .own 3 (.int .i64) (.slice A10 y8.1.length c12) y8.1, .own 3 (.int .i64) (.slice A21 (((List.replicate y8.2.toNat (0 : Int))).length) c22) qf26_1, .own 4 .bool (.slice A70 (((List.replicate (d_0_1.length : Int).toNat false)).length) c71) qf75_1] ∧ loopN m (F.diagram_spherical_b1 n d_0_1 y8) (v40_1, qf26_1, qf75_1) = some o78) n ⟨0, qf26_0, (List.replicate (d_0_1.length : Int).toNat false), e1, e2, e3, e5, rfl, rfl, rfl, (show I64 0 from by unfold I64; omega), hC.sel [1, 2, 3, 4, 5, 0] (by decide), hl1⟩ ?_
 have hbK1 := hb
 clear hb hC hl1
 rintro m81 E83 w82 ⟨v40_1, qf26_1, qf75_1, e1, e2, e3, e5, e8, e39, e40, hrv40_1, hC, hl1⟩ K80 hK80
 obtain ⟨m81', o84, rfl, hb, hl1⟩ := loopN_some hl1
 unfold F.diagram_spherical_b1 at hb
 refine Wc.seq fun K85 hK85 => ?_
 refine rg ?_
 refine lp (.bool (decide (v40_1 < (d_0_1.length : Int)))) (pu_lss (k := .i64) (a := v40_1) (b := (d_0_1.length : Int)) e40 e39) ?_
 refine ln ?_
 refine hK85 _ _ ?_
 refine Wc.seq fun K86 hK86 => ?_
 refine Wc.cond (t := (decide (v40_1 < (d_0_1.length : Int)))) (rfl) (fun hq87 => ?_) (fun hq87 => ?_)
 replace hb := tt hq87 hb
 refine Wc.skip ?_
 refine hK86 _ _ ?_
 refine Wc.seq fun K88 hK88 => ?_
 refine Wc.block ?_
 refine Wc.seq fun K89 hK89 => ?_
 refine rg ?_
 refine lp (.int .i64 v40_1) (pu_move e40) ?_
 refine lp (.int .i64 v40_1) (pu_assign rfl) ?_
 refine ln ?_
 refine hK89 _ _ ?_
 refine Wc.seq fun K90 hK90 => ?_
 refine Wc.seq fun K91 hK91 => ?_
 refine rg ?_
 refine lp (.slice A70 (((List.replicate (d_0_1.length : Int).toNat false)).length) c71) (pu_move e8) ?_
 refine lp (.int .i64 v40_1) (pu_move rfl) ?_
 obtain ⟨x92, h93, hb⟩ := bd hb
 obtain ⟨ad94, cs95, hA, hc96, hr97⟩ := hC.elo (i := 5) rfl (get_some h93).2
 subst hA
 refine lp (.pointer (some (ad94.add (v40_1.toNat * 1)))) (pu_index (a := v40_1) Try.underlying122 Try.sizeOf4 rfl rfl (by rw [(hC.ow (i := 5) rfl).sl_len.1]; exact (get_some h93).1)) ?_
 obtain rfl := (show _ = _ from hr97)
 refine lv (.bool x92) (ld_one Try.isAgg4 rfl (hc96 0 _ rfl)) ?_
 refine ln ?_
 refine hK91 _ _ ?_
 refine Wc.cond (t := x92) (rfl) (fun hq98 => ?_) (fun hq98 => ?_)
 replace hb := tt hq98 hb
 refine Wc.exit rfl ?_
 refine hK88 _ _ ?_
 refine rg ?_
 obtain ⟨z99, h100, hb⟩ := bd hb
 refine lp (.int .i64 z99) (pu_addc (a := v40_1) (b := 1) e40 rfl h100) ?_
 refine lp (.int .i64 z99) (pu_move rfl) ?_
 refine ln ?_
 obtain rfl := os hb
 exact hK80 m81' _ _ (Nat.lt_succ_self _) ⟨z99, qf26_1, qf75_1, e1, e2, e3, e5, e8, e39, rfl, (chk_rng h100), hC.sel [0, 1, 2, 3, 4, 5] (by decide), lN hl1⟩
 replace hb := tf hq98 hb
 refine Wc.skip ?_
 refine hK90 _ _ ?_
 refine Wc.seq fun K101 hK101 => ?_
 refine rg ?_
 refine lp (.slice A21 (((List.replicate y8.2.toNat (0 : Int))).length) c22) (pu_move e5) ?_
 refine lp (.slice A10 y8.1.length c12) (pu_move e3) ?_
 refine lp (.int .i64 v40_1) (pu_move rfl) ?_
 obtain ⟨u102, h103, hb⟩ := bd hb
 obtain ⟨z104, h105, hb⟩ := bd hb
 refine lp (.int .i64 z104) (pu_quoc (a := v40_1) (b := 4) rfl rfl h103 h105) ?_
 obtain ⟨x106, h107, hb⟩ := bd hb
 obtain ⟨ad108, cs109, hA, hc110, hr111⟩ := hC.elo (i := 3) rfl (get_some h107).2
 subst hA
 refine lp (.pointer (some (ad108.add (z104.toNat * 1)))) (pu_index (a := z104) Try.underlying30 Try.sizeOf3 rfl rfl (get_some h107).1) ?_
 obtain ⟨rfl, hr111'⟩ := hr111
 refine lv (.int .i64 x106) (ld_one Try.isAgg3 rfl (hc110 0 _ rfl)) ?_
 obtain ⟨x112, h113, hb⟩ := bd hb
 obtain ⟨ad114, cs115, hA, hc116, hr117⟩ := hC.elo (i := 4) rfl (get_some h113).2
 subst hA
 refine lp (.pointer (some (ad114.add (x106.toNat * 1)))) (pu_index (a := x106) Try.underlying30 Try.sizeOf3 rfl rfl (by rw [(hC.ow (i := 4) rfl).sl_len.1]; exact (get_some h113).1)) ?_
 obtain ⟨rfl, hr117'⟩ := hr117
 refine lv (.int .i64 x112) (ld_one Try.isAgg3 rfl (hc116 0 _ rfl)) ?_
 obtain ⟨z118, h119, hb⟩ := bd hb
 refine lp (.int .i64 z118) (pu_addc (a := x112) (b := 1) rfl rfl h119) ?_
 obtain ⟨x120, h121, hb⟩ := bd hb
 obtain ⟨ad122, cs123, hA, hc124, hr125⟩ := hC.elo (i := 4) rfl (get_some h121).2
 obtain rfl := Option.some.inj hA
 refine lp (.pointer (some (ad114.add (x106.toNat * 1)))) (pu_index (a := x106) Try.underlying30 Try.sizeOf3 rfl rfl (by rw [(hC.ow (i := 4) rfl).sl_len.1]; exact (get_some h121).1)) ?_
 refine lex.sk (hC.put (i := 4) rfl rfl Try.sizeOf3 (k := x106.toNat) (a := z118) (by have := (get_some h121).1; simp at this ⊢; omega) (⟨rfl, I64.wr (chk_rng h119)⟩) rfl rfl rfl) ?_
 rintro w126 ⟨hC, hF⟩
 refine ln ?_
 refine hK101 _ _ ?_
 refine Wc.fresh fun E127 hE => ?_
 have e1 := (congrFun hE 1).trans e1
 have e2 := (congrFun hE 2).trans e2
 have e3 := (congrFun hE 3).trans e3
 have e5 := (congrFun hE 5).trans e5
 have e8 := (congrFun hE 8).trans e8
 have e9 : E127 9 = .int .i64 v40_1 := (congrFun hE 9).trans rfl
 have e39 := (congrFun hE 39).trans e39
 have e40 := (congrFun hE 40).trans e40
 have e41 : E127 41 = .bool (decide (v40_1 < (d_0_1.length : Int))) := (congrFun hE 41).trans rfl
 have e46 : E127 46 = .bool x92 := (congrFun hE 46).trans rfl
 clear hE
 refine Wc.seq fun K128 hK128 => ?_
 refine rg ?_
 refine lp (.int .i64 v40_1) (pu_move e9) ?_
 refine lp (.int .i64 v40_1) (pu_assign rfl) ?_
 refine ln ?_
 refine hK128 _ _ ?_
 obtain ⟨o129, hl2, hb⟩ := bd hb
 refine Wc.cut (fun E wv => ∃ (v10_2 : Int) (qf75_2 : List Bool), E 1 = .pointer (some ⟨g4, 0, none⟩) ∧ E 2 = .bool false ∧ E 3 = .slice (some ad108) y8.1.length c12 ∧ E 5 = .slice (some ad114) (((List.replicate y8.2.toNat (0 : Int))).length) c22 ∧ E 8 = .slice (some ad94) (((List.replicate (d_0_1.length : Int).toNat false)).length) c71 ∧ E 9 = .int .i64 v40_1 ∧ E 10 = .int .i64 v10_2 ∧ E 39 = .int .i64 (d_0_1.length : Int) ∧ E 40 = .int .i64 v40_1 ∧ E 41 = .bool (decide (v40_1 < (d_0_1.length : Int))) ∧ E 46 = .bool x92 ∧ I64 v10_2 ∧ Cx (fun _ => False) O0 w wv [.box g4 32 [.slice Ad_0_0 d_0_0.length cd_0_0, .slice Ad_0_1 d_0_1.length cd_0_1, .int .i64 d_0_2], .ro (.sl (.int .i64)) [.slice Ad_0_0 d_0_0.length cd_0_0] d_0_0, .ro (.sl (.int .i64)) [.slice Ad_0_1 d_0_1.length cd_0_1] d_0_1, .own 3 (.int .i64) (.slice (some ad108) y8.1.length c12) y8.1, .own 3 (.int .i64) (.slice (some ad114) (((List.replicate y8.2.toNat (0 : Int))).length) c22) (qf26_1.set x106.toNat z118), .own 4 .bool (.slice (some ad94) (((List.replicate (d_0_1.length : Int).toNat false)).length) c71) qf75_2] ∧ ((chk (v40_1 + 1)).bind fun z165 => some (.inl (z165, (qf26_1.set x106.toNat z118), qf75_2)) : Option ((Int × (List Int) × (List Bool)) ⊕ ((Int × (List Int) × (List Bool))))) = some o84) (fun K130 hK130 => ?_) ?_
 refine Wc.block ?_
 refine Wc.loop (fun m E wv => ∃ (v10_2 : Int) (qf75_2 : List Bool), E 1 = .pointer (some ⟨g4, 0, none⟩) ∧ E 2 = .bool false ∧ E 3 = .slice (some ad108) y8.1.length c12 ∧ E 5 = .slice (some ad114) (((List.replicate y8.2.toNat (0 : Int))).length) c22 ∧ E 8 = .slice (some ad94) (((List.replicate (d_0_1.length : Int).toNat false)).length) c71 ∧ E 9 = .int .i64 v40_1 ∧ E 10 = .int .i64 v10_2 ∧ E 39 = .int .i64 (d_0_1.length : Int) ∧ E 40 = .int .i64 v40_1 ∧ E 41 = .bool (decide (v40_1 < (d_0_1.length : Int))) ∧ E 46 = .bool x92 ∧ I64 v10_2 ∧ Cx (fun _ => False) O0 w wv [.box g4 32 [.slice Ad_0_0 d_0_0.length cd_0_0, .slice Ad_0_1 d_0_1.length cd_0_1, .int .i64 d_0_2], .ro (.sl (.int .i64)) [.slice Ad_0_0 d_0_0.length cd_0_0] d_0_0, .ro (.sl (.int .i64)) [.slice Ad_0_1 d_0_1.length cd_0_1] d_0_1, .own 3 (.int .i64) (.slice (some ad108) y8.1.length c12) y8.1, .own 3 (.int .i64) (.slice (some ad114) (((List.replicate y8.2.toNat (0 : Int))).length) c22) (qf26_1.set x106.toNat z118), .own 4 .bool (.slice (some ad94) (((List.replicate (d_0_1.length : Int).toNat false)).length) c71) qf75_2] ∧ loopN m (F.diagram_spherical_b2 n d_0_1) (v10_2, qf75_2) = some o129) n ⟨v40_1, qf75_1, e1, e2, e3, e5, e8, e9, rfl, e39, e40, e41, e46, hrv40_1, hC.sel [0, 1, 2, 3, 4, 5] (by decide), hl2⟩ ?_
 have hbK2 := hb
 clear hb hC hl2
 rintro m132 E134 w133 ⟨v10_2, qf75_2, e1, e2, e3, e5, e8, e9, e10, e39, e40, e41, e46, hrv10_2, hC, hl2⟩ K131 hK131
 obtain ⟨m132', o135, rfl, hb, hl2⟩ := loopN_some hl2
 unfold F.diagram_spherical_b2 at hb
 refine Wc.seq fun K136 hK136 => ?_
 refine Wc.seq fun K137 hK137 => ?_
 refine rg ?_
 refine lp (.slice (some ad94) (((List.replicate (d_0_1.length : Int).toNat false)).length) c71) (pu_move e8) ?_
 refine lp (.int .i64 v10_2) (pu_move e10) ?_
 obtain ⟨x138, h139, hb⟩ := bd hb
 obtain ⟨ad140, cs141, hA, hc142, hr143⟩ := hC.elo (i := 5) rfl (get_some h139).2
 obtain rfl := Option.some.inj hA
 refine lp (.pointer (some (ad94.add (v10_2.toNat * 1)))) (pu_index (a := v10_2) Try.underlying122 Try.sizeOf4 rfl rfl (by rw [(hC.ow (i := 5) rfl).sl_len.1]; exact (get_some h139).1)) ?_
 obtain rfl := (show _ = _ from hr143)
 refine lv (.bool x138) (ld_one Try.isAgg4 rfl (hc142 0 _ rfl)) ?_
 refine lp (.bool (!x138)) (pu_not (q := x138) rfl) ?_
 refine ln ?_
 refine hK137 _ _ ?_
 refine Wc.cond (t := (!x138)) (rfl) (fun hq144 => ?_) (fun hq144 => ?_)
 replace hb := tt hq144 hb
 refine Wc.skip ?_
 refine hK136 _ _ ?_
 refine Wc.seq fun K145 hK145 => ?_
 refine Wc.block ?_
 refine rg ?_
 refine lp (.slice (some ad94) (((List.replicate (d_0_1.length : Int).toNat false)).length) c71) (pu_move e8) ?_
 refine lp (.int .i64 v10_2) (pu_move e10) ?_
 obtain ⟨x146, h147, hb⟩ := bd hb
 obtain ⟨ad148, cs149, hA, hc150, hr151⟩ := hC.elo (i := 5) rfl (get_some h147).2
 obtain rfl := Option.some.inj hA
 refine lp (.pointer (some (ad94.add (v10_2.toNat * 1)))) (pu_index (a := v10_2) Try.underlying122 Try.sizeOf4 rfl rfl (by rw [(hC.ow (i := 5) rfl).sl_len.1]; exact (get_some h147).1)) ?_
 refine lex.sk (hC.put (i := 5) rfl rfl Try.sizeOf4 (k := v10_2.toNat) (a := true) (by have := (get_some h147).1; simp at this ⊢; omega) (show Rep _ _ .bool _ _ from rfl) rfl rfl rfl) ?_
 rintro w152 ⟨hC, hF⟩
 refine ln ?_
 refine hK145 _ _ ?_
 refine rg ?_
 refine lp (.pointer (some ((⟨g4, 0, none⟩ : Addr).add 1))) (pu_field (sz := 1) Try.underlying32 rfl Try.sizeOf30 (by decide) rfl e1) ?_
 refine lv (.slice Ad_0_1 d_0_1.length cd_0_1) (ld_fld (hC.bx (i := 0) rfl) Try.isAgg30 rfl rfl) ?_
 refine lp (.int .i64 v10_2) (pu_move e10) ?_
 obtain ⟨x153, h154, hb⟩ := bd hb
 obtain ⟨ad155, cs156, hA, hc157, hr158⟩ := hC.elr (i := 2) rfl (get_some h154).2
 subst hA
 refine lp (.pointer (some (ad155.add (v10_2.toNat * 1)))) (pu_index (a := v10_2) Try.underlying30 Try.sizeOf3 rfl rfl (get_some h154).1) ?_
 obtain ⟨rfl, hr158'⟩ := hr158
 refine lv (.int .i64 x153) (ld_one Try.isAgg3 rfl (hc157 0 _ rfl)) ?_
 obtain ⟨y159, h160, hb⟩ := bd hb
 refine lex.cl (⟨_, _, op_call (vs := [.int .i64 x153, .int .i64 (-1)]) Try.call89 rfl rfl rfl, diagram_Turn_ok n hC.lt (wrap_I64 hr158') (show I64 (-1) from by unfold I64; omega) h160⟩) ?_
 rintro _ w162 ⟨rfl, hr161, hK⟩
 replace hC := hC.merge hK
 clear hK
 refine lp (.int .i64 y159) (pu_assign rfl) ?_
 refine ln ?_
 obtain rfl := os hb
 exact hK131 m132' _ _ (Nat.lt_succ_self _) ⟨y159, (qf75_2.set v10_2.toNat true), e1, e2, e3, e5, e8, e9, rfl, e39, e40, e41, e46, hr161, hC.sel [0, 1, 2, 3, 4, 5] (by decide), lN hl2⟩
 replace hb := tf hq144 hb
 refine Wc.exit rfl ?_
 obtain rfl := os hb
 obtain rfl := (lX hl2).symm
 exact hK130 _ _ ⟨v10_2, qf75_2, e1, e2, e3, e5, e8, e9, e10, e39, e40, e41, e46, hrv10_2, hC.sel [0, 1, 2, 3, 4, 5] (by decide), hbK2⟩
 clear hb hC hl2
 rintro E164 w163 ⟨v10_2, qf75_2, e1, e2, e3, e5, e8, e9, e10, e39, e40, e41, e46, hrv10_2, hC, hb⟩
 refine hK88 _ _ ?_
 refine rg ?_
 obtain ⟨z165, h166, hb⟩ := bd hb
 refine lp (.int .i64 z165) (pu_addc (a := v40_1) (b := 1) e40 rfl h166) ?_
 refine lp (.int .i64 z165) (pu_move rfl) ?_
 refine ln ?_
 obtain rfl := os hb
 exact hK80 m81' _ _ (Nat.lt_succ_self _) ⟨z165, (qf26_1.set x106.toNat z118), qf75_2, e1, e2, e3, e5, e8, e39, rfl, (chk_rng h166), hC.sel [0, 1, 2, 3, 4, 5] (by decide), lN hl1⟩
 replace hb := tf hq87 hb
 refine Wc.exit rfl ?_
 obtain rfl := os hb
 obtain rfl := (lX hl1).symm
 exact hK79 _ _ ⟨v40_1, qf26_1, qf75_1, e2, e5, hrv40_1, hC.sel [4] (by decide), hbK1⟩
 clear hb hC hl1
 rintro E168 w167 ⟨v40_1, qf26_1, qf75_1, e2, e5, hrv40_1, hC, hb⟩
 refine hK76 _ _ ?_
 refine Wc.seq fun K169 hK169 => ?_
 refine Wc.seq fun K170 hK170 => ?_
 refine rg ?_
 refine lp (.slice A21 (((List.replicate y8.2.toNat (0 : Int))).length) c22) (pu_move e5) ?_
 refine lp (.int .i64 (((List.replicate y8.2.toNat (0 : Int))).length : Int)) (pu_len (A := A21) (n := ((List.replicate y8.2.toNat (0 : Int))).length) (m := c22) Try.underlying30 rfl) ?_
 refine lp (.int .i64 0) (pu_move rfl) ?_
 refine ln ?_
 refine hK170 _ _ ?_
 obtain ⟨o171, hl3, hb⟩ := bd hb
 refine Wc.cut (fun E wv => ∃ (v75_3 : Int), E 2 = .bool false ∧ I64 v75_3 ∧ Cx (fun _ => False) O0 w wv [] ∧ (some true : Option (Bool)) = some r) (fun K172 hK172 => ?_) ?_
 refine Wc.block ?_
 refine Wc.loop (fun m E wv => ∃ (v75_3 : Int), E 2 = .bool false ∧ E 73 = .slice A21 (((List.replicate y8.2.toNat (0 : Int))).length) c22 ∧ E 74 = .int .i64 (((List.replicate y8.2.toNat (0 : Int))).length : Int) ∧ E 75 = .int .i64 v75_3 ∧ I64 v75_3 ∧ Cx (fun _ => False) O0 w wv [.own 3 (.int .i64) (.slice A21 (((List.replicate y8.2.toNat (0 : Int))).length) c22) qf26_1] ∧ loopN m (F.diagram_spherical_b3 n y8 qf26_1) v75_3 = some o171) n ⟨0, e2, rfl, rfl, rfl, (show I64 0 from by unfold I64; omega), hC.sel [0] (by decide), hl3⟩ ?_
 have hbK3 := hb
 clear hb hC hl3
 rintro m174 E176 w175 ⟨v75_3, e2, e73, e74, e75, hrv75_3, hC, hl3⟩ K173 hK173
 obtain ⟨m174', o177, rfl, hb, hl3⟩ := loopN_some hl3
 unfold F.diagram_spherical_b3 at hb
 refine Wc.seq fun K178 hK178 => ?_
 refine rg ?_
 refine lp (.bool (decide (v75_3 < (((List.replicate y8.2.toNat (0 : Int))).length : Int)))) (pu_lss (k := .i64) (a := v75_3) (b := (((List.replicate y8.2.toNat (0 : Int))).length : Int)) e75 e74) ?_
 refine ln ?_
 refine hK178 _ _ ?_
 refine Wc.seq fun K179 hK179 => ?_
 refine Wc.cond (t := (decide (v75_3 < (((List.replicate y8.2.toNat (0 : Int))).length : Int)))) (rfl) (fun hq180 => ?_) (fun hq180 => ?_)
 replace hb := tt hq180 hb
 refine Wc.skip ?_
 refine hK179 _ _ ?_
 refine Wc.seq fun K181 hK181 => ?_
 refine Wc.block ?_
 refine Wc.seq fun K182 hK182 => ?_
 refine rg ?_
 obtain ⟨x183, h184, hb⟩ := bd hb
 obtain ⟨ad185, cs186, hA, hc187, hr188⟩ := hC.elo (i := 0) rfl (get_some h184).2
 subst hA
 refine lp (.pointer (some (ad185.add (v75_3.toNat * 1)))) (pu_index (a := v75_3) Try.underlying30 Try.sizeOf3 e73 e75 (by rw [(hC.ow (i := 0) rfl).sl_len.1]; exact (get_some h184).1)) ?_
 obtain ⟨rfl, hr188'⟩ := hr188
 refine lv (.int .i64 x183) (ld_one Try.isAgg3 rfl (hc187 0 _ rfl)) ?_
 refine lp (.int .i64 x183) (pu_assign rfl) ?_
 refine ln ?_
 refine hK182 _ _ ?_
 refine Wc.seq fun K189 hK189 => ?_
 refine rg ?_
 refine lp (.int .i64 x183) (pu_move rfl) ?_
 refine lp (.bool (!(decide (x183 = 2)))) (pu_neq (k := .i64) (a := x183) (b := 2) rfl rfl) ?_
 refine ln ?_
 refine hK189 _ _ ?_
 refine Wc.cond (t := (!(decide (x183 = 2)))) (rfl) (fun hq190 => ?_) (fun hq190 => ?_)
 replace hb := tt hq190 hb
 refine Wc.seq fun K191 hK191 => ?_
 refine rg ?_
 refine lp (.bool false) (pu_assign rfl) ?_
 refine ln ?_
 refine hK191 _ _ ?_
 obtain rfl := os hb
 obtain rfl := (lX hl3).symm
 replace hb := hbK3
 obtain rfl := os hb
 refine Wc.ret ?_
 refine hKR _ _ ?_
 refine ⟨_, res1 Try.results66 (show RV _ _ _ (.tmp _) (.bool false) from rfl), _, rfl, rfl, hC.sel [] (by decide)⟩
 replace hb := tf hq190 hb
 refine Wc.skip ?_
 refine hK181 _ _ ?_
 refine rg ?_
 obtain ⟨z192, h193, hb⟩ := bd hb
 refine lp (.int .i64 z192) (pu_addc (a := v75_3) (b := 1) e75 rfl h193) ?_
 refine lp (.int .i64 z192) (pu_move rfl) ?_
 refine ln ?_
 obtain rfl := os hb
 exact hK173 m174' _ _ (Nat.lt_succ_self _) ⟨z192, e2, e73, e74, rfl, (chk_rng h193), hC.sel [0] (by decide), lN hl3⟩
 replace hb := tf hq180 hb
 refine Wc.exit rfl ?_
 obtain rfl := os hb
 obtain rfl := (lX hl3).symm
 exact hK172 _ _ ⟨v75_3, e2, hrv75_3, hC.sel [] (by decide), hbK3⟩
 clear hb hC hl3
 rintro E195 w194 ⟨v75_3, e2, hrv75_3, hC, hb⟩
 refine hK169 _ _ ?_
 refine Wc.seq fun K196 hK196 => ?_
 refine rg ?_
 refine lp (.bool true) (pu_assign rfl) ?_
 refine ln ?_
 refine hK196 _ _ ?_
 obtain rfl := os hb
 refine Wc.ret ?_
 refine hKR _ _ ?_
 refine ⟨_, res1 Try.results66 (show RV _ _ _ (.tmp _) (.bool true) from rfl), _, rfl, rfl, hC.sel [] (by decide)⟩

set_option maxRecDepth 100000 in
set_option maxHeartbeats 4000000 in
theorem diagram_Valid_ok (n : Nat) {w : World} {O0 : List Nat} (hO : ∀ k ∈ O0, k < w.heap.size) {Ad_0_0 : Option Addr} {md_0_0 cd_0_0 : Nat} {d_0_0 : List Int} (hd_0_0 : Rep O0 w (.sl (.int .i64)) [.slice Ad_0_0 md_0_0 cd_0_0] d_0_0) {Ad_0_1 : Option Addr} {md_0_1 cd_0_1 : Nat} {d_0_1 : List Int} (hd_0_1 : Rep O0 w (.sl (.int .i64)) [.slice Ad_0_1 md_0_1 cd_0_1] d_0_1) {d_0_2 : Int} (hd_0_2 : I64 d_0_2) {r : Bool} (hb : F.diagram_Valid n d_0_0 d_0_1 d_0_2 = some r) :
    Calls Try.prog 27 #[.agg #[.slice Ad_0_0 md_0_0 cd_0_0, .slice Ad_0_1 md_0_1 cd_0_1, .int .i64 d_0_2]] w fun e w' => ∃ v, e = .returned v ∧ v = .bool r ∧ Cx (fun _ => False) O0 w w' [] := by
 unfold F.diagram_Valid at hb
 have hC := Cx.start hO
 replace hC := hC.arg rfl hd_0_0
 replace hC := hC.arg rfl hd_0_1
 clear hO
 obtain ⟨rfl, hld_0_0, hcd_0_0⟩ := hd_0_0.sl_len
 obtain ⟨rfl, hld_0_1, hcd_0_1⟩ := hd_0_1.sl_len
 refine calls_of_Wc Try.func27 rfl (by rw [Try.ntmps27]; exact Nat.le_of_ble_eq_true rfl) fun KR hKR => ?_
 refine Wc.seq fun K3 hK3 => ?_
 refine rg ?_
 refine lex.op (hC.box (cs := [.slice Ad_0_0 d_0_0.length cd_0_0, .slice Ad_0_1 d_0_1.length cd_0_1, .int .i64 d_0_2]) rfl rfl) ?_
 rintro _ w5 ⟨g4, rfl, hC, hF, hG⟩
 clear hG
 refine lp (.bool false) (pu_assign rfl) ?_
 refine ln ?_
 refine hK3 _ _ ?_
 refine Wc.seq fun K7 hK7 => ?_
 refine rg ?_
 refine lp (.pointer (some ((⟨g4, 0, none⟩ : Addr).add 0))) (pu_field (sz := 1) Try.underlying32 rfl Try.sizeOf30 (by decide) rfl rfl) ?_
 refine lv (.slice Ad_0_0 d_0_0.length cd_0_0) (ld_fld (hC.bx (i := 0) rfl) Try.isAgg30 rfl rfl) ?_
 refine lp (.int .i64 (d_0_0.length : Int)) (pu_len (A := Ad_0_0) (n := d_0_0.length) (m := cd_0_0) Try.underlying30 rfl) ?_
 refine lp (.int .i64 (d_0_0.length : Int)) (pu_assign rfl) ?_
 refine ln ?_
 refine hK7 _ _ ?_
 refine Wc.seq fun K8 hK8 => ?_
 refine Wc.seq fun K9 hK9 => ?_
 refine rg ?_
 refine lp (.int .i64 (d_0_0.length : Int)) (pu_move rfl) ?_
 refine lp (.bool (decide (64 < (d_0_0.length : Int)))) (pu_gtr (k := .i64) (a := (d_0_0.length : Int)) (b := 64) rfl rfl) ?_
 refine lp (.bool (decide (64 < (d_0_0.length : Int)))) (pu_move rfl) ?_
 rcases bS (decide (64 < (d_0_0.length : Int))) with hq10 | hq10
 replace hb := tt hq10 hb
 refine gs rfl rfl (decide (64 < (d_0_0.length : Int))) rfl hq10 ?_
 refine gs rfl rfl (decide (64 < (d_0_0.length : Int))) rfl hq10 ?_
 refine gs rfl rfl (decide (64 < (d_0_0.length : Int))) rfl hq10 ?_
 refine gs rfl rfl (decide (64 < (d_0_0.length : Int))) rfl hq10 ?_
 refine gs rfl rfl (decide (64 < (d_0_0.length : Int))) rfl hq10 ?_
 refine gs rfl rfl (decide (64 < (d_0_0.length : Int))) rfl hq10 ?_
 refine lp (.bool true) (pu_pickT (q := (decide (64 < (d_0_0.length : Int)))) rfl hq10 rfl) ?_
 refine lp (.bool true) (pu_move rfl) ?_
 refine gs rfl rfl true rfl rfl ?_
 refine gs rfl rfl true rfl rfl ?_
 refine gs rfl rfl true rfl rfl ?_
 refine lp (.bool true) (pu_pickT (q := true) rfl rfl rfl) ?_
 refine lp (.bool true) (pu_move rfl) ?_
 refine gs rfl rfl true rfl rfl ?_
 refine gs rfl rfl true rfl rfl ?_
 refine gs rfl rfl true rfl rfl ?_
 refine lp (.bool true) (pu_pickT (q := true) rfl rfl rfl) ?_
 refine ln ?_
 refine hK9 _ _ ?_
 refine Wc.cond_true (rfl) ?_
 refine Wc.seq fun K11 hK11 => ?_
 refine rg ?_
 refine lp (.bool false) (pu_assign rfl) ?_
 refine ln ?_
 refine hK11 _ _ ?_
 obtain rfl := os hb
 refine Wc.ret ?_
 refine hKR _ _ ?_
 refine ⟨_, res1 Try.results27 (show RV _ _ _ (.tmp _) (.bool false) from rfl), _, rfl, rfl, hC.sel [] (by decide)⟩
 replace hb := tf hq10 hb
 refine gp rfl rfl (decide (64 < (d_0_0.length : Int))) rfl hq10 (.pointer (some ((⟨g4, 0, none⟩ : Addr).add 1))) (pu_field (sz := 1) Try.underlying32 rfl Try.sizeOf30 (by decide) rfl rfl) ?_
 refine gv rfl rfl (decide (64 < (d_0_0.length : Int))) rfl hq10 (.slice Ad_0_1 d_0_1.length cd_0_1) (ld_fld (hC.bx (i := 0) rfl) Try.isAgg30 rfl rfl) ?_
 refine gp rfl rfl (decide (64 < (d_0_0.length : Int))) rfl hq10 (.int .i64 (d_0_1.length : Int)) (pu_len (A := Ad_0_1) (n := d_0_1.length) (m := cd_0_1) Try.underlying30 rfl) ?_
 refine gp rfl rfl (decide (64 < (d_0_0.length : Int))) rfl hq10 (.int .i64 (d_0_0.length : Int)) (pu_move rfl) ?_
 obtain ⟨z12, h13, hb⟩ := bd hb
 refine gp rfl rfl (decide (64 < (d_0_0.length : Int))) rfl hq10 (.int .i64 z12) (pu_mulc (a := 4) (b := (d_0_0.length : Int)) rfl rfl h13) ?_
 refine gp rfl rfl (decide (64 < (d_0_0.length : Int))) rfl hq10 (.bool (!(decide ((d_0_1.length : Int) = z12)))) (pu_neq (k := .i64) (a := (d_0_1.length : Int)) (b := z12) rfl rfl) ?_
 refine lp (.bool (!(decide ((d_0_1.length : Int) = z12)))) (pu_pickF (q := (decide (64 < (d_0_0.length : Int)))) rfl hq10 rfl) ?_
 refine lp (.bool (!(decide ((d_0_1.length : Int) = z12)))) (pu_move rfl) ?_
 rcases bS (!(decide ((d_0_1.length : Int) = z12))) with hq14 | hq14
 replace hb := tt hq14 hb
 refine gs rfl rfl (!(decide ((d_0_1.length : Int) = z12))) rfl hq14 ?_
 refine gs rfl rfl (!(decide ((d_0_1.length : Int) = z12))) rfl hq14 ?_
 refine gs rfl rfl (!(decide ((d_0_1.length : Int) = z12))) rfl hq14 ?_
 refine lp (.bool true) (pu_pickT (q := (!(decide ((d_0_1.length : Int) = z12)))) rfl hq14 rfl) ?_
 refine lp (.bool true) (pu_move rfl) ?_
 refine gs rfl rfl true rfl rfl ?_
 refine gs rfl rfl true rfl rfl ?_
 refine gs rfl rfl true rfl rfl ?_
 refine lp (.bool true) (pu_pickT (q := true) rfl rfl rfl) ?_
 refine ln ?_
 refine hK9 _ _ ?_
 refine Wc.cond_true (rfl) ?_
 refine Wc.seq fun K15 hK15 => ?_
 refine rg ?_
 refine lp (.bool false) (pu_assign rfl) ?_
 refine ln ?_
 refine hK15 _ _ ?_
 obtain rfl := os hb
 refine Wc.ret ?_
 refine hKR _ _ ?_
 refine ⟨_, res1 Try.results27 (show RV _ _ _ (.tmp _) (.bool false) from rfl), _, rfl, rfl, hC.sel [] (by decide)⟩
 replace hb := tf hq14 hb
 refine gp rfl rfl (!(decide ((d_0_1.length : Int) = z12))) rfl hq14 (.pointer (some ((⟨g4, 0, none⟩ : Addr).add 2))) (pu_field (sz := 1) Try.underlying32 rfl Try.sizeOf3 (by decide) rfl rfl) ?_
 refine gv rfl rfl (!(decide ((d_0_1.length : Int) = z12))) rfl hq14 (.int .i64 d_0_2) (ld_fld (hC.bx (i := 0) rfl) Try.isAgg3 rfl rfl) ?_
 refine gp rfl rfl (!(decide ((d_0_1.length : Int) = z12))) rfl hq14 (.bool (decide (d_0_2 < 0))) (pu_lss (k := .i64) (a := d_0_2) (b := 0) rfl rfl) ?_
 refine lp (.bool (decide (d_0_2 < 0))) (pu_pickF (q := (!(decide ((d_0_1.length : Int) = z12)))) rfl hq14 rfl) ?_
 refine lp (.bool (decide (d_0_2 < 0))) (pu_move rfl) ?_
 rcases bS (decide (d_0_2 < 0)) with hq16 | hq16
 replace hb := tt hq16 hb
 refine gs rfl rfl (decide (d_0_2 < 0)) rfl hq16 ?_
 refine gs rfl rfl (decide (d_0_2 < 0)) rfl hq16 ?_
 refine gs rfl rfl (decide (d_0_2 < 0)) rfl hq16 ?_
 refine lp (.bool true) (pu_pickT (q := (decide (d_0_2 < 0))) rfl hq16 rfl) ?_
 refine ln ?_
 refine hK9 _ _ ?_
 refine Wc.cond_true (rfl) ?_
 refine Wc.seq fun K17 hK17 => ?_
 refine rg ?_
 refine lp (.bool false) (pu_assign rfl) ?_
 refine ln ?_
 refine hK17 _ _ ?_
 obtain rfl := os hb
 refine Wc.ret ?_
 refine hKR _ _ ?_
 refine ⟨_, res1 Try.results27 (show RV _ _ _ (.tmp _) (.bool false) from rfl), _, rfl, rfl, hC.sel [] (by decide)⟩
 replace hb := tf hq16 hb
 refine gp rfl rfl (decide (d_0_2 < 0)) rfl hq16 (.pointer (some ((⟨g4, 0, none⟩ : Addr).add 2))) (pu_field (sz := 1) Try.underlying32 rfl Try.sizeOf3 (by decide) rfl rfl) ?_
 refine gv rfl rfl (decide (d_0_2 < 0)) rfl hq16 (.int .i64 d_0_2) (ld_fld (hC.bx (i := 0) rfl) Try.isAgg3 rfl rfl) ?_
 refine gp rfl rfl (decide (d_0_2 < 0)) rfl hq16 (.bool (decide (64 < d_0_2))) (pu_gtr (k := .i64) (a := d_0_2) (b := 64) rfl rfl) ?_
 refine lp (.bool (decide (64 < d_0_2))) (pu_pickF (q := (decide (d_0_2 < 0))) rfl hq16 rfl) ?_
 refine ln ?_
 refine hK9 _ _ ?_
 refine Wc.cond (t := (decide (64 < d_0_2))) (rfl) (fun hq18 => ?_) (fun hq18 => ?_)
 replace hb := tt hq18 hb
 refine Wc.seq fun K19 hK19 => ?_
 refine rg ?_
 refine lp (.bool false) (pu_assign rfl) ?_
 refine ln ?_
 refine hK19 _ _ ?_
 obtain rfl := os hb
 refine Wc.ret ?_
 refine hKR _ _ ?_
 refine ⟨_, res1 Try.results27 (show RV _ _ _ (.tmp _) (.bool false) from rfl), _, rfl, rfl, hC.sel [] (by decide)⟩
 replace hb := tf hq18 hb
 refine Wc.skip ?_
 refine hK8 _ _ ?_
 refine Wc.fresh fun E20 hE => ?_
 have e1 : E20 1 = .pointer (some ⟨g4, 0, none⟩) := (congrFun hE 1).trans rfl
 have e2 : E20 2 = .bool false := (congrFun hE 2).trans rfl
 have e3 : E20 3 = .int .i64 (d_0_0.length : Int) := (congrFun hE 3).trans rfl
 clear hE
 refine Wc.seq fun K21 hK21 => ?_
 refine Wc.seq fun K22 hK22 => ?_
 refine rg ?_
 refine lp (.pointer (some ((⟨g4, 0, none⟩ : Addr).add 0))) (pu_field (sz := 1) Try.underlying32 rfl Try.sizeOf30 (by decide) rfl e1) ?_
 refine lv (.slice Ad_0_0 d_0_0.length cd_0_0) (ld_fld (hC.bx (i := 0) rfl) Try.isAgg30 rfl rfl) ?_
 refine lp (.int .i64 (d_0_0.length : Int)) (pu_len (A := Ad_0_0) (n := d_0_0.length) (m := cd_0_0) Try.underlying30 rfl) ?_
 refine lp (.int .i64 0) (pu_move rfl) ?_
 refine ln ?_
 refine hK22 _ _ ?_
 obtain ⟨o23, hl0, hb⟩ := bd hb
 refine Wc.cut (fun E wv => ∃ (v34_0 : Int), E 1 = .pointer (some ⟨g4, 0, none⟩) ∧ E 2 = .bool false ∧ E 3 = .int .i64 (d_0_0.length : Int) ∧ I64 v34_0 ∧ Cx (fun _ => False) O0 w wv [.box g4 32 [.slice Ad_0_0 d_0_0.length cd_0_0, .slice Ad_0_1 d_0_1.length cd_0_1, .int .i64 d_0_2], .ro (.sl (.int .i64)) [.slice Ad_0_0 d_0_0.length cd_0_0] d_0_0, .ro (.sl (.int .i64)) [.slice Ad_0_1 d_0_1.length cd_0_1] d_0_1] ∧ (((loopN n (F.diagram_Valid_b1 n d_0_0 d_0_1 d_0_2) 0).bind fun o53 => match o53 with     | (.inl v48_1) => (F.diagram_spherical n d_0_0 d_0_1 d_0_2).bind fun y106 => some y106     | (.inr q) => some q) : Option (Bool)) = some r) (fun K24 hK24 => ?_) ?_
 refine Wc.block ?_
 refine Wc.loop (fun m E wv => ∃ (v34_0 : Int), E 1 = .pointer (some ⟨g4, 0, none⟩) ∧ E 2 = .bool false ∧ E 3 = .int .i64 (d_0_0.length : Int) ∧ E 32 = .slice Ad_0_0 d_0_0.length cd_0_0 ∧ E 33 = .int .i64 (d_0_0.length : Int) ∧ E 34 = .int .i64 v34_0 ∧ I64 v34_0 ∧ Cx (fun _ => False) O0 w wv [.box g4 32 [.slice Ad_0_0 d_0_0.length cd_0_0, .slice Ad_0_1 d_0_1.length cd_0_1, .int .i64 d_0_2], .ro (.sl (.int .i64)) [.slice Ad_0_0 d_0_0.length cd_0_0] d_0_0, .ro (.sl (.int .i64)) [.slice Ad_0_1 d_0_1.length cd_0_1] d_0_1] ∧ loopN m (F.diagram_Valid_b0 n d_0_0) v34_0 = some o23) n ⟨0, e1, e2, e3, rfl, rfl, rfl, (show I64 0 from by unfold I64; omega), hC.sel [0, 2, 1] (by decide), hl0⟩ ?_
 have hbK0 := hb
 clear hb hC hl0
 rintro m26 E28 w27 ⟨v34_0, e1, e2, e3, e32, e33, e34, hrv34_0, hC, hl0⟩ K25 hK25
 obtain ⟨m26', o29, rfl, hb, hl0⟩ := loopN_some hl0
 unfold F.diagram_Valid_b0 at hb
 refine Wc.seq fun K30 hK30 => ?_
 refine rg ?_
 refine lp (.bool (decide (v34_0 < (d_0_0.length : Int)))) (pu_lss (k := .i64) (a := v34_0) (b := (d_0_0.length : Int)) e34 e33) ?_
 refine ln ?_
 refine hK30 _ _ ?_
 refine Wc.seq fun K31 hK31 => ?_
 refine Wc.cond (t := (decide (v34_0 < (d_0_0.length : Int)))) (rfl) (fun hq32 => ?_) (fun hq32 => ?_)
 replace hb := tt hq32 hb
 refine Wc.skip ?_
 refine hK31 _ _ ?_
 refine Wc.seq fun K33 hK33 => ?_
 refine Wc.block ?_
 refine Wc.seq fun K34 hK34 => ?_
 refine rg ?_
 obtain ⟨x35, h36, hb⟩ := bd hb
 obtain ⟨ad37, cs38, hA, hc39, hr40⟩ := hC.elr (i := 1) rfl (get_some h36).2
 subst hA
 refine lp (.pointer (some (ad37.add (v34_0.toNat * 1)))) (pu_index (a := v34_0) Try.underlying30 Try.sizeOf3 e32 e34 (get_some h36).1) ?_
 obtain ⟨rfl, hr40'⟩ := hr40
 refine lv (.int .i64 x35) (ld_one Try.isAgg3 rfl (hc39 0 _ rfl)) ?_
 refine lp (.int .i64 x35) (pu_assign rfl) ?_
 refine ln ?_
 refine hK34 _ _ ?_
 refine Wc.seq fun K41 hK41 => ?_
 refine rg ?_
 refine lp (.int .i64 x35) (pu_move rfl) ?_
 refine lp (.bool (!(decide (x35 = 1)))) (pu_neq (k := .i64) (a := x35) (b := 1) rfl rfl) ?_
 refine lp (.bool (!(decide (x35 = 1)))) (pu_move rfl) ?_
 rcases bS (!(decide (x35 = 1))) with hq42 | hq42
 replace hb := tt hq42 hb
 refine gp rfl rfl (!(decide (x35 = 1))) rfl hq42 (.int .i64 x35) (pu_move rfl) ?_
 refine gp rfl rfl (!(decide (x35 = 1))) rfl hq42 (.bool (!(decide (x35 = (-1))))) (pu_neq (k := .i64) (a := x35) (b := (-1)) rfl rfl) ?_
 refine lp (.bool (!(decide (x35 = (-1))))) (pu_pickT (q := (!(decide (x35 = 1)))) rfl hq42 rfl) ?_
 refine ln ?_
 refine hK41 _ _ ?_
 refine Wc.cond (t := (!(decide (x35 = (-1))))) (rfl) (fun hq43 => ?_) (fun hq43 => ?_)
 replace hb := tt hq43 hb
 refine Wc.seq fun K44 hK44 => ?_
 refine rg ?_
 refine lp (.bool false) (pu_assign rfl) ?_
 refine ln ?_
 refine hK44 _ _ ?_
 obtain rfl := os hb
 obtain rfl := (lX hl0).symm
 replace hb := hbK0
 obtain rfl := os hb
 refine Wc.ret ?_
 refine hKR _ _ ?_
 refine ⟨_, res1 Try.results27 (show RV _ _ _ (.tmp _) (.bool false) from rfl), _, rfl, rfl, hC.sel [] (by decide)⟩
 replace hb := tf hq43 hb
 refine Wc.skip ?_
 refine hK33 _ _ ?_
 refine rg ?_
 obtain ⟨z45, h46, hb⟩ := bd hb
 refine lp (.int .i64 z45) (pu_addc (a := v34_0) (b := 1) e34 rfl h46) ?_
 refine lp (.int .i64 z45) (pu_move rfl) ?_
 refine ln ?_
 obtain rfl := os hb
 exact hK25 m26' _ _ (Nat.lt_succ_self _) ⟨z45, e1, e2, e3, e32, e33, rfl, (chk_rng h46), hC.sel [0, 1, 2] (by decide), lN hl0⟩
 replace hb := tf hq42 hb
 refine gs rfl rfl (!(decide (x35 = 1))) rfl hq42 ?_
 refine gs rfl rfl (!(decide (x35 = 1))) rfl hq42 ?_
 refine lp (.bool false) (pu_pickF (q := (!(decide (x35 = 1)))) rfl hq42 rfl) ?_
 refine ln ?_
 refine hK41 _ _ ?_
 refine Wc.cond_false (rfl) ?_
 refine Wc.skip ?_
 refine hK33 _ _ ?_
 refine rg ?_
 obtain ⟨z47, h48, hb⟩ := bd hb
 refine lp (.int .i64 z47) (pu_addc (a := v34_0) (b := 1) e34 rfl h48) ?_
 refine lp (.int .i64 z47) (pu_move rfl) ?_
 refine ln ?_
 obtain rfl := os hb
 exact hK25 m26' _ _ (Nat.lt_succ_self _) ⟨z47, e1, e2, e3, e32, e33, rfl, (chk_rng h48), hC.sel [0, 1, 2] (by decide), lN hl0⟩
 replace hb := tf hq32 hb
 refine Wc.exit rfl ?_
 obtain rfl := os hb
 obtain rfl := (lX hl0).symm
 exact hK24 _ _ ⟨v34_0, e1, e2, e3, hrv34_0, hC.sel [0, 1, 2] (by decide), hbK0⟩
 clear hb hC hl0
 rintro E50 w49 ⟨v34_0, e1, e2, e3, hrv34_0, hC, hb⟩
 refine hK21 _ _ ?_
 refine Wc.seq fun K51 hK51 => ?_
 refine Wc.seq fun K52 hK52 => ?_
 refine rg ?_
 refine lp (.pointer (some ((⟨g4, 0, none⟩ : Addr).add 1))) (pu_field (sz := 1) Try.underlying32 rfl Try.sizeOf30 (by decide) rfl e1) ?_
 refine lv (.slice Ad_0_1 d_0_1.length cd_0_1) (ld_fld (hC.bx (i := 0) rfl) Try.isAgg30 rfl rfl) ?_
 refine lp (.int .i64 (d_0_1.length : Int)) (pu_len (A := Ad_0_1) (n := d_0_1.length) (m := cd_0_1) Try.underlying30 rfl) ?_
 refine lp (.int .i64 0) (pu_move rfl) ?_
 refine ln ?_
 refine hK52 _ _ ?_
 obtain ⟨o53, hl1, hb⟩ := bd hb
 refine Wc.cut (fun E wv => ∃ (v48_1 : Int), E 1 = .pointer (some ⟨g4, 0, none⟩) ∧ E 2 = .bool false ∧ I64 v48_1 ∧ Cx (fun _ => False) O0 w wv [.box g4 32 [.slice Ad_0_0 d_0_0.length cd_0_0, .slice Ad_0_1 d_0_1.length cd_0_1, .int .i64 d_0_2], .ro (.sl (.int .i64)) [.slice Ad_0_0 d_0_0.length cd_0_0] d_0_0, .ro (.sl (.int .i64)) [.slice Ad_0_1 d_0_1.length cd_0_1] d_0_1] ∧ ((F.diagram_spherical n d_0_0 d_0_1 d_0_2).bind fun y106 => some y106 : Option (Bool)) = some r) (fun K54 hK54 => ?_) ?_
 refine Wc.block ?_
 refine Wc.loop (fun m E wv => ∃ (v48_1 : Int), E 1 = .pointer (some ⟨g4, 0, none⟩) ∧ E 2 = .bool false ∧ E 3 = .int .i64 (d_0_0.length : Int) ∧ E 46 = .slice Ad_0_1 d_0_1.length cd_0_1 ∧ E 47 = .int .i64 (d_0_1.length : Int) ∧ E 48 = .int .i64 v48_1 ∧ I64 v48_1 ∧ Cx (fun _ => False) O0 w wv [.box g4 32 [.slice Ad_0_0 d_0_0.length cd_0_0, .slice Ad_0_1 d_0_1.length cd_0_1, .int .i64 d_0_2], .ro (.sl (.int .i64)) [.slice Ad_0_0 d_0_0.length cd_0_0] d_0_0, .ro (.sl (.int .i64)) [.slice Ad_0_1 d_0_1.length cd_0_1] d_0_1] ∧ loopN m (F.diagram_Valid_b1 n d_0_0 d_0_1 d_0_2) v48_1 = some o53) n ⟨0, e1, e2, e3, rfl, rfl, rfl, (show I64 0 from by unfold I64; omega), hC.sel [0, 1, 2] (by decide), hl1⟩ ?_
 have hbK1 := hb
 clear hb hC hl1
 rintro m56 E58 w57 ⟨v48_1, e1, e2, e3, e46, e47, e48, hrv48_1, hC, hl1⟩ K55 hK55
 obtain ⟨m56', o59, rfl, hb, hl1⟩ := loopN_some hl1
 unfold F.diagram_Valid_b1 at hb
 refine Wc.seq fun K60 hK60 => ?_
 refine rg ?_
 refine lp (.bool (decide (v48_1 < (d_0_1.length : Int)))) (pu_lss (k := .i64) (a := v48_1) (b := (d_0_1.length : Int)) e48 e47) ?_
 refine ln ?_
 refine hK60 _ _ ?_
 refine Wc.seq fun K61 hK61 => ?_
 refine Wc.cond (t := (decide (v48_1 < (d_0_1.length : Int)))) (rfl) (fun hq62 => ?_) (fun hq62 => ?_)
 replace hb := tt hq62 hb
 refine Wc.skip ?_
 refine hK61 _ _ ?_
 refine Wc.seq fun K63 hK63 => ?_
 refine Wc.block ?_
 refine Wc.seq fun K64 hK64 => ?_
 refine rg ?_
 refine lp (.int .i64 v48_1) (pu_move e48) ?_
 obtain ⟨x65, h66, hb⟩ := bd hb
 obtain ⟨ad67, cs68, hA, hc69, hr70⟩ := hC.elr (i := 2) rfl (get_some h66).2
 subst hA
 refine lp (.pointer (some (ad67.add (v48_1.toNat * 1)))) (pu_index (a := v48_1) Try.underlying30 Try.sizeOf3 e46 e48 (get_some h66).1) ?_
 obtain ⟨rfl, hr70'⟩ := hr70
 refine lv (.int .i64 x65) (ld_one Try.isAgg3 rfl (hc69 0 _ rfl)) ?_
 refine lp (.int .i64 v48_1) (pu_assign rfl) ?_
 refine lp (.int .i64 x65) (pu_assign rfl) ?_
 refine ln ?_
 refine hK64 _ _ ?_
 refine Wc.seq fun K71 hK71 => ?_
 refine Wc.seq fun K72 hK72 => ?_
 refine rg ?_
 refine lp (.int .i64 x65) (pu_move rfl) ?_
 refine lp (.bool (decide (x65 < 0))) (pu_lss (k := .i64) (a := x65) (b := 0) rfl rfl) ?_
 refine lp (.bool (decide (x65 < 0))) (pu_move rfl) ?_
 rcases bS (decide (x65 < 0)) with hq73 | hq73
 replace hb := tt hq73 hb
 refine gs rfl rfl (decide (x65 < 0)) rfl hq73 ?_
 refine gs rfl rfl (decide (x65 < 0)) rfl hq73 ?_
 refine gs rfl rfl (decide (x65 < 0)) rfl hq73 ?_
 refine gs rfl rfl (decide (x65 < 0)) rfl hq73 ?_
 refine lp (.bool true) (pu_pickT (q := (decide (x65 < 0))) rfl hq73 rfl) ?_
 refine lp (.bool true) (pu_move rfl) ?_
 refine gs rfl rfl true rfl rfl ?_
 refine gs rfl rfl true rfl rfl ?_
 refine gs rfl rfl true rfl rfl ?_
 refine lp (.bool true) (pu_pickT (q := true) rfl rfl rfl) ?_
 refine lp (.bool true) (pu_move rfl) ?_
 refine gs rfl rfl true rfl rfl ?_
 refine gs rfl rfl true rfl rfl ?_
 refine gs rfl rfl true rfl rfl ?_
 refine gs rfl rfl true rfl rfl ?_
 refine gs rfl rfl true rfl rfl ?_
 refine gs rfl rfl true rfl rfl ?_
 refine gs rfl rfl true rfl rfl ?_
 refine lp (.bool true) (pu_pickT (q := true) rfl rfl rfl) ?_
 refine ln ?_
 refine hK72 _ _ ?_
 refine Wc.cond_true (rfl) ?_
 refine Wc.seq fun K74 hK74 => ?_
 refine rg ?_
 refine lp (.bool false) (pu_assign rfl) ?_
 refine ln ?_
 refine hK74 _ _ ?_
 obtain rfl := os hb
 obtain rfl := (lX hl1).symm
 replace hb := hbK1
 obtain rfl := os hb
 refine Wc.ret ?_
 refine hKR _ _ ?_
 refine ⟨_, res1 Try.results27 (show RV _ _ _ (.tmp _) (.bool false) from rfl), _, rfl, rfl, hC.sel [] (by decide)⟩
 replace hb := tf hq73 hb
 refine gp rfl rfl (decide (x65 < 0)) rfl hq73 (.int .i64 x65) (pu_move rfl) ?_
 refine gp rfl rfl (decide (x65 < 0)) rfl hq73 (.int .i64 (d_0_0.length : Int)) (pu_move e3) ?_
 obtain ⟨z75, h76, hb⟩ := bd hb
 refine gp rfl rfl (decide (x65 < 0)) rfl hq73 (.int .i64 z75) (pu_mulc (a := 4) (b := (d_0_0.length : Int)) rfl rfl h76) ?_
 refine gp rfl rfl (decide (x65 < 0)) rfl hq73 (.bool (decide (z75 ≤ x65))) (pu_geq (k := .i64) (a := x65) (b := z75) rfl rfl) ?_
 refine lp (.bool (decide (z75 ≤ x65))) (pu_pickF (q := (decide (x65 < 0))) rfl hq73 rfl) ?_
 refine lp (.bool (decide (z75 ≤ x65))) (pu_move rfl) ?_
 rcases bS (decide (z75 ≤ x65)) with hq77 | hq77
 replace hb := tt hq77 hb
 refine gs rfl rfl (decide (z75 ≤ x65)) rfl hq77 ?_
 refine gs rfl rfl (decide (z75 ≤ x65)) rfl hq77 ?_
 refine gs rfl rfl (decide (z75 ≤ x65)) rfl hq77 ?_
 refine lp (.bool true) (pu_pickT (q := (decide (z75 ≤ x65))) rfl hq77 rfl) ?_
 refine lp (.bool true) (pu_move rfl) ?_
 refine gs rfl rfl true rfl rfl ?_
 refine gs rfl rfl true rfl rfl ?_
 refine gs rfl rfl true rfl rfl ?_
 refine gs rfl rfl true rfl rfl ?_
 refine gs rfl rfl true rfl rfl ?_
 refine gs rfl rfl true rfl rfl ?_
 refine gs rfl rfl true rfl rfl ?_
 refine lp (.bool true) (pu_pickT (q := true) rfl rfl rfl) ?_
 refine ln ?_
 refine hK72 _ _ ?_
 refine Wc.cond_true (rfl) ?_
 refine Wc.seq fun K78 hK78 => ?_
 refine rg ?_
 refine lp (.bool false) (pu_assign rfl) ?_
 refine ln ?_
 refine hK78 _ _ ?_
 obtain rfl := os hb
 obtain rfl := (lX hl1).symm
 replace hb := hbK1
 obtain rfl := os hb
 refine Wc.ret ?_
 refine hKR _ _ ?_
 refine ⟨_, res1 Try.results27 (show RV _ _ _ (.tmp _) (.bool false) from rfl), _, rfl, rfl, hC.sel [] (by decide)⟩
 replace hb := tf hq77 hb
 refine gp rfl rfl (decide (z75 ≤ x65)) rfl hq77 (.int .i64 x65) (pu_move rfl) ?_
 refine gp rfl rfl (decide (z75 ≤ x65)) rfl hq77 (.int .i64 v48_1) (pu_move rfl) ?_
 refine gp rfl rfl (decide (z75 ≤ x65)) rfl hq77 (.bool (decide (x65 = v48_1))) (pu_eql (k := .i64) (a := x65) (b := v48_1) rfl rfl) ?_
 refine lp (.bool (decide (x65 = v48_1))) (pu_pickF (q := (decide (z75 ≤ x65))) rfl hq77 rfl) ?_
 refine lp (.bool (decide (x65 = v48_1))) (pu_move rfl) ?_
 rcases bS (decide (x65 = v48_1)) with hq79 | hq79
 replace hb := tt hq79 hb
 refine gs rfl rfl (decide (x65 = v48_1)) rfl hq79 ?_
 refine gs rfl rfl (decide (x65 = v48_1)) rfl hq79 ?_
 refine gs rfl rfl (decide (x65 = v48_1)) rfl hq79 ?_
 refine gs rfl rfl (decide (x65 = v48_1)) rfl hq79 ?_
 refine gs rfl rfl (decide (x65 = v48_1)) rfl hq79 ?_
 refine gs rfl rfl (decide (x65 = v48_1)) rfl hq79 ?_
 refine gs rfl rfl (decide (x65 = v48_1)) rfl hq79 ?_
 refine lp (.bool true) (pu_pickT (q := (decide (x65 = v48_1))) rfl hq79 rfl) ?_
 refine ln ?_
 refine hK72 _ _ ?_
 refine Wc.cond_true (rfl) ?_
 refine Wc.seq fun K80 hK80 => ?_
 refine rg ?_
 refine lp (.bool false) (pu_assign rfl) ?_
 refine ln ?_
 refine hK80 _ _ ?_
 obtain rfl := os hb
 obtain rfl := (lX hl1).symm
 replace hb := hbK1
 obtain rfl := os hb
 refine Wc.ret ?_
 refine hKR _ _ ?_
 refine ⟨_, res1 Try.results27 (show RV _ _ _ (.tmp _) (.bool false) from rfl), _, rfl, rfl, hC.sel [] (by decide)⟩
 replace hb := tf hq79 hb
 refine gp rfl rfl (decide (x65 = v48_1)) rfl hq79 (.pointer (some ((⟨g4, 0, none⟩ : Addr).add 1))) (pu_field (sz := 1) Try.underlying32 rfl Try.sizeOf30 (by decide) rfl e1) ?_
 refine gv rfl rfl (decide (x65 = v48_1)) rfl hq79 (.slice (some ad67) d_0_1.length cd_0_1) (ld_fld (hC.bx (i := 0) rfl) Try.isAgg30 rfl rfl) ?_
 refine gp rfl rfl (decide (x65 = v48_1)) rfl hq79 (.int .i64 x65) (pu_move rfl) ?_
 obtain ⟨x81, h82, hb⟩ := bd hb
 obtain ⟨ad83, cs84, hA, hc85, hr86⟩ := hC.elr (i := 2) rfl (get_some h82).2
 obtain rfl := Option.some.inj hA
 refine gp rfl rfl (decide (x65 = v48_1)) rfl hq79 (.pointer (some (ad67.add (x65.toNat * 1)))) (pu_index (a := x65) Try.underlying30 Try.sizeOf3 rfl rfl (get_some h82).1) ?_
 obtain ⟨rfl, hr86'⟩ := hr86
 refine gv rfl rfl (decide (x65 = v48_1)) rfl hq79 (.int .i64 x81) (ld_one Try.isAgg3 rfl (hc85 0 _ rfl)) ?_
 refine gp rfl rfl (decide (x65 = v48_1)) rfl hq79 (.int .i64 v48_1) (pu_move rfl) ?_
 refine gp rfl rfl (decide (x65 = v48_1)) rfl hq79 (.bool (!(decide (x81 = v48_1)))) (pu_neq (k := .i64) (a := x81) (b := v48_1) rfl rfl) ?_
 refine lp (.bool (!(decide (x81 = v48_1)))) (pu_pickF (q := (decide (x65 = v48_1))) rfl hq79 rfl) ?_
 refine ln ?_
 refine hK72 _ _ ?_
 refine Wc.cond (t := (!(decide (x81 = v48_1)))) (rfl) (fun hq87 => ?_) (fun hq87 => ?_)
 replace hb := tt hq87 hb
 refine Wc.seq fun K88 hK88 => ?_
 refine rg ?_
 refine lp (.bool false) (pu_assign rfl) ?_
 refine ln ?_
 refine hK88 _ _ ?_
 obtain rfl := os hb
 obtain rfl := (lX hl1).symm
 replace hb := hbK1
 obtain rfl := os hb
 refine Wc.ret ?_
 refine hKR _ _ ?_
 refine ⟨_, res1 Try.results27 (show RV _ _ _ (.tmp _) (.bool false) from rfl), _, rfl, rfl, hC.sel [] (by decide)⟩
 replace hb := tf hq87 hb
 refine Wc.skip ?_
 refine hK71 _ _ ?_
 refine Wc.fresh fun E89 hE => ?_
 have e1 := (congrFun hE 1).trans e1
 have e2 := (congrFun hE 2).trans e2
 have e3 := (congrFun hE 3).trans e3
 have e6 : E89 6 = .int .i64 v48_1 := (congrFun hE 6).trans rfl
 have e7 : E89 7 = .int .i64 x65 := (congrFun hE 7).trans rfl
 have e46 := (congrFun hE 46).trans e46
 have e47 := (congrFun hE 47).trans e47
 have e48 := (congrFun hE 48).trans e48
 have e49 : E89 49 = .bool (decide (v48_1 < (d_0_1.length : Int))) := (congrFun hE 49).trans rfl
 have e74 : E89 74 = .bool (!(decide (x81 = v48_1))) := (congrFun hE 74).trans rfl
 clear hE
 refine Wc.seq fun K90 hK90 => ?_
 refine Wc.regionMix [] (frm [] ([] : List Fact) ([] : List Fact)) (fun _ => rfl) mixed (by decide +kernel) (by decide +kernel) fun w92 hw91 => ?_
 replace hC := hC.step (Fr.of_drew hw91)
 have hM := Fr.refl (fun k => k ∈ blocks ([] : List Fact)) w92
 clear hw91
 have hS := hC
 refine mixE.load hM (v := .agg #[.slice Ad_0_0 d_0_0.length cd_0_0, .slice (some ad67) d_0_1.length cd_0_1, .int .i64 d_0_2]) (fun _ hF => ld_blk (hS.bx2 (i := 0) rfl [] (by decide) hF) Try.isAgg32 Try.sizeOf32 e1) ?_
 refine mp (.int .i64 v48_1) (pu_move e6) ?_
 obtain ⟨y93, h94, hb⟩ := bd hb
 refine mixE.cl hM (⟨_, _, op_call (vs := [.agg #[.slice Ad_0_0 d_0_0.length cd_0_0, .slice (some ad67) d_0_1.length cd_0_1, .int .i64 d_0_2], .int .i64 v48_1]) Try.call65 rfl rfl rfl, diagram_outgoing_ok n hC.lt (hC.rd (i := 1) rfl) (hC.rd (i := 2) rfl) hd_0_2 hrv48_1 h94⟩) ?_
 rintro _ w95 ⟨rfl, hK⟩
 replace hM := hM.none hK.fr
 refine ⟨hM, ?_⟩
 replace hC := hC.merge hK
 clear hK
 refine mixE.load hM (v := .agg #[.slice Ad_0_0 d_0_0.length cd_0_0, .slice (some ad67) d_0_1.length cd_0_1, .int .i64 d_0_2]) (fun _ hF => ld_blk (hS.bx2 (i := 0) rfl [] (by decide) hF) Try.isAgg32 Try.sizeOf32 e1) ?_
 refine mp (.int .i64 x65) (pu_move e7) ?_
 obtain ⟨y96, h97, hb⟩ := bd hb
 refine mixE.cl hM (⟨_, _, op_call (vs := [.agg #[.slice Ad_0_0 d_0_0.length cd_0_0, .slice (some ad67) d_0_1.length cd_0_1, .int .i64 d_0_2], .int .i64 x65]) Try.call65 rfl rfl rfl, diagram_outgoing_ok n hC.lt (hC.rd (i := 1) rfl) (hC.rd (i := 2) rfl) hd_0_2 (wrap_I64 hr70') h97⟩) ?_
 rintro _ w98 ⟨rfl, hK⟩
 replace hM := hM.none hK.fr
 refine ⟨hM, ?_⟩
 replace hC := hC.merge hK
 clear hK
 refine mp (.bool (y93 == y96)) (pu_eqlb (p := y93) (q := y96) Try.underlying4 rfl rfl) ?_
 refine mixE.nil ?_
 clear hS hM
 refine hK90 _ _ ?_
 refine Wc.cond (t := (y93 == y96)) (rfl) (fun hq99 => ?_) (fun hq99 => ?_)
 replace hb := tt hq99 hb
 refine Wc.seq fun K100 hK100 => ?_
 refine rg ?_
 refine lp (.bool false) (pu_assign rfl) ?_
 refine ln ?_
 refine hK100 _ _ ?_
 obtain rfl := os hb
 obtain rfl := (lX hl1).symm
 replace hb := hbK1
 obtain rfl := os hb
 refine Wc.ret ?_
 refine hKR _ _ ?_
 refine ⟨_, res1 Try.results27 (show RV _ _ _ (.tmp _) (.bool false) from rfl), _, rfl, rfl, hC.sel [] (by decide)⟩
 replace hb := tf hq99 hb
 refine Wc.skip ?_
 refine hK63 _ _ ?_
 refine rg ?_
 obtain ⟨z101, h102, hb⟩ := bd hb
 refine lp (.int .i64 z101) (pu_addc (a := v48_1) (b := 1) e48 rfl h102) ?_
 refine lp (.int .i64 z101) (pu_move rfl) ?_
 refine ln ?_
 obtain rfl := os hb
 exact hK55 m56' _ _ (Nat.lt_succ_self _) ⟨z101, e1, e2, e3, e46, e47, rfl, (chk_rng h102), hC.sel [0, 1, 2] (by decide), lN hl1⟩
 replace hb := tf hq62 hb
 refine Wc.exit rfl ?_
 obtain rfl := os hb
 obtain rfl := (lX hl1).symm
 exact hK54 _ _ ⟨v48_1, e1, e2, hrv48_1, hC.sel [0, 1, 2] (by decide), hbK1⟩
 clear hb hC hl1
 rintro E104 w103 ⟨v48_1, e1, e2, hrv48_1, hC, hb⟩
 refine hK51 _ _ ?_
 refine Wc.seq fun K105 hK105 => ?_
 refine rg ?_
 refine lv (.agg #[.slice Ad_0_0 d_0_0.length cd_0_0, .slice Ad_0_1 d_0_1.length cd_0_1, .int .i64 d_0_2]) (ld_blk (hC.bx (i := 0) rfl) Try.isAgg32 Try.sizeOf32 e1) ?_
 obtain ⟨y106, h107, hb⟩ := bd hb
 refine lex.cl (⟨_, _, op_call (vs := [.agg #[.slice Ad_0_0 d_0_0.length cd_0_0, .slice Ad_0_1 d_0_1.length cd_0_1, .int .i64 d_0_2]]) Try.call66 rfl rfl rfl, diagram_spherical_ok n hC.lt (hC.rd (i := 1) rfl) (hC.rd (i := 2) rfl) hd_0_2 h107⟩) ?_
 rintro _ w108 ⟨rfl, hK⟩
 replace hC := hC.merge hK
 clear hK
 refine lp (.bool y106) (pu_assign rfl) ?_
 refine ln ?_
 refine hK105 _ _ ?_
 obtain rfl := os hb
 refine Wc.ret ?_
 refine hKR _ _ ?_
 refine ⟨_, res1 Try.results27 (show RV _ _ _ (.tmp _) (.bool y106) from rfl), _, rfl, rfl, hC.sel [] (by decide)⟩
end Go.Proofs.Yteajmbanlohncaa
