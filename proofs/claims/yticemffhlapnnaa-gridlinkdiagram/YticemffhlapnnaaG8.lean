/- The walks: part 8. -/
import Derived.Test.YticemffhlapnnaaS
import Derived.Test.YticemffhlapnnaaG4
import Derived.Test.YticemffhlapnnaaG7
set_option linter.unusedVariables false
set_option linter.unusedSimpArgs false
namespace Go.Proofs.Yticemffhlapnnaa
open Ev
set_option maxRecDepth 100000 in
set_option maxHeartbeats 4000000 in
theorem ref44_Diagram_ok (n : Nat) {w : World} {O0 : List Nat} (hO : ∀ k ∈ O0, k < w.heap.size) {Ag_0_0 : Option Addr} {mg_0_0 cg_0_0 : Nat} {g_0_0 : List Int} (hg_0_0 : Rep O0 w (.sl (.int .i64)) [.slice Ag_0_0 mg_0_0 cg_0_0] g_0_0) {Ag_0_1 : Option Addr} {mg_0_1 cg_0_1 : Nat} {g_0_1 : List Int} (hg_0_1 : Rep O0 w (.sl (.int .i64)) [.slice Ag_0_1 mg_0_1 cg_0_1] g_0_1) {r : (List Int) × (List Int) × Int} (hb : F.ref44_Diagram n g_0_0 g_0_1 = some r) :
    Calls Try.prog 17 #[.agg #[.slice Ag_0_0 mg_0_0 cg_0_0, .slice Ag_0_1 mg_0_1 cg_0_1]] w fun e w' => ∃ v, e = .returned v ∧ ∃ (A0 : Option Addr) (m0 c0 : Nat) (A1 : Option Addr) (m1 c1 : Nat), v = .agg #[.slice A0 m0 c0, .slice A1 m1 c1, .int .i64 r.2.2] ∧ I64 r.2.2 ∧ Cx (fun _ => False) O0 w w' [.own 3 (.int .i64) (.slice A0 m0 c0) r.1, .own 3 (.int .i64) (.slice A1 m1 c1) r.2.1] := by
 unfold F.ref44_Diagram at hb
 have hC := Cx.start hO
 replace hC := hC.arg rfl hg_0_0
 replace hC := hC.arg rfl hg_0_1
 clear hO
 obtain ⟨rfl, hlg_0_0, hcg_0_0⟩ := hg_0_0.sl_len
 obtain ⟨rfl, hlg_0_1, hcg_0_1⟩ := hg_0_1.sl_len
 refine calls_of_Wc Try.func17 rfl (by rw [Try.ntmps17]; exact Nat.le_of_ble_eq_true rfl) fun KR hKR => ?_
 refine Wc.seq fun K3 hK3 => ?_
 refine rg ?_
 refine lex.op (hC.box (cs := [.slice Ag_0_0 g_0_0.length cg_0_0, .slice Ag_0_1 g_0_1.length cg_0_1]) rfl rfl) ?_
 rintro _ w5 ⟨g4, rfl, hC, hF, hG⟩
 clear hG
 refine lex.op (hC.alloc (cs := [.slice none 0 0, .slice none 0 0, .int .i64 0]) Try.zeroValue28 rfl) ?_
 rintro _ w8 ⟨g7, rfl, hC, hF, hG⟩
 clear hG
 refine ln ?_
 refine hK3 _ _ ?_
 refine Wc.seq fun K10 hK10 => ?_
 refine rg ?_
 refine lp (.pointer (some ((⟨g4, 0, none⟩ : Addr).add 0))) (pu_field (sz := 1) Try.underlying24 rfl Try.sizeOf22 (by decide) rfl rfl) ?_
 refine lv (.slice Ag_0_0 g_0_0.length cg_0_0) (ld_fld (hC.bx (i := 1) rfl) Try.isAgg22 rfl rfl) ?_
 refine lp (.int .i64 (g_0_0.length : Int)) (pu_len (A := Ag_0_0) (n := g_0_0.length) (m := cg_0_0) Try.underlying22 rfl) ?_
 refine lp (.int .i64 (g_0_0.length : Int)) (pu_assign rfl) ?_
 refine ln ?_
 refine hK10 _ _ ?_
 refine Wc.seq fun K11 hK11 => ?_
 refine rg ?_
 refine lv (.agg #[.slice Ag_0_0 g_0_0.length cg_0_0, .slice Ag_0_1 g_0_1.length cg_0_1]) (ld_blk (hC.bx (i := 1) rfl) Try.isAgg24 Try.sizeOf24 rfl) ?_
 obtain ⟨y12, h13, hb⟩ := bd hb
 refine lex.cl (⟨_, _, op_call (vs := [.agg #[.slice Ag_0_0 g_0_0.length cg_0_0, .slice Ag_0_1 g_0_1.length cg_0_1]]) Try.call15 rfl rfl rfl, ref42_Crossings_ok n hC.lt (hC.rd (i := 3) rfl) (hC.rd (i := 2) rfl) h13⟩) ?_
 rintro _ w18 ⟨A14, m15, c16, rfl, hK⟩
 replace hC := hC.merge hK
 clear hK
 obtain ⟨rfl, hl19, hc20⟩ := (hC.ow (i := 0) rfl).sl_len
 refine lp (.slice A14 y12.length c16) (pu_assign rfl) ?_
 refine ln ?_
 refine hK11 _ _ ?_
 refine Wc.seq fun K21 hK21 => ?_
 refine rg ?_
 refine lp (.slice A14 y12.length c16) (pu_move rfl) ?_
 refine lp (.int .i64 (y12.length : Int)) (pu_len (A := A14) (n := y12.length) (m := c16) Try.underlying33 rfl) ?_
 obtain ⟨z22, h23, hb⟩ := bd hb
 refine lp (.int .i64 z22) (pu_mulc (a := 4) (b := (y12.length : Int)) rfl rfl h23) ?_
 obtain ⟨u24, h25, hb⟩ := bd hb
 refine lex.op (hC.make (s := (.int .i64)) (n := z22) Try.underlying22 Try.type3 rfl rfl rfl rfl rfl (pos_some h25).1 (pos_some h25).2 (by decide)) ?_
 rintro _ w30 ⟨A26, c27, rfl, hl28, hc29, hC, hF, hN⟩
 clear hF hN
 refine lp (.agg #[.slice none 0 0, .slice A26 (((List.replicate z22.toNat (0 : Int))).length) c27, .int .i64 0]) (pu_builds (places := [(0, 1), (1, 1), (2, 1)]) (pv := [(1, .slice A26 (((List.replicate z22.toNat (0 : Int))).length) c27)]) Try.type28 Try.underlying28 rfl (mp_cons Try.type22 (mp_cons Try.type22 (mp_cons Try.type3 mp_nil rfl rfl) rfl rfl) rfl rfl) rfl (by simp [Instr.fill, Value.cells])) ?_
 refine lex.op (hC.alloc (cs := [.slice none 0 0, .slice none 0 0, .int .i64 0]) Try.zeroValue28 rfl) ?_
 rintro _ w33 ⟨g32, rfl, hC, hF, hG⟩
 clear hG
 refine lex.sk (hC.seta (i := 0) (ds := [.slice none 0 0, .slice A26 (((List.replicate z22.toNat (0 : Int))).length) c27, .int .i64 0]) rfl Try.type28 rfl rfl rfl rfl rfl) ?_
 rintro w35 ⟨hC, hF⟩
 refine ln ?_
 refine hK21 _ _ ?_
 refine Wc.fresh fun E36 hE => ?_
 have e1 : E36 1 = .pointer (some ⟨g4, 0, none⟩) := (congrFun hE 1).trans rfl
 have e2 : E36 2 = .pointer (some ⟨g7, 0, none⟩) := (congrFun hE 2).trans rfl
 have e3 : E36 3 = .int .i64 (g_0_0.length : Int) := (congrFun hE 3).trans rfl
 have e4 : E36 4 = .slice A14 y12.length c16 := (congrFun hE 4).trans rfl
 have e5 : E36 5 = .pointer (some ⟨g32, 0, none⟩) := (congrFun hE 5).trans rfl
 clear hE
 refine Wc.seq fun K37 hK37 => ?_
 refine Wc.seq fun K38 hK38 => ?_
 refine rg ?_
 refine lp (.int .i64 0) (pu_assign rfl) ?_
 refine ln ?_
 refine hK38 _ _ ?_
 replace hC := hC.nil 3 (.int .i64)
 obtain ⟨o40, hl0, hb⟩ := bd hb
 refine Wc.cut (fun E wv => ∃ (v6_0 : Int) (kf34_0_0 : List Int) (Akf34_0_0 : Option Addr) (mkf34_0_0 ckf34_0_0 : Nat), E 1 = .pointer (some ⟨g4, 0, none⟩) ∧ E 2 = .pointer (some ⟨g7, 0, none⟩) ∧ E 3 = .int .i64 (g_0_0.length : Int) ∧ E 4 = .slice A14 y12.length c16 ∧ E 5 = .pointer (some ⟨g32, 0, none⟩) ∧ I64 v6_0 ∧ Cx (fun _ => False) O0 w wv [.box g4 24 [.slice Ag_0_0 g_0_0.length cg_0_0, .slice Ag_0_1 g_0_1.length cg_0_1], .ro (.sl (.int .i64)) [.slice Ag_0_0 g_0_0.length cg_0_0] g_0_0, .ro (.sl (.int .i64)) [.slice Ag_0_1 g_0_1.length cg_0_1] g_0_1, .box g7 28 [.slice none 0 0, .slice none 0 0, .int .i64 0], .own 67 (.pr (.int .i64) (.int .i64)) (.slice A14 y12.length c16) y12, .box g32 28 [.slice Akf34_0_0 mkf34_0_0 ckf34_0_0, .slice A26 (((List.replicate z22.toNat (0 : Int))).length) c27, .int .i64 0], .own 3 (.int .i64) (.slice Akf34_0_0 mkf34_0_0 ckf34_0_0) kf34_0_0, .own 3 (.int .i64) (.slice A26 (((List.replicate z22.toNat (0 : Int))).length) c27) (List.replicate z22.toNat (0 : Int))] ∧ ((pos (g_0_0.length : Int)).bind fun u162 => ((loopN n (F.ref44_Diagram_b1 n g_0_0 g_0_1 y12 kf34_0_0) (0, (List.replicate z22.toNat (0 : Int)), 0, (List.replicate (g_0_0.length : Int).toNat false))).bind fun o172 => match o172 with     | (v10_1, qf31_1, bf34_2_1, qf169_1) => some (kf34_0_0, qf31_1, bf34_2_1)) : Option ((List Int) × (List Int) × Int)) = some r) (fun K41 hK41 => ?_) ?_
 refine Wc.block ?_
 refine Wc.loop (fun m E wv => ∃ (v6_0 : Int) (kf34_0_0 : List Int) (Akf34_0_0 : Option Addr) (mkf34_0_0 ckf34_0_0 : Nat), E 1 = .pointer (some ⟨g4, 0, none⟩) ∧ E 2 = .pointer (some ⟨g7, 0, none⟩) ∧ E 3 = .int .i64 (g_0_0.length : Int) ∧ E 4 = .slice A14 y12.length c16 ∧ E 5 = .pointer (some ⟨g32, 0, none⟩) ∧ E 6 = .int .i64 v6_0 ∧ I64 v6_0 ∧ Cx (fun _ => False) O0 w wv [.box g4 24 [.slice Ag_0_0 g_0_0.length cg_0_0, .slice Ag_0_1 g_0_1.length cg_0_1], .ro (.sl (.int .i64)) [.slice Ag_0_0 g_0_0.length cg_0_0] g_0_0, .ro (.sl (.int .i64)) [.slice Ag_0_1 g_0_1.length cg_0_1] g_0_1, .box g7 28 [.slice none 0 0, .slice none 0 0, .int .i64 0], .own 67 (.pr (.int .i64) (.int .i64)) (.slice A14 y12.length c16) y12, .box g32 28 [.slice Akf34_0_0 mkf34_0_0 ckf34_0_0, .slice A26 (((List.replicate z22.toNat (0 : Int))).length) c27, .int .i64 0], .own 3 (.int .i64) (.slice Akf34_0_0 mkf34_0_0 ckf34_0_0) kf34_0_0, .own 3 (.int .i64) (.slice A26 (((List.replicate z22.toNat (0 : Int))).length) c27) (List.replicate z22.toNat (0 : Int))] ∧ loopN m (F.ref44_Diagram_b0 n g_0_0 g_0_1 y12) (v6_0, kf34_0_0) = some o40) n ⟨0, ([] : List Int), none, 0, 0, e1, e2, e3, e4, e5, rfl, (show I64 0 from by unfold I64; omega), hC.sel [5, 7, 6, 4, 3, 1, 0, 2] (by decide), hl0⟩ ?_
 have hbK0 := hb
 clear hb hC hl0
 rintro m43 E45 w44 ⟨v6_0, kf34_0_0, Akf34_0_0, mkf34_0_0, ckf34_0_0, e1, e2, e3, e4, e5, e6, hrv6_0, hC, hl0⟩ K42 hK42
 obtain ⟨m43', o46, rfl, hb, hl0⟩ := loopN_some hl0
 unfold F.ref44_Diagram_b0 at hb
 obtain ⟨rfl, hlkf34_0_0, hckf34_0_0⟩ := (hC.ow (i := 6) rfl).sl_len
 refine Wc.seq fun K47 hK47 => ?_
 refine Wc.seq fun K48 hK48 => ?_
 refine rg ?_
 refine lp (.int .i64 v6_0) (pu_move e6) ?_
 refine lp (.slice A14 y12.length c16) (pu_move e4) ?_
 refine lp (.int .i64 (y12.length : Int)) (pu_len (A := A14) (n := y12.length) (m := c16) Try.underlying33 rfl) ?_
 refine lp (.bool (decide (v6_0 < (y12.length : Int)))) (pu_lss (k := .i64) (a := v6_0) (b := (y12.length : Int)) rfl rfl) ?_
 refine ln ?_
 refine hK48 _ _ ?_
 refine Wc.cond (t := (decide (v6_0 < (y12.length : Int)))) (rfl) (fun hq49 => ?_) (fun hq49 => ?_)
 replace hb := tt hq49 hb
 refine Wc.skip ?_
 refine hK47 _ _ ?_
 refine Wc.seq fun K50 hK50 => ?_
 refine Wc.block ?_
 refine Wc.seq fun K51 hK51 => ?_
 refine Wc.regionMix [] (frm [] ([] : List Fact) ([] : List Fact)) (fun _ => rfl) mixed (by decide +kernel) (by decide +kernel) fun w53 hw52 => ?_
 replace hC := hC.step (Fr.of_drew hw52)
 have hM := Fr.refl (fun k => k ∈ blocks ([] : List Fact)) w53
 clear hw52
 have hS := hC
 refine mp (.pointer (some ((⟨g4, 0, none⟩ : Addr).add 0))) (pu_field (sz := 1) Try.underlying24 rfl Try.sizeOf22 (by decide) rfl e1) ?_
 refine mixE.load hM (v := .slice Ag_0_0 g_0_0.length cg_0_0) (fun _ hF => ld_fld (hS.bx2 (i := 0) rfl [] (by decide) hF) Try.isAgg22 rfl rfl) ?_
 refine mp (.slice A14 y12.length c16) (pu_move e4) ?_
 refine mp (.int .i64 v6_0) (pu_move e6) ?_
 obtain ⟨x54, h55, hb⟩ := bd hb
 obtain ⟨ad56, cs57, hA, ho60, hc58, hr59⟩ := hS.elo2 (i := 4) rfl (get_some h55).2 [] (by decide)
 subst hA
 refine mp (.pointer (some (ad56.add (v6_0.toNat * 2)))) (pu_index (a := v6_0) Try.underlying33 Try.sizeOf67 rfl rfl (get_some h55).1) ?_
 obtain ⟨k61, k62, rfl, hr63, hr64⟩ := hr59
 obtain ⟨rfl, hr63⟩ := hr63
 obtain ⟨rfl, hr64⟩ := hr64
 refine mp (.pointer (some ((ad56.add (v6_0.toNat * 2)).add 0))) (pu_ixa (A := (ad56.add (v6_0.toNat * 2))) (a := 0) (sz := 1) Try.underlying67 Try.sizeOf3 rfl rfl (by decide)) ?_
 refine mixE.load hM (v := .int .i64 x54.1) (fun _ hF => ld_one Try.isAgg3 rfl (hF.cell (hc58 0 _ rfl) (off2 ho60))) ?_
 obtain ⟨x65, h66, hb⟩ := bd hb
 obtain ⟨ad67, cs68, hA, ho71, hc69, hr70⟩ := hS.elr2 (i := 1) rfl (get_some h66).2 []
 subst hA
 refine mp (.pointer (some (ad67.add (x54.1.toNat * 1)))) (pu_index (a := x54.1) Try.underlying22 Try.sizeOf3 rfl rfl (get_some h66).1) ?_
 obtain ⟨rfl, hr70'⟩ := hr70
 refine mixE.load hM (v := .int .i64 x65) (fun _ hF => ld_one Try.isAgg3 rfl (hF.cell (hc69 0 _ rfl) (off1 ho71))) ?_
 refine mp (.pointer (some ((⟨g4, 0, none⟩ : Addr).add 1))) (pu_field (sz := 1) Try.underlying24 rfl Try.sizeOf22 (by decide) rfl e1) ?_
 refine mixE.load hM (v := .slice Ag_0_1 g_0_1.length cg_0_1) (fun _ hF => ld_fld (hS.bx2 (i := 0) rfl [] (by decide) hF) Try.isAgg22 rfl rfl) ?_
 refine mp (.slice (some ad56) y12.length c16) (pu_move e4) ?_
 refine mp (.int .i64 v6_0) (pu_move e6) ?_
 obtain ⟨x72, h73, hb⟩ := bd hb
 obtain ⟨ad74, cs75, hA, ho78, hc76, hr77⟩ := hS.elo2 (i := 4) rfl (get_some h73).2 [] (by decide)
 obtain rfl := Option.some.inj hA
 refine mp (.pointer (some (ad56.add (v6_0.toNat * 2)))) (pu_index (a := v6_0) Try.underlying33 Try.sizeOf67 rfl rfl (get_some h73).1) ?_
 obtain ⟨k79, k80, rfl, hr81, hr82⟩ := hr77
 obtain ⟨rfl, hr81⟩ := hr81
 obtain ⟨rfl, hr82⟩ := hr82
 refine mp (.pointer (some ((ad56.add (v6_0.toNat * 2)).add 0))) (pu_ixa (A := (ad56.add (v6_0.toNat * 2))) (a := 0) (sz := 1) Try.underlying67 Try.sizeOf3 rfl rfl (by decide)) ?_
 refine mixE.load hM (v := .int .i64 x72.1) (fun _ hF => ld_one Try.isAgg3 rfl (hF.cell (hc76 0 _ rfl) (off2 ho78))) ?_
 obtain ⟨x83, h84, hb⟩ := bd hb
 obtain ⟨ad85, cs86, hA, ho89, hc87, hr88⟩ := hS.elr2 (i := 2) rfl (get_some h84).2 []
 subst hA
 refine mp (.pointer (some (ad85.add (x72.1.toNat * 1)))) (pu_index (a := x72.1) Try.underlying22 Try.sizeOf3 rfl rfl (get_some h84).1) ?_
 obtain ⟨rfl, hr88'⟩ := hr88
 refine mixE.load hM (v := .int .i64 x83) (fun _ hF => ld_one Try.isAgg3 rfl (hF.cell (hc87 0 _ rfl) (off1 ho89))) ?_
 refine mp (.bool (decide (x83 < x65))) (pu_gtr (k := .i64) (a := x65) (b := x83) rfl rfl) ?_
 refine mp (.bool (decide (x83 < x65))) (pu_assign rfl) ?_
 refine mixE.nil ?_
 clear hS hM
 refine hK51 _ _ ?_
 refine Wc.fresh fun E90 hE => ?_
 have e1 := (congrFun hE 1).trans e1
 have e2 := (congrFun hE 2).trans e2
 have e3 := (congrFun hE 3).trans e3
 have e4 := (congrFun hE 4).trans e4
 have e5 := (congrFun hE 5).trans e5
 have e6 := (congrFun hE 6).trans e6
 have e7 : E90 7 = .bool (decide (x83 < x65)) := (congrFun hE 7).trans rfl
 have e36 : E90 36 = .bool (decide (v6_0 < (y12.length : Int))) := (congrFun hE 36).trans rfl
 clear hE
 refine Wc.seq fun K91 hK91 => ?_
 refine Wc.regionMix [] (frm [] ([] : List Fact) ([] : List Fact)) (fun _ => rfl) mixed (by decide +kernel) (by decide +kernel) fun w93 hw92 => ?_
 replace hC := hC.step (Fr.of_drew hw92)
 have hM := Fr.refl (fun k => k ∈ blocks ([] : List Fact)) w93
 clear hw92
 have hS := hC
 refine mp (.pointer (some ((⟨g4, 0, none⟩ : Addr).add 1))) (pu_field (sz := 1) Try.underlying24 rfl Try.sizeOf22 (by decide) rfl e1) ?_
 refine mixE.load hM (v := .slice (some ad85) g_0_1.length cg_0_1) (fun _ hF => ld_fld (hS.bx2 (i := 0) rfl [] (by decide) hF) Try.isAgg22 rfl rfl) ?_
 refine mp (.slice (some ad56) y12.length c16) (pu_move e4) ?_
 refine mp (.int .i64 v6_0) (pu_move e6) ?_
 obtain ⟨x94, h95, hb⟩ := bd hb
 obtain ⟨ad96, cs97, hA, ho100, hc98, hr99⟩ := hS.elo2 (i := 4) rfl (get_some h95).2 [] (by decide)
 obtain rfl := Option.some.inj hA
 refine mp (.pointer (some (ad56.add (v6_0.toNat * 2)))) (pu_index (a := v6_0) Try.underlying33 Try.sizeOf67 rfl rfl (get_some h95).1) ?_
 obtain ⟨k101, k102, rfl, hr103, hr104⟩ := hr99
 obtain ⟨rfl, hr103⟩ := hr103
 obtain ⟨rfl, hr104⟩ := hr104
 refine mp (.pointer (some ((ad56.add (v6_0.toNat * 2)).add 1))) (pu_ixa (A := (ad56.add (v6_0.toNat * 2))) (a := 1) (sz := 1) Try.underlying67 Try.sizeOf3 rfl rfl (by decide)) ?_
 refine mixE.load hM (v := .int .i64 x94.2) (fun _ hF => ld_one Try.isAgg3 rfl (hF.cell (hc98 1 _ rfl) (off2 ho100))) ?_
 obtain ⟨y105, h106, hb⟩ := bd hb
 refine mixE.cl hM (⟨_, _, op_call (vs := [.slice (some ad85) g_0_1.length cg_0_1, .int .i64 x94.2]) Try.call44 rfl rfl rfl, ref42_Column_ok n hC.lt (hC.rd (i := 2) rfl) (wrap_I64 hr104) h106⟩) ?_
 rintro _ w108 ⟨rfl, hr107, hK⟩
 replace hM := hM.none hK.fr
 refine ⟨hM, ?_⟩
 replace hC := hC.merge hK
 clear hK
 refine mp (.pointer (some ((⟨g4, 0, none⟩ : Addr).add 0))) (pu_field (sz := 1) Try.underlying24 rfl Try.sizeOf22 (by decide) rfl e1) ?_
 refine mixE.load hM (v := .slice (some ad67) g_0_0.length cg_0_0) (fun _ hF => ld_fld (hS.bx2 (i := 0) rfl [] (by decide) hF) Try.isAgg22 rfl rfl) ?_
 refine mp (.slice (some ad56) y12.length c16) (pu_move e4) ?_
 refine mp (.int .i64 v6_0) (pu_move e6) ?_
 obtain ⟨x109, h110, hb⟩ := bd hb
 obtain ⟨ad111, cs112, hA, ho115, hc113, hr114⟩ := hS.elo2 (i := 4) rfl (get_some h110).2 [] (by decide)
 obtain rfl := Option.some.inj hA
 refine mp (.pointer (some (ad56.add (v6_0.toNat * 2)))) (pu_index (a := v6_0) Try.underlying33 Try.sizeOf67 rfl rfl (get_some h110).1) ?_
 obtain ⟨k116, k117, rfl, hr118, hr119⟩ := hr114
 obtain ⟨rfl, hr118⟩ := hr118
 obtain ⟨rfl, hr119⟩ := hr119
 refine mp (.pointer (some ((ad56.add (v6_0.toNat * 2)).add 1))) (pu_ixa (A := (ad56.add (v6_0.toNat * 2))) (a := 1) (sz := 1) Try.underlying67 Try.sizeOf3 rfl rfl (by decide)) ?_
 refine mixE.load hM (v := .int .i64 x109.2) (fun _ hF => ld_one Try.isAgg3 rfl (hF.cell (hc113 1 _ rfl) (off2 ho115))) ?_
 obtain ⟨y120, h121, hb⟩ := bd hb
 refine mixE.cl hM (⟨_, _, op_call (vs := [.slice (some ad67) g_0_0.length cg_0_0, .int .i64 x109.2]) Try.call44 rfl rfl rfl, ref42_Column_ok n hC.lt (hC.rd (i := 1) rfl) (wrap_I64 hr119) h121⟩) ?_
 rintro _ w123 ⟨rfl, hr122, hK⟩
 replace hM := hM.none hK.fr
 refine ⟨hM, ?_⟩
 replace hC := hC.merge hK
 clear hK
 refine mp (.bool (decide (y105 < y120))) (pu_lss (k := .i64) (a := y105) (b := y120) rfl rfl) ?_
 refine mp (.bool (decide (y105 < y120))) (pu_assign rfl) ?_
 refine mixE.nil ?_
 clear hS hM
 refine hK91 _ _ ?_
 refine Wc.fresh fun E124 hE => ?_
 have e1 := (congrFun hE 1).trans e1
 have e2 := (congrFun hE 2).trans e2
 have e3 := (congrFun hE 3).trans e3
 have e4 := (congrFun hE 4).trans e4
 have e5 := (congrFun hE 5).trans e5
 have e6 := (congrFun hE 6).trans e6
 have e7 := (congrFun hE 7).trans e7
 have e8 : E124 8 = .bool (decide (y105 < y120)) := (congrFun hE 8).trans rfl
 have e36 := (congrFun hE 36).trans e36
 clear hE
 refine Wc.seq fun K125 hK125 => ?_
 refine rg ?_
 refine lp (.bool (decide (x83 < x65))) (pu_move e7) ?_
 refine lp (.bool (decide (y105 < y120))) (pu_move e8) ?_
 refine lp (.bool ((decide (x83 < x65)) == (decide (y105 < y120)))) (pu_eqlb (p := (decide (x83 < x65))) (q := (decide (y105 < y120))) Try.underlying4 rfl rfl) ?_
 refine ln ?_
 refine hK125 _ _ ?_
 refine Wc.cond (t := ((decide (x83 < x65)) == (decide (y105 < y120)))) (rfl) (fun hq126 => ?_) (fun hq126 => ?_)
 replace hb := tt hq126 hb
 refine rg ?_
 refine lp (.pointer (some ((⟨g32, 0, none⟩ : Addr).add 0))) (pu_field (sz := 1) Try.underlying28 rfl Try.sizeOf22 (by decide) rfl e5) ?_
 refine lv (.slice Akf34_0_0 kf34_0_0.length ckf34_0_0) (ld_fld (hC.bx (i := 5) rfl) Try.isAgg22 rfl rfl) ?_
 refine lex.op (hC.lit (s := (.int .i64)) (vs := [.int .i64 1]) (xs := [1]) Try.underlying22 Try.type3 rfl rfl (Nat.le_of_ble_eq_true rfl) rfl rfl (by simp [Value.cells, Sh.n]) rfl (show Elems _ _ (.int .i64) ([.int .i64 1] ++ ([])) ([1] : List Int) from Elems.cons (⟨rfl, I64.wr (show I64 1 from by unfold I64; omega)⟩) (Elems.nil _ _ _))) ?_
 rintro _ w131 ⟨A127, c128, rfl, hl129, hc130, hC, hF, hN⟩
 clear hF hN
 obtain ⟨u133, h134, hb⟩ := bd hb
 refine lex.op (hC.app (i := 7) (s := (.int .i64)) (xs := kf34_0_0) (ys := ([1] : List Int)) (m := ((([1] : List Int)).length)) rfl Try.underlying22 Try.underlying22 Try.type3 rfl rfl rfl (hC.srco (i := 0) rfl) rfl rfl (by have := lim_some h134; simp at this ⊢ <;> omega) (by decide)) ?_
 rintro _ w139 ⟨A135, c136, rfl, hl137, hc138, hC, hF, hN⟩
 clear hF hN
 refine lp (.pointer (some ((⟨g32, 0, none⟩ : Addr).add 0))) (pu_field (sz := 1) Try.underlying28 rfl Try.sizeOf22 (by decide) rfl e5) ?_
 refine lex.sk (hC.setf (i := 6) (k := 0) (v := .slice A135 ((kf34_0_0 ++ ([1] : List Int)).length) c136) rfl Try.sizeOf22 rfl rfl rfl rfl) ?_
 rintro w140 ⟨hC, hF⟩
 refine ln ?_
 refine hK50 _ _ ?_
 refine rg ?_
 refine lp (.int .i64 v6_0) (pu_move e6) ?_
 obtain ⟨z141, h142, hb⟩ := bd hb
 refine lp (.int .i64 z141) (pu_addc (a := v6_0) (b := 1) rfl rfl h142) ?_
 refine lp (.int .i64 z141) (pu_assign rfl) ?_
 refine ln ?_
 obtain rfl := os hb
 exact hK42 m43' _ _ (Nat.lt_succ_self _) ⟨z141, (kf34_0_0 ++ ([1] : List Int)), A135, (kf34_0_0 ++ ([1] : List Int)).length, c136, e1, e2, e3, e4, e5, rfl, (chk_rng h142), hC.sel [1, 2, 3, 4, 5, 6, 7, 8] (by decide), lN hl0⟩
 replace hb := tf hq126 hb
 refine rg ?_
 refine lp (.pointer (some ((⟨g32, 0, none⟩ : Addr).add 0))) (pu_field (sz := 1) Try.underlying28 rfl Try.sizeOf22 (by decide) rfl e5) ?_
 refine lv (.slice Akf34_0_0 kf34_0_0.length ckf34_0_0) (ld_fld (hC.bx (i := 5) rfl) Try.isAgg22 rfl rfl) ?_
 refine lex.op (hC.lit (s := (.int .i64)) (vs := [.int .i64 (-1)]) (xs := [(-1)]) Try.underlying22 Try.type3 rfl rfl (Nat.le_of_ble_eq_true rfl) rfl rfl (by simp [Value.cells, Sh.n]) rfl (show Elems _ _ (.int .i64) ([.int .i64 (-1)] ++ ([])) ([(-1)] : List Int) from Elems.cons (⟨rfl, I64.wr (show I64 (-1) from by unfold I64; omega)⟩) (Elems.nil _ _ _))) ?_
 rintro _ w147 ⟨A143, c144, rfl, hl145, hc146, hC, hF, hN⟩
 clear hF hN
 obtain ⟨u149, h150, hb⟩ := bd hb
 refine lex.op (hC.app (i := 7) (s := (.int .i64)) (xs := kf34_0_0) (ys := ([(-1)] : List Int)) (m := ((([(-1)] : List Int)).length)) rfl Try.underlying22 Try.underlying22 Try.type3 rfl rfl rfl (hC.srco (i := 0) rfl) rfl rfl (by have := lim_some h150; simp at this ⊢ <;> omega) (by decide)) ?_
 rintro _ w155 ⟨A151, c152, rfl, hl153, hc154, hC, hF, hN⟩
 clear hF hN
 refine lp (.pointer (some ((⟨g32, 0, none⟩ : Addr).add 0))) (pu_field (sz := 1) Try.underlying28 rfl Try.sizeOf22 (by decide) rfl e5) ?_
 refine lex.sk (hC.setf (i := 6) (k := 0) (v := .slice A151 ((kf34_0_0 ++ ([(-1)] : List Int)).length) c152) rfl Try.sizeOf22 rfl rfl rfl rfl) ?_
 rintro w156 ⟨hC, hF⟩
 refine ln ?_
 refine hK50 _ _ ?_
 refine rg ?_
 refine lp (.int .i64 v6_0) (pu_move e6) ?_
 obtain ⟨z157, h158, hb⟩ := bd hb
 refine lp (.int .i64 z157) (pu_addc (a := v6_0) (b := 1) rfl rfl h158) ?_
 refine lp (.int .i64 z157) (pu_assign rfl) ?_
 refine ln ?_
 obtain rfl := os hb
 exact hK42 m43' _ _ (Nat.lt_succ_self _) ⟨z157, (kf34_0_0 ++ ([(-1)] : List Int)), A151, (kf34_0_0 ++ ([(-1)] : List Int)).length, c152, e1, e2, e3, e4, e5, rfl, (chk_rng h158), hC.sel [1, 2, 3, 4, 5, 6, 7, 8] (by decide), lN hl0⟩
 replace hb := tf hq49 hb
 refine Wc.exit rfl ?_
 obtain rfl := os hb
 obtain rfl := (lX hl0).symm
 exact hK41 _ _ ⟨v6_0, kf34_0_0, Akf34_0_0, kf34_0_0.length, ckf34_0_0, e1, e2, e3, e4, e5, hrv6_0, hC.sel [0, 1, 2, 3, 4, 5, 6, 7] (by decide), hbK0⟩
 clear hb hC hl0
 rintro E160 w159 ⟨v6_0, kf34_0_0, Akf34_0_0, mkf34_0_0, ckf34_0_0, e1, e2, e3, e4, e5, hrv6_0, hC, hb⟩
 obtain ⟨rfl, hlkf34_0_0, hckf34_0_0⟩ := (hC.ow (i := 6) rfl).sl_len
 refine hK37 _ _ ?_
 refine Wc.seq fun K161 hK161 => ?_
 refine rg ?_
 refine lp (.int .i64 (g_0_0.length : Int)) (pu_move e3) ?_
 obtain ⟨u162, h163, hb⟩ := bd hb
 refine lex.op (hC.make (s := .bool) (n := (g_0_0.length : Int)) Try.underlying55 Try.type4 rfl rfl rfl rfl rfl (pos_some h163).1 (pos_some h163).2 (by decide)) ?_
 rintro _ w168 ⟨A164, c165, rfl, hl166, hc167, hC, hF, hN⟩
 clear hF hN
 refine lp (.slice A164 (((List.replicate (g_0_0.length : Int).toNat false)).length) c165) (pu_assign rfl) ?_
 refine ln ?_
 refine hK161 _ _ ?_
 refine Wc.seq fun K170 hK170 => ?_
 refine Wc.seq fun K171 hK171 => ?_
 refine rg ?_
 refine lp (.int .i64 0) (pu_assign rfl) ?_
 refine ln ?_
 refine hK171 _ _ ?_
 obtain ⟨o172, hl1, hb⟩ := bd hb
 refine Wc.cut (fun E wv => ∃ (v10_1 : Int) (qf31_1 : List Int) (bf34_2_1 : Int) (qf169_1 : List Bool), E 2 = .pointer (some ⟨g7, 0, none⟩) ∧ E 5 = .pointer (some ⟨g32, 0, none⟩) ∧ I64 v10_1 ∧ I64 bf34_2_1 ∧ Cx (fun _ => False) O0 w wv [.box g7 28 [.slice none 0 0, .slice none 0 0, .int .i64 0], .box g32 28 [.slice Akf34_0_0 kf34_0_0.length ckf34_0_0, .slice A26 (((List.replicate z22.toNat (0 : Int))).length) c27, .int .i64 bf34_2_1], .own 3 (.int .i64) (.slice Akf34_0_0 kf34_0_0.length ckf34_0_0) kf34_0_0, .own 3 (.int .i64) (.slice A26 (((List.replicate z22.toNat (0 : Int))).length) c27) qf31_1] ∧ (some (kf34_0_0, qf31_1, bf34_2_1) : Option ((List Int) × (List Int) × Int)) = some r) (fun K173 hK173 => ?_) ?_
 refine Wc.block ?_
 refine Wc.loop (fun m E wv => ∃ (v10_1 : Int) (qf31_1 : List Int) (bf34_2_1 : Int) (qf169_1 : List Bool), E 1 = .pointer (some ⟨g4, 0, none⟩) ∧ E 2 = .pointer (some ⟨g7, 0, none⟩) ∧ E 3 = .int .i64 (g_0_0.length : Int) ∧ E 4 = .slice A14 y12.length c16 ∧ E 5 = .pointer (some ⟨g32, 0, none⟩) ∧ E 9 = .slice A164 (((List.replicate (g_0_0.length : Int).toNat false)).length) c165 ∧ E 10 = .int .i64 v10_1 ∧ I64 v10_1 ∧ I64 bf34_2_1 ∧ Cx (fun _ => False) O0 w wv [.box g4 24 [.slice Ag_0_0 g_0_0.length cg_0_0, .slice Ag_0_1 g_0_1.length cg_0_1], .ro (.sl (.int .i64)) [.slice Ag_0_0 g_0_0.length cg_0_0] g_0_0, .ro (.sl (.int .i64)) [.slice Ag_0_1 g_0_1.length cg_0_1] g_0_1, .box g7 28 [.slice none 0 0, .slice none 0 0, .int .i64 0], .own 67 (.pr (.int .i64) (.int .i64)) (.slice A14 y12.length c16) y12, .box g32 28 [.slice Akf34_0_0 kf34_0_0.length ckf34_0_0, .slice A26 (((List.replicate z22.toNat (0 : Int))).length) c27, .int .i64 bf34_2_1], .own 3 (.int .i64) (.slice Akf34_0_0 kf34_0_0.length ckf34_0_0) kf34_0_0, .own 3 (.int .i64) (.slice A26 (((List.replicate z22.toNat (0 : Int))).length) c27) qf31_1, .own 4 .bool (.slice A164 (((List.replicate (g_0_0.length : Int).toNat false)).length) c165) qf169_1] ∧ loopN m (F.ref44_Diagram_b1 n g_0_0 g_0_1 y12 kf34_0_0) (v10_1, qf31_1, bf34_2_1, qf169_1) = some o172) n ⟨0, (List.replicate z22.toNat (0 : Int)), 0, (List.replicate (g_0_0.length : Int).toNat false), e1, e2, e3, e4, e5, rfl, rfl, (show I64 0 from by unfold I64; omega), (show I64 0 from by unfold I64; omega), hC.sel [1, 2, 3, 4, 5, 6, 7, 8, 0] (by decide), hl1⟩ ?_
 have hbK1 := hb
 clear hb hC hl1
 rintro m175 E177 w176 ⟨v10_1, qf31_1, bf34_2_1, qf169_1, e1, e2, e3, e4, e5, e9, e10, hrv10_1, hrbf34_2_1, hC, hl1⟩ K174 hK174
 obtain ⟨m175', o178, rfl, hb, hl1⟩ := loopN_some hl1
 unfold F.ref44_Diagram_b1 at hb
 refine Wc.seq fun K179 hK179 => ?_
 refine Wc.seq fun K180 hK180 => ?_
 refine rg ?_
 refine lp (.int .i64 v10_1) (pu_move e10) ?_
 refine lp (.int .i64 (g_0_0.length : Int)) (pu_move e3) ?_
 refine lp (.bool (decide (v10_1 < (g_0_0.length : Int)))) (pu_lss (k := .i64) (a := v10_1) (b := (g_0_0.length : Int)) rfl rfl) ?_
 refine ln ?_
 refine hK180 _ _ ?_
 refine Wc.cond (t := (decide (v10_1 < (g_0_0.length : Int)))) (rfl) (fun hq181 => ?_) (fun hq181 => ?_)
 replace hb := tt hq181 hb
 refine Wc.skip ?_
 refine hK179 _ _ ?_
 refine Wc.seq fun K182 hK182 => ?_
 refine Wc.block ?_
 refine Wc.seq fun K183 hK183 => ?_
 refine Wc.seq fun K184 hK184 => ?_
 refine rg ?_
 refine lp (.slice A164 (((List.replicate (g_0_0.length : Int).toNat false)).length) c165) (pu_move e9) ?_
 refine lp (.int .i64 v10_1) (pu_move e10) ?_
 obtain ⟨x185, h186, hb⟩ := bd hb
 obtain ⟨ad187, cs188, hA, hc189, hr190⟩ := hC.elo (i := 8) rfl (get_some h186).2
 subst hA
 refine lp (.pointer (some (ad187.add (v10_1.toNat * 1)))) (pu_index (a := v10_1) Try.underlying55 Try.sizeOf4 rfl rfl (by rw [(hC.ow (i := 8) rfl).sl_len.1]; exact (get_some h186).1)) ?_
 obtain rfl := (show _ = _ from hr190)
 refine lv (.bool x185) (ld_one Try.isAgg4 rfl (hc189 0 _ rfl)) ?_
 refine ln ?_
 refine hK184 _ _ ?_
 refine Wc.cond (t := x185) (rfl) (fun hq191 => ?_) (fun hq191 => ?_)
 replace hb := tt hq191 hb
 refine Wc.exit rfl ?_
 refine hK182 _ _ ?_
 refine rg ?_
 refine lp (.int .i64 v10_1) (pu_move e10) ?_
 obtain ⟨z192, h193, hb⟩ := bd hb
 refine lp (.int .i64 z192) (pu_addc (a := v10_1) (b := 1) rfl rfl h193) ?_
 refine lp (.int .i64 z192) (pu_assign rfl) ?_
 refine ln ?_
 obtain rfl := os hb
 exact hK174 m175' _ _ (Nat.lt_succ_self _) ⟨z192, qf31_1, bf34_2_1, qf169_1, e1, e2, e3, e4, e5, e9, rfl, (chk_rng h193), hrbf34_2_1, hC.sel [0, 1, 2, 3, 4, 5, 6, 7, 8] (by decide), lN hl1⟩
 replace hb := tf hq191 hb
 refine Wc.skip ?_
 refine hK183 _ _ ?_
 refine Wc.seq fun K194 hK194 => ?_
 refine rg ?_
 refine lp (.slice none 0 0) (pu_assign rfl) ?_
 refine lp (.slice none 0 0) (pu_assign rfl) ?_
 refine ln ?_
 refine hK194 _ _ ?_
 refine Wc.seq fun K195 hK195 => ?_
 refine Wc.seq fun K196 hK196 => ?_
 refine rg ?_
 refine lp (.int .i64 v10_1) (pu_move e10) ?_
 refine lp (.int .i64 v10_1) (pu_assign rfl) ?_
 refine ln ?_
 refine hK196 _ _ ?_
 refine Wc.fresh fun E197 hE => ?_
 have e1 := (congrFun hE 1).trans e1
 have e2 := (congrFun hE 2).trans e2
 have e3 := (congrFun hE 3).trans e3
 have e4 := (congrFun hE 4).trans e4
 have e5 := (congrFun hE 5).trans e5
 have e9 := (congrFun hE 9).trans e9
 have e10 := (congrFun hE 10).trans e10
 have e11 : E197 11 = .slice none 0 0 := (congrFun hE 11).trans rfl
 have e12 : E197 12 = .slice none 0 0 := (congrFun hE 12).trans rfl
 have e13 : E197 13 = .int .i64 v10_1 := (congrFun hE 13).trans rfl
 have e92 : E197 92 = .bool (decide (v10_1 < (g_0_0.length : Int))) := (congrFun hE 92).trans rfl
 have e98 : E197 98 = .bool x185 := (congrFun hE 98).trans rfl
 clear hE
 replace hC := hC.nil 3 (.int .i64)
 replace hC := hC.nil 3 (.int .i64)
 obtain ⟨o200, hl2, hb⟩ := bd hb
 refine Wc.cut (fun E wv => ∃ (l11_2 : List Int) (l12_2 : List Int) (v13_2 : Int) (qf169_2 : List Bool) (Al11_2 : Option Addr) (ml11_2 cl11_2 : Nat) (Al12_2 : Option Addr) (ml12_2 cl12_2 : Nat), E 1 = .pointer (some ⟨g4, 0, none⟩) ∧ E 2 = .pointer (some ⟨g7, 0, none⟩) ∧ E 3 = .int .i64 (g_0_0.length : Int) ∧ E 4 = .slice A14 y12.length c16 ∧ E 5 = .pointer (some ⟨g32, 0, none⟩) ∧ E 9 = .slice (some ad187) (((List.replicate (g_0_0.length : Int).toNat false)).length) c165 ∧ E 10 = .int .i64 v10_1 ∧ E 11 = .slice Al11_2 ml11_2 cl11_2 ∧ E 12 = .slice Al12_2 ml12_2 cl12_2 ∧ E 13 = .int .i64 v13_2 ∧ E 92 = .bool (decide (v10_1 < (g_0_0.length : Int))) ∧ E 98 = .bool x185 ∧ I64 v13_2 ∧ Cx (fun _ => False) O0 w wv [.box g4 24 [.slice Ag_0_0 g_0_0.length cg_0_0, .slice Ag_0_1 g_0_1.length cg_0_1], .ro (.sl (.int .i64)) [.slice Ag_0_0 g_0_0.length cg_0_0] g_0_0, .ro (.sl (.int .i64)) [.slice Ag_0_1 g_0_1.length cg_0_1] g_0_1, .box g7 28 [.slice none 0 0, .slice none 0 0, .int .i64 0], .own 67 (.pr (.int .i64) (.int .i64)) (.slice A14 y12.length c16) y12, .box g32 28 [.slice Akf34_0_0 kf34_0_0.length ckf34_0_0, .slice A26 (((List.replicate z22.toNat (0 : Int))).length) c27, .int .i64 bf34_2_1], .own 3 (.int .i64) (.slice Akf34_0_0 kf34_0_0.length ckf34_0_0) kf34_0_0, .own 3 (.int .i64) (.slice A26 (((List.replicate z22.toNat (0 : Int))).length) c27) qf31_1, .own 4 .bool (.slice (some ad187) (((List.replicate (g_0_0.length : Int).toNat false)).length) c165) qf169_2, .own 3 (.int .i64) (.slice Al11_2 ml11_2 cl11_2) l11_2, .own 3 (.int .i64) (.slice Al12_2 ml12_2 cl12_2) l12_2] ∧ (cond (decide ((l11_2.length : Int) = 0)) ((chk (bf34_2_1 + 1)).bind fun z445 => F.ref44_Diagram_j7 n v10_1 qf31_1 l11_2 l12_2 qf169_2 (decide ((l11_2.length : Int) = 0)) z445) (F.ref44_Diagram_j7 n v10_1 qf31_1 l11_2 l12_2 qf169_2 (decide ((l11_2.length : Int) = 0)) bf34_2_1) : Option ((Int × (List Int) × Int × (List Bool)) ⊕ ((Int × (List Int) × Int × (List Bool))))) = some o178) (fun K201 hK201 => ?_) ?_
 refine Wc.block ?_
 refine Wc.loop (fun m E wv => ∃ (l11_2 : List Int) (l12_2 : List Int) (v13_2 : Int) (qf169_2 : List Bool) (Al11_2 : Option Addr) (ml11_2 cl11_2 : Nat) (Al12_2 : Option Addr) (ml12_2 cl12_2 : Nat), E 1 = .pointer (some ⟨g4, 0, none⟩) ∧ E 2 = .pointer (some ⟨g7, 0, none⟩) ∧ E 3 = .int .i64 (g_0_0.length : Int) ∧ E 4 = .slice A14 y12.length c16 ∧ E 5 = .pointer (some ⟨g32, 0, none⟩) ∧ E 9 = .slice (some ad187) (((List.replicate (g_0_0.length : Int).toNat false)).length) c165 ∧ E 10 = .int .i64 v10_1 ∧ E 11 = .slice Al11_2 ml11_2 cl11_2 ∧ E 12 = .slice Al12_2 ml12_2 cl12_2 ∧ E 13 = .int .i64 v13_2 ∧ E 92 = .bool (decide (v10_1 < (g_0_0.length : Int))) ∧ E 98 = .bool x185 ∧ I64 v13_2 ∧ Cx (fun _ => False) O0 w wv [.box g4 24 [.slice Ag_0_0 g_0_0.length cg_0_0, .slice Ag_0_1 g_0_1.length cg_0_1], .ro (.sl (.int .i64)) [.slice Ag_0_0 g_0_0.length cg_0_0] g_0_0, .ro (.sl (.int .i64)) [.slice Ag_0_1 g_0_1.length cg_0_1] g_0_1, .box g7 28 [.slice none 0 0, .slice none 0 0, .int .i64 0], .own 67 (.pr (.int .i64) (.int .i64)) (.slice A14 y12.length c16) y12, .box g32 28 [.slice Akf34_0_0 kf34_0_0.length ckf34_0_0, .slice A26 (((List.replicate z22.toNat (0 : Int))).length) c27, .int .i64 bf34_2_1], .own 3 (.int .i64) (.slice Akf34_0_0 kf34_0_0.length ckf34_0_0) kf34_0_0, .own 3 (.int .i64) (.slice A26 (((List.replicate z22.toNat (0 : Int))).length) c27) qf31_1, .own 4 .bool (.slice (some ad187) (((List.replicate (g_0_0.length : Int).toNat false)).length) c165) qf169_2, .own 3 (.int .i64) (.slice Al11_2 ml11_2 cl11_2) l11_2, .own 3 (.int .i64) (.slice Al12_2 ml12_2 cl12_2) l12_2] ∧ loopN m (F.ref44_Diagram_b2 n g_0_0 g_0_1 y12 kf34_0_0) (l11_2, l12_2, v13_2, qf169_2) = some o200) n ⟨([] : List Int), ([] : List Int), v10_1, qf169_1, none, 0, 0, none, 0, 0, e1, e2, e3, e4, e5, e9, e10, e11, e12, e13, e92, e98, hrv10_1, hC.sel [2, 3, 4, 5, 6, 7, 8, 9, 10, 1, 0] (by decide), hl2⟩ ?_
 have hbK2 := hb
 clear hb hC hl2
 rintro m203 E205 w204 ⟨l11_2, l12_2, v13_2, qf169_2, Al11_2, ml11_2, cl11_2, Al12_2, ml12_2, cl12_2, e1, e2, e3, e4, e5, e9, e10, e11, e12, e13, e92, e98, hrv13_2, hC, hl2⟩ K202 hK202
 obtain ⟨m203', o206, rfl, hb, hl2⟩ := loopN_some hl2
 unfold F.ref44_Diagram_b2 at hb
 obtain ⟨rfl, hll11_2, hcl11_2⟩ := (hC.ow (i := 9) rfl).sl_len
 obtain ⟨rfl, hll12_2, hcl12_2⟩ := (hC.ow (i := 10) rfl).sl_len
 refine Wc.seq fun K207 hK207 => ?_
 refine Wc.seq fun K208 hK208 => ?_
 refine rg ?_
 refine lp (.slice (some ad187) (((List.replicate (g_0_0.length : Int).toNat false)).length) c165) (pu_move e9) ?_
 refine lp (.int .i64 v13_2) (pu_move e13) ?_
 obtain ⟨x209, h210, hb⟩ := bd hb
 obtain ⟨ad211, cs212, hA, hc213, hr214⟩ := hC.elo (i := 8) rfl (get_some h210).2
 obtain rfl := Option.some.inj hA
 refine lp (.pointer (some (ad187.add (v13_2.toNat * 1)))) (pu_index (a := v13_2) Try.underlying55 Try.sizeOf4 rfl rfl (by rw [(hC.ow (i := 8) rfl).sl_len.1]; exact (get_some h210).1)) ?_
 obtain rfl := (show _ = _ from hr214)
 refine lv (.bool x209) (ld_one Try.isAgg4 rfl (hc213 0 _ rfl)) ?_
 refine lp (.bool (!x209)) (pu_not (q := x209) rfl) ?_
 refine ln ?_
 refine hK208 _ _ ?_
 refine Wc.cond (t := (!x209)) (rfl) (fun hq215 => ?_) (fun hq215 => ?_)
 replace hb := tt hq215 hb
 refine Wc.skip ?_
 refine hK207 _ _ ?_
 refine Wc.seq fun K216 hK216 => ?_
 refine Wc.block ?_
 refine Wc.seq fun K217 hK217 => ?_
 refine rg ?_
 refine lp (.slice (some ad187) (((List.replicate (g_0_0.length : Int).toNat false)).length) c165) (pu_move e9) ?_
 refine lp (.int .i64 v13_2) (pu_move e13) ?_
 obtain ⟨x218, h219, hb⟩ := bd hb
 obtain ⟨ad220, cs221, hA, hc222, hr223⟩ := hC.elo (i := 8) rfl (get_some h219).2
 obtain rfl := Option.some.inj hA
 refine lp (.pointer (some (ad187.add (v13_2.toNat * 1)))) (pu_index (a := v13_2) Try.underlying55 Try.sizeOf4 rfl rfl (by rw [(hC.ow (i := 8) rfl).sl_len.1]; exact (get_some h219).1)) ?_
 refine lex.sk (hC.put (i := 8) rfl rfl Try.sizeOf4 (k := v13_2.toNat) (a := true) (by have := (get_some h219).1; simp at this ⊢; omega) (show Rep _ _ .bool _ _ from rfl) rfl rfl rfl) ?_
 rintro w224 ⟨hC, hF⟩
 refine ln ?_
 refine hK217 _ _ ?_
 refine Wc.seq fun K225 hK225 => ?_
 refine rg ?_
 refine lp (.int .i64 1) (pu_assign rfl) ?_
 refine ln ?_
 refine hK225 _ _ ?_
 refine Wc.seqJ (fun E wv => ∃ (v14_3 : Int) (v126_3 : Bool), E 1 = .pointer (some ⟨g4, 0, none⟩) ∧ E 2 = .pointer (some ⟨g7, 0, none⟩) ∧ E 3 = .int .i64 (g_0_0.length : Int) ∧ E 4 = .slice A14 y12.length c16 ∧ E 5 = .pointer (some ⟨g32, 0, none⟩) ∧ E 9 = .slice (some ad187) (((List.replicate (g_0_0.length : Int).toNat false)).length) c165 ∧ E 10 = .int .i64 v10_1 ∧ E 11 = .slice Al11_2 l11_2.length cl11_2 ∧ E 12 = .slice Al12_2 l12_2.length cl12_2 ∧ E 13 = .int .i64 v13_2 ∧ E 14 = .int .i64 v14_3 ∧ E 92 = .bool (decide (v10_1 < (g_0_0.length : Int))) ∧ E 98 = .bool x185 ∧ E 104 = .bool (!x209) ∧ E 126 = .bool v126_3 ∧ I64 v14_3 ∧ Cx (fun _ => False) O0 w wv [.box g4 24 [.slice Ag_0_0 g_0_0.length cg_0_0, .slice Ag_0_1 g_0_1.length cg_0_1], .ro (.sl (.int .i64)) [.slice Ag_0_0 g_0_0.length cg_0_0] g_0_0, .ro (.sl (.int .i64)) [.slice Ag_0_1 g_0_1.length cg_0_1] g_0_1, .box g7 28 [.slice none 0 0, .slice none 0 0, .int .i64 0], .own 67 (.pr (.int .i64) (.int .i64)) (.slice A14 y12.length c16) y12, .box g32 28 [.slice Akf34_0_0 kf34_0_0.length ckf34_0_0, .slice A26 (((List.replicate z22.toNat (0 : Int))).length) c27, .int .i64 bf34_2_1], .own 3 (.int .i64) (.slice Akf34_0_0 kf34_0_0.length ckf34_0_0) kf34_0_0, .own 3 (.int .i64) (.slice A26 (((List.replicate z22.toNat (0 : Int))).length) c27) qf31_1, .own 4 .bool (.slice (some ad187) (((List.replicate (g_0_0.length : Int).toNat false)).length) c165) (qf169_2.set v13_2.toNat true), .own 3 (.int .i64) (.slice Al11_2 l11_2.length cl11_2) l11_2, .own 3 (.int .i64) (.slice Al12_2 l12_2.length cl12_2) l12_2] ∧ F.ref44_Diagram_j3 n g_0_0 g_0_1 y12 kf34_0_0 l11_2 l12_2 v13_2 qf169_2 v14_3 v126_3 = some o206) (fun K226 hK226 => ?_) ?_
 refine Wc.seq fun K227 hK227 => ?_
 refine Wc.regionMix [] (frm [] ([] : List Fact) ([] : List Fact)) (fun _ => rfl) mixed (by decide +kernel) (by decide +kernel) fun w229 hw228 => ?_
 replace hC := hC.step (Fr.of_drew hw228)
 have hM := Fr.refl (fun k => k ∈ blocks ([] : List Fact)) w229
 clear hw228
 have hS := hC
 refine mp (.pointer (some ((⟨g4, 0, none⟩ : Addr).add 0))) (pu_field (sz := 1) Try.underlying24 rfl Try.sizeOf22 (by decide) rfl e1) ?_
 refine mixE.load hM (v := .slice Ag_0_0 g_0_0.length cg_0_0) (fun _ hF => ld_fld (hS.bx2 (i := 0) rfl [] (by decide) hF) Try.isAgg22 rfl rfl) ?_
 refine mp (.int .i64 v13_2) (pu_move e13) ?_
 obtain ⟨x230, h231, hb⟩ := bd hb
 obtain ⟨ad232, cs233, hA, ho236, hc234, hr235⟩ := hS.elr2 (i := 1) rfl (get_some h231).2 []
 subst hA
 refine mp (.pointer (some (ad232.add (v13_2.toNat * 1)))) (pu_index (a := v13_2) Try.underlying22 Try.sizeOf3 rfl rfl (get_some h231).1) ?_
 obtain ⟨rfl, hr235'⟩ := hr235
 refine mixE.load hM (v := .int .i64 x230) (fun _ hF => ld_one Try.isAgg3 rfl (hF.cell (hc234 0 _ rfl) (off1 ho236))) ?_
 refine mp (.pointer (some ((⟨g4, 0, none⟩ : Addr).add 1))) (pu_field (sz := 1) Try.underlying24 rfl Try.sizeOf22 (by decide) rfl e1) ?_
 refine mixE.load hM (v := .slice Ag_0_1 g_0_1.length cg_0_1) (fun _ hF => ld_fld (hS.bx2 (i := 0) rfl [] (by decide) hF) Try.isAgg22 rfl rfl) ?_
 refine mp (.int .i64 v13_2) (pu_move e13) ?_
 obtain ⟨x237, h238, hb⟩ := bd hb
 obtain ⟨ad239, cs240, hA, ho243, hc241, hr242⟩ := hS.elr2 (i := 2) rfl (get_some h238).2 []
 subst hA
 refine mp (.pointer (some (ad239.add (v13_2.toNat * 1)))) (pu_index (a := v13_2) Try.underlying22 Try.sizeOf3 rfl rfl (get_some h238).1) ?_
 obtain ⟨rfl, hr242'⟩ := hr242
 refine mixE.load hM (v := .int .i64 x237) (fun _ hF => ld_one Try.isAgg3 rfl (hF.cell (hc241 0 _ rfl) (off1 ho243))) ?_
 refine mp (.bool (decide (x237 < x230))) (pu_gtr (k := .i64) (a := x230) (b := x237) rfl rfl) ?_
 refine mixE.nil ?_
 clear hS hM
 refine hK227 _ _ ?_
 refine Wc.cond (t := (decide (x237 < x230))) (rfl) (fun hq244 => ?_) (fun hq244 => ?_)
 replace hb := tt hq244 hb
 refine rg ?_
 refine lp (.int .i64 (-1)) (pu_assign rfl) ?_
 refine ln ?_
 exact hK226 _ _ ⟨(-1), (decide (x237 < x230)), e1, e2, e3, e4, e5, e9, e10, e11, e12, e13, rfl, e92, e98, rfl, rfl, (show I64 (-1) from by unfold I64; omega), hC.sel [0, 1, 2, 3, 4, 5, 6, 7, 8, 9, 10] (by decide), hb⟩
 replace hb := tf hq244 hb
 refine Wc.skip ?_
 exact hK226 _ _ ⟨1, (decide (x237 < x230)), e1, e2, e3, e4, e5, e9, e10, e11, e12, e13, rfl, e92, e98, rfl, rfl, (show I64 1 from by unfold I64; omega), hC.sel [0, 1, 2, 3, 4, 5, 6, 7, 8, 9, 10] (by decide), hb⟩
 clear hb hC
 rintro E246 w245 ⟨v14_3, v126_3, e1, e2, e3, e4, e5, e9, e10, e11, e12, e13, e14, e92, e98, e104, e126, hrv14_3, hC, hb⟩
 unfold F.ref44_Diagram_j3 at hb
 refine Wc.seq fun K247 hK247 => ?_
 refine Wc.seq fun K248 hK248 => ?_
 refine rg ?_
 refine lp (.pointer (some ((⟨g4, 0, none⟩ : Addr).add 0))) (pu_field (sz := 1) Try.underlying24 rfl Try.sizeOf22 (by decide) rfl e1) ?_
 refine lv (.slice Ag_0_0 g_0_0.length cg_0_0) (ld_fld (hC.bx (i := 0) rfl) Try.isAgg22 rfl rfl) ?_
 refine lp (.int .i64 v13_2) (pu_move e13) ?_
 obtain ⟨x249, h250, hb⟩ := bd hb
 obtain ⟨ad251, cs252, hA, hc253, hr254⟩ := hC.elr (i := 1) rfl (get_some h250).2
 subst hA
 refine lp (.pointer (some (ad251.add (v13_2.toNat * 1)))) (pu_index (a := v13_2) Try.underlying22 Try.sizeOf3 rfl rfl (get_some h250).1) ?_
 obtain ⟨rfl, hr254'⟩ := hr254
 refine lv (.int .i64 x249) (ld_one Try.isAgg3 rfl (hc253 0 _ rfl)) ?_
 refine lp (.int .i64 x249) (pu_assign rfl) ?_
 refine ln ?_
 refine hK248 _ _ ?_
 obtain ⟨o255, hl4, hb⟩ := bd hb
 refine Wc.cut (fun E wv => ∃ (l11_4 : List Int) (l12_4 : List Int) (v15_4 : Int) (Al11_4 : Option Addr) (ml11_4 cl11_4 : Nat) (Al12_4 : Option Addr) (ml12_4 cl12_4 : Nat), E 1 = .pointer (some ⟨g4, 0, none⟩) ∧ E 2 = .pointer (some ⟨g7, 0, none⟩) ∧ E 3 = .int .i64 (g_0_0.length : Int) ∧ E 4 = .slice A14 y12.length c16 ∧ E 5 = .pointer (some ⟨g32, 0, none⟩) ∧ E 9 = .slice (some ad187) (((List.replicate (g_0_0.length : Int).toNat false)).length) c165 ∧ E 10 = .int .i64 v10_1 ∧ E 11 = .slice Al11_4 ml11_4 cl11_4 ∧ E 12 = .slice Al12_4 ml12_4 cl12_4 ∧ E 13 = .int .i64 v13_2 ∧ E 14 = .int .i64 v14_3 ∧ E 15 = .int .i64 v15_4 ∧ E 92 = .bool (decide (v10_1 < (g_0_0.length : Int))) ∧ E 98 = .bool x185 ∧ E 104 = .bool (!x209) ∧ E 126 = .bool v126_3 ∧ I64 v15_4 ∧ Cx (fun _ => False) O0 w wv [.box g4 24 [.slice (some ad251) g_0_0.length cg_0_0, .slice Ag_0_1 g_0_1.length cg_0_1], .ro (.sl (.int .i64)) [.slice (some ad251) g_0_0.length cg_0_0] g_0_0, .ro (.sl (.int .i64)) [.slice Ag_0_1 g_0_1.length cg_0_1] g_0_1, .box g7 28 [.slice none 0 0, .slice none 0 0, .int .i64 0], .own 67 (.pr (.int .i64) (.int .i64)) (.slice A14 y12.length c16) y12, .box g32 28 [.slice Akf34_0_0 kf34_0_0.length ckf34_0_0, .slice A26 (((List.replicate z22.toNat (0 : Int))).length) c27, .int .i64 bf34_2_1], .own 3 (.int .i64) (.slice Akf34_0_0 kf34_0_0.length ckf34_0_0) kf34_0_0, .own 3 (.int .i64) (.slice A26 (((List.replicate z22.toNat (0 : Int))).length) c27) qf31_1, .own 4 .bool (.slice (some ad187) (((List.replicate (g_0_0.length : Int).toNat false)).length) c165) (qf169_2.set v13_2.toNat true), .own 3 (.int .i64) (.slice Al11_4 ml11_4 cl11_4) l11_4, .own 3 (.int .i64) (.slice Al12_4 ml12_4 cl12_4) l12_4] ∧ ((get g_0_1 v13_2).bind fun x342 => (get g_0_1 v13_2).bind fun x349 => (F.ref42_Column n g_0_0 x349).bind fun y356 => cond (decide (y356 < v13_2)) (F.ref44_Diagram_j5 n g_0_0 g_0_1 y12 v13_2 qf169_2 l11_4 l12_4 x342 y356 (-1) (decide (y356 < v13_2))) (F.ref44_Diagram_j5 n g_0_0 g_0_1 y12 v13_2 qf169_2 l11_4 l12_4 x342 y356 1 (decide (y356 < v13_2))) : Option (((List Int) × (List Int) × Int × (List Bool)) ⊕ (((List Int) × (List Int) × Int × (List Bool))))) = some o206) (fun K256 hK256 => ?_) ?_
 refine Wc.block ?_
 refine Wc.loop (fun m E wv => ∃ (l11_4 : List Int) (l12_4 : List Int) (v15_4 : Int) (Al11_4 : Option Addr) (ml11_4 cl11_4 : Nat) (Al12_4 : Option Addr) (ml12_4 cl12_4 : Nat), E 1 = .pointer (some ⟨g4, 0, none⟩) ∧ E 2 = .pointer (some ⟨g7, 0, none⟩) ∧ E 3 = .int .i64 (g_0_0.length : Int) ∧ E 4 = .slice A14 y12.length c16 ∧ E 5 = .pointer (some ⟨g32, 0, none⟩) ∧ E 9 = .slice (some ad187) (((List.replicate (g_0_0.length : Int).toNat false)).length) c165 ∧ E 10 = .int .i64 v10_1 ∧ E 11 = .slice Al11_4 ml11_4 cl11_4 ∧ E 12 = .slice Al12_4 ml12_4 cl12_4 ∧ E 13 = .int .i64 v13_2 ∧ E 14 = .int .i64 v14_3 ∧ E 15 = .int .i64 v15_4 ∧ E 92 = .bool (decide (v10_1 < (g_0_0.length : Int))) ∧ E 98 = .bool x185 ∧ E 104 = .bool (!x209) ∧ E 126 = .bool v126_3 ∧ I64 v15_4 ∧ Cx (fun _ => False) O0 w wv [.box g4 24 [.slice (some ad251) g_0_0.length cg_0_0, .slice Ag_0_1 g_0_1.length cg_0_1], .ro (.sl (.int .i64)) [.slice (some ad251) g_0_0.length cg_0_0] g_0_0, .ro (.sl (.int .i64)) [.slice Ag_0_1 g_0_1.length cg_0_1] g_0_1, .box g7 28 [.slice none 0 0, .slice none 0 0, .int .i64 0], .own 67 (.pr (.int .i64) (.int .i64)) (.slice A14 y12.length c16) y12, .box g32 28 [.slice Akf34_0_0 kf34_0_0.length ckf34_0_0, .slice A26 (((List.replicate z22.toNat (0 : Int))).length) c27, .int .i64 bf34_2_1], .own 3 (.int .i64) (.slice Akf34_0_0 kf34_0_0.length ckf34_0_0) kf34_0_0, .own 3 (.int .i64) (.slice A26 (((List.replicate z22.toNat (0 : Int))).length) c27) qf31_1, .own 4 .bool (.slice (some ad187) (((List.replicate (g_0_0.length : Int).toNat false)).length) c165) (qf169_2.set v13_2.toNat true), .own 3 (.int .i64) (.slice Al11_4 ml11_4 cl11_4) l11_4, .own 3 (.int .i64) (.slice Al12_4 ml12_4 cl12_4) l12_4] ∧ loopN m (F.ref44_Diagram_b4 n g_0_1 y12 kf34_0_0 v13_2 v14_3) (l11_4, l12_4, v15_4) = some o255) n ⟨l11_2, l12_2, x249, Al11_2, l11_2.length, cl11_2, Al12_2, l12_2.length, cl12_2, e1, e2, e3, e4, e5, e9, e10, e11, e12, e13, e14, rfl, e92, e98, e104, e126, (wrap_I64 hr254'), hC.sel [0, 1, 2, 3, 4, 5, 6, 7, 8, 9, 10] (by decide), hl4⟩ ?_
 have hbK4 := hb
 clear hb hC hl4
 rintro m258 E260 w259 ⟨l11_4, l12_4, v15_4, Al11_4, ml11_4, cl11_4, Al12_4, ml12_4, cl12_4, e1, e2, e3, e4, e5, e9, e10, e11, e12, e13, e14, e15, e92, e98, e104, e126, hrv15_4, hC, hl4⟩ K257 hK257
 obtain ⟨m258', o261, rfl, hb, hl4⟩ := loopN_some hl4
 unfold F.ref44_Diagram_b4 at hb
 obtain ⟨rfl, hll11_4, hcl11_4⟩ := (hC.ow (i := 9) rfl).sl_len
 obtain ⟨rfl, hll12_4, hcl12_4⟩ := (hC.ow (i := 10) rfl).sl_len
 refine Wc.seq fun K262 hK262 => ?_
 refine Wc.seq fun K263 hK263 => ?_
 refine rg ?_
 refine lp (.int .i64 v15_4) (pu_move e15) ?_
 refine lp (.pointer (some ((⟨g4, 0, none⟩ : Addr).add 1))) (pu_field (sz := 1) Try.underlying24 rfl Try.sizeOf22 (by decide) rfl e1) ?_
 refine lv (.slice Ag_0_1 g_0_1.length cg_0_1) (ld_fld (hC.bx (i := 0) rfl) Try.isAgg22 rfl rfl) ?_
 refine lp (.int .i64 v13_2) (pu_move e13) ?_
 obtain ⟨x264, h265, hb⟩ := bd hb
 obtain ⟨ad266, cs267, hA, hc268, hr269⟩ := hC.elr (i := 2) rfl (get_some h265).2
 subst hA
 refine lp (.pointer (some (ad266.add (v13_2.toNat * 1)))) (pu_index (a := v13_2) Try.underlying22 Try.sizeOf3 rfl rfl (get_some h265).1) ?_
 obtain ⟨rfl, hr269'⟩ := hr269
 refine lv (.int .i64 x264) (ld_one Try.isAgg3 rfl (hc268 0 _ rfl)) ?_
 refine lp (.bool (!(decide (v15_4 = x264)))) (pu_neq (k := .i64) (a := v15_4) (b := x264) rfl rfl) ?_
 refine ln ?_
 refine hK263 _ _ ?_
 refine Wc.cond (t := (!(decide (v15_4 = x264)))) (rfl) (fun hq270 => ?_) (fun hq270 => ?_)
 replace hb := tt hq270 hb
 refine Wc.skip ?_
 refine hK262 _ _ ?_
 refine Wc.seq fun K271 hK271 => ?_
 refine Wc.block ?_
 refine Wc.seq fun K272 hK272 => ?_
 refine rg ?_
 refine lp (.slice A14 y12.length c16) (pu_move e4) ?_
 refine lp (.int .i64 v13_2) (pu_move e13) ?_
 refine lp (.int .i64 v15_4) (pu_move e15) ?_
 obtain ⟨y273, h274, hb⟩ := bd hb
 refine lex.cl (⟨_, _, op_call (vs := [.slice A14 y12.length c16, .int .i64 v13_2, .int .i64 v15_4]) Try.call45 rfl rfl rfl, ref44_number_ok n (hC.lentLt [.slice A14 y12.length c16]) ((hC.ow (i := 4) rfl).lend (vs := [.slice A14 y12.length c16]) (by simp)) hrv13_2 hrv15_4 h274⟩) ?_
 rintro _ w276 ⟨rfl, hr275, hK⟩
 replace hC := hC.mergeF hK rfl
 clear hK
 refine lp (.int .i64 y273) (pu_assign rfl) ?_
 refine ln ?_
 refine hK272 _ _ ?_
 refine Wc.fresh fun E277 hE => ?_
 have e1 := (congrFun hE 1).trans e1
 have e2 := (congrFun hE 2).trans e2
 have e3 := (congrFun hE 3).trans e3
 have e4 := (congrFun hE 4).trans e4
 have e5 := (congrFun hE 5).trans e5
 have e9 := (congrFun hE 9).trans e9
 have e10 := (congrFun hE 10).trans e10
 have e11 := (congrFun hE 11).trans e11
 have e12 := (congrFun hE 12).trans e12
 have e13 := (congrFun hE 13).trans e13
 have e14 := (congrFun hE 14).trans e14
 have e15 := (congrFun hE 15).trans e15
 have e16 : E277 16 = .int .i64 y273 := (congrFun hE 16).trans rfl
 have e92 := (congrFun hE 92).trans e92
 have e98 := (congrFun hE 98).trans e98
 have e104 := (congrFun hE 104).trans e104
 have e126 := (congrFun hE 126).trans e126
 have e138 : E277 138 = .bool (!(decide (v15_4 = x264))) := (congrFun hE 138).trans rfl
 clear hE
 refine Wc.seq fun K278 hK278 => ?_
 refine rg ?_
 refine lp (.int .i64 y273) (pu_move e16) ?_
 refine lp (.bool (decide (0 ≤ y273))) (pu_geq (k := .i64) (a := y273) (b := 0) rfl rfl) ?_
 refine ln ?_
 refine hK278 _ _ ?_
 refine Wc.cond (t := (decide (0 ≤ y273))) (rfl) (fun hq279 => ?_) (fun hq279 => ?_)
 replace hb := tt hq279 hb
 refine Wc.seq fun K280 hK280 => ?_
 refine rg ?_
 refine lp (.slice Al11_4 l11_4.length cl11_4) (pu_move e11) ?_
 refine lp (.int .i64 y273) (pu_move e16) ?_
 obtain ⟨z281, h282, hb⟩ := bd hb
 refine lp (.int .i64 z281) (pu_mulc (a := 4) (b := y273) rfl rfl h282) ?_
 obtain ⟨z283, h284, hb⟩ := bd hb
 refine lp (.int .i64 z283) (pu_addc (a := z281) (b := 2) rfl rfl h284) ?_
 refine lp (.pointer (some ((⟨g32, 0, none⟩ : Addr).add 0))) (pu_field (sz := 1) Try.underlying28 rfl Try.sizeOf22 (by decide) rfl e5) ?_
 refine lv (.slice Akf34_0_0 kf34_0_0.length ckf34_0_0) (ld_fld (hC.bx (i := 5) rfl) Try.isAgg22 rfl rfl) ?_
 refine lp (.int .i64 y273) (pu_move e16) ?_
 obtain ⟨x285, h286, hb⟩ := bd hb
 obtain ⟨ad287, cs288, hA, hc289, hr290⟩ := hC.elo (i := 6) rfl (get_some h286).2
 subst hA
 refine lp (.pointer (some (ad287.add (y273.toNat * 1)))) (pu_index (a := y273) Try.underlying22 Try.sizeOf3 rfl rfl (get_some h286).1) ?_
 obtain ⟨rfl, hr290'⟩ := hr290
 refine lv (.int .i64 x285) (ld_one Try.isAgg3 rfl (hc289 0 _ rfl)) ?_
 obtain ⟨z291, h292, hb⟩ := bd hb
 refine lp (.int .i64 z291) (pu_addc (a := z283) (b := x285) rfl rfl h292) ?_
 refine lex.op (hC.lit (s := (.int .i64)) (vs := [.int .i64 z291]) (xs := [z291]) Try.underlying22 Try.type3 rfl rfl (Nat.le_of_ble_eq_true rfl) rfl rfl (by simp [Value.cells, Sh.n]) rfl (show Elems _ _ (.int .i64) ([.int .i64 z291] ++ ([])) ([z291] : List Int) from Elems.cons (⟨rfl, I64.wr (chk_rng h292)⟩) (Elems.nil _ _ _))) ?_
 rintro _ w297 ⟨A293, c294, rfl, hl295, hc296, hC, hF, hN⟩
 clear hF hN
 obtain ⟨u299, h300, hb⟩ := bd hb
 refine lex.op (hC.app (i := 10) (s := (.int .i64)) (xs := l11_4) (ys := ([z291] : List Int)) (m := ((([z291] : List Int)).length)) rfl Try.underlying22 Try.underlying22 Try.type3 rfl rfl rfl (hC.srco (i := 0) rfl) rfl rfl (by have := lim_some h300; simp at this ⊢ <;> omega) (by decide)) ?_
 rintro _ w305 ⟨A301, c302, rfl, hl303, hc304, hC, hF, hN⟩
 clear hF hN
 refine lp (.slice A301 ((l11_4 ++ ([z291] : List Int)).length) c302) (pu_assign rfl) ?_
 refine ln ?_
 refine hK280 _ _ ?_
 refine Wc.fresh fun E306 hE => ?_
 have e1 := (congrFun hE 1).trans e1
 have e2 := (congrFun hE 2).trans e2
 have e3 := (congrFun hE 3).trans e3
 have e4 := (congrFun hE 4).trans e4
 have e5 := (congrFun hE 5).trans e5
 have e9 := (congrFun hE 9).trans e9
 have e10 := (congrFun hE 10).trans e10
 have e11 : E306 11 = .slice A301 ((l11_4 ++ ([z291] : List Int)).length) c302 := (congrFun hE 11).trans rfl
 have e12 := (congrFun hE 12).trans e12
 have e13 := (congrFun hE 13).trans e13
 have e14 := (congrFun hE 14).trans e14
 have e15 := (congrFun hE 15).trans e15
 have e16 := (congrFun hE 16).trans e16
 have e92 := (congrFun hE 92).trans e92
 have e98 := (congrFun hE 98).trans e98
 have e104 := (congrFun hE 104).trans e104
 have e126 := (congrFun hE 126).trans e126
 have e138 := (congrFun hE 138).trans e138
 have e147 : E306 147 = .bool (decide (0 ≤ y273)) := (congrFun hE 147).trans rfl
 clear hE
 refine rg ?_
 refine lp (.slice Al12_4 l12_4.length cl12_4) (pu_move e12) ?_
 refine lp (.int .i64 y273) (pu_move e16) ?_
 obtain ⟨z307, h308, hb⟩ := bd hb
 refine lp (.int .i64 z307) (pu_mulc (a := 4) (b := y273) rfl rfl h308) ?_
 obtain ⟨z309, h310, hb⟩ := bd hb
 refine lp (.int .i64 z309) (pu_addc (a := z307) (b := 2) rfl rfl h310) ?_
 refine lp (.pointer (some ((⟨g32, 0, none⟩ : Addr).add 0))) (pu_field (sz := 1) Try.underlying28 rfl Try.sizeOf22 (by decide) rfl e5) ?_
 refine lv (.slice (some ad287) kf34_0_0.length ckf34_0_0) (ld_fld (hC.bx (i := 6) rfl) Try.isAgg22 rfl rfl) ?_
 refine lp (.int .i64 y273) (pu_move e16) ?_
 obtain ⟨x311, h312, hb⟩ := bd hb
 obtain ⟨ad313, cs314, hA, hc315, hr316⟩ := hC.elo (i := 7) rfl (get_some h312).2
 obtain rfl := Option.some.inj hA
 refine lp (.pointer (some (ad287.add (y273.toNat * 1)))) (pu_index (a := y273) Try.underlying22 Try.sizeOf3 rfl rfl (get_some h312).1) ?_
 obtain ⟨rfl, hr316'⟩ := hr316
 refine lv (.int .i64 x311) (ld_one Try.isAgg3 rfl (hc315 0 _ rfl)) ?_
 obtain ⟨z317, h318, hb⟩ := bd hb
 refine lp (.int .i64 z317) (pu_subc (a := z309) (b := x311) rfl rfl h318) ?_
 refine lex.op (hC.lit (s := (.int .i64)) (vs := [.int .i64 z317]) (xs := [z317]) Try.underlying22 Try.type3 rfl rfl (Nat.le_of_ble_eq_true rfl) rfl rfl (by simp [Value.cells, Sh.n]) rfl (show Elems _ _ (.int .i64) ([.int .i64 z317] ++ ([])) ([z317] : List Int) from Elems.cons (⟨rfl, I64.wr (chk_rng h318)⟩) (Elems.nil _ _ _))) ?_
 rintro _ w323 ⟨A319, c320, rfl, hl321, hc322, hC, hF, hN⟩
 clear hF hN
 obtain ⟨u325, h326, hb⟩ := bd hb
 refine lex.op (hC.app (i := 12) (s := (.int .i64)) (xs := l12_4) (ys := ([z317] : List Int)) (m := ((([z317] : List Int)).length)) rfl Try.underlying22 Try.underlying22 Try.type3 rfl rfl rfl (hC.srco (i := 0) rfl) rfl rfl (by have := lim_some h326; simp at this ⊢ <;> omega) (by decide)) ?_
 rintro _ w331 ⟨A327, c328, rfl, hl329, hc330, hC, hF, hN⟩
 clear hF hN
 refine lp (.slice A327 ((l12_4 ++ ([z317] : List Int)).length) c328) (pu_assign rfl) ?_
 refine ln ?_
 refine hK271 _ _ ?_
 refine Wc.fresh fun E332 hE => ?_
 have e1 := (congrFun hE 1).trans e1
 have e2 := (congrFun hE 2).trans e2
 have e3 := (congrFun hE 3).trans e3
 have e4 := (congrFun hE 4).trans e4
 have e5 := (congrFun hE 5).trans e5
 have e9 := (congrFun hE 9).trans e9
 have e10 := (congrFun hE 10).trans e10
 have e11 := (congrFun hE 11).trans e11
 have e12 : E332 12 = .slice A327 ((l12_4 ++ ([z317] : List Int)).length) c328 := (congrFun hE 12).trans rfl
 have e13 := (congrFun hE 13).trans e13
 have e14 := (congrFun hE 14).trans e14
 have e15 := (congrFun hE 15).trans e15
 have e16 := (congrFun hE 16).trans e16
 have e92 := (congrFun hE 92).trans e92
 have e98 := (congrFun hE 98).trans e98
 have e104 := (congrFun hE 104).trans e104
 have e126 := (congrFun hE 126).trans e126
 have e138 := (congrFun hE 138).trans e138
 have e147 := (congrFun hE 147).trans e147
 clear hE
 refine rg ?_
 refine lp (.int .i64 v15_4) (pu_move e15) ?_
 refine lp (.int .i64 v14_3) (pu_move e14) ?_
 obtain ⟨z333, h334, hb⟩ := bd hb
 refine lp (.int .i64 z333) (pu_addc (a := v15_4) (b := v14_3) rfl rfl h334) ?_
 refine lp (.int .i64 z333) (pu_assign rfl) ?_
 refine ln ?_
 obtain rfl := os hb
 exact hK257 m258' _ _ (Nat.lt_succ_self _) ⟨(l11_4 ++ ([z291] : List Int)), (l12_4 ++ ([z317] : List Int)), z333, A301, (l11_4 ++ ([z291] : List Int)).length, c302, A327, (l12_4 ++ ([z317] : List Int)).length, c328, e1, e2, e3, e4, e5, e9, e10, e11, e12, e13, e14, rfl, e92, e98, e104, e126, (chk_rng h334), hC.sel [2, 3, 4, 5, 6, 7, 8, 9, 10, 11, 12] (by decide), lN hl4⟩
 replace hb := tf hq279 hb
 refine Wc.skip ?_
 refine hK271 _ _ ?_
 refine rg ?_
 refine lp (.int .i64 v15_4) (pu_move e15) ?_
 refine lp (.int .i64 v14_3) (pu_move e14) ?_
 obtain ⟨z335, h336, hb⟩ := bd hb
 refine lp (.int .i64 z335) (pu_addc (a := v15_4) (b := v14_3) rfl rfl h336) ?_
 refine lp (.int .i64 z335) (pu_assign rfl) ?_
 refine ln ?_
 obtain rfl := os hb
 exact hK257 m258' _ _ (Nat.lt_succ_self _) ⟨l11_4, l12_4, z335, Al11_4, l11_4.length, cl11_4, Al12_4, l12_4.length, cl12_4, e1, e2, e3, e4, e5, e9, e10, e11, e12, e13, e14, rfl, e92, e98, e104, e126, (chk_rng h336), hC.sel [0, 1, 2, 3, 4, 5, 6, 7, 8, 9, 10] (by decide), lN hl4⟩
 replace hb := tf hq270 hb
 refine Wc.exit rfl ?_
 obtain rfl := os hb
 obtain rfl := (lX hl4).symm
 exact hK256 _ _ ⟨l11_4, l12_4, v15_4, Al11_4, l11_4.length, cl11_4, Al12_4, l12_4.length, cl12_4, e1, e2, e3, e4, e5, e9, e10, e11, e12, e13, e14, e15, e92, e98, e104, e126, hrv15_4, hC.sel [0, 1, 2, 3, 4, 5, 6, 7, 8, 9, 10] (by decide), hbK4⟩
 clear hb hC hl4
 rintro E338 w337 ⟨l11_4, l12_4, v15_4, Al11_4, ml11_4, cl11_4, Al12_4, ml12_4, cl12_4, e1, e2, e3, e4, e5, e9, e10, e11, e12, e13, e14, e15, e92, e98, e104, e126, hrv15_4, hC, hb⟩
 obtain ⟨rfl, hll11_4, hcl11_4⟩ := (hC.ow (i := 9) rfl).sl_len
 obtain ⟨rfl, hll12_4, hcl12_4⟩ := (hC.ow (i := 10) rfl).sl_len
 refine hK247 _ _ ?_
 refine Wc.seq fun K339 hK339 => ?_
 refine Wc.regionMix [] (frm [] ([] : List Fact) ([] : List Fact)) (fun _ => rfl) mixed (by decide +kernel) (by decide +kernel) fun w341 hw340 => ?_
 replace hC := hC.step (Fr.of_drew hw340)
 have hM := Fr.refl (fun k => k ∈ blocks ([] : List Fact)) w341
 clear hw340
 have hS := hC
 refine mp (.pointer (some ((⟨g4, 0, none⟩ : Addr).add 1))) (pu_field (sz := 1) Try.underlying24 rfl Try.sizeOf22 (by decide) rfl e1) ?_
 refine mixE.load hM (v := .slice Ag_0_1 g_0_1.length cg_0_1) (fun _ hF => ld_fld (hS.bx2 (i := 0) rfl [] (by decide) hF) Try.isAgg22 rfl rfl) ?_
 refine mp (.int .i64 v13_2) (pu_move e13) ?_
 obtain ⟨x342, h343, hb⟩ := bd hb
 obtain ⟨ad344, cs345, hA, ho348, hc346, hr347⟩ := hS.elr2 (i := 2) rfl (get_some h343).2 []
 subst hA
 refine mp (.pointer (some (ad344.add (v13_2.toNat * 1)))) (pu_index (a := v13_2) Try.underlying22 Try.sizeOf3 rfl rfl (get_some h343).1) ?_
 obtain ⟨rfl, hr347'⟩ := hr347
 refine mixE.load hM (v := .int .i64 x342) (fun _ hF => ld_one Try.isAgg3 rfl (hF.cell (hc346 0 _ rfl) (off1 ho348))) ?_
 refine mp (.pointer (some ((⟨g4, 0, none⟩ : Addr).add 0))) (pu_field (sz := 1) Try.underlying24 rfl Try.sizeOf22 (by decide) rfl e1) ?_
 refine mixE.load hM (v := .slice (some ad251) g_0_0.length cg_0_0) (fun _ hF => ld_fld (hS.bx2 (i := 0) rfl [] (by decide) hF) Try.isAgg22 rfl rfl) ?_
 refine mp (.pointer (some ((⟨g4, 0, none⟩ : Addr).add 1))) (pu_field (sz := 1) Try.underlying24 rfl Try.sizeOf22 (by decide) rfl e1) ?_
 refine mixE.load hM (v := .slice (some ad344) g_0_1.length cg_0_1) (fun _ hF => ld_fld (hS.bx2 (i := 0) rfl [] (by decide) hF) Try.isAgg22 rfl rfl) ?_
 refine mp (.int .i64 v13_2) (pu_move e13) ?_
 obtain ⟨x349, h350, hb⟩ := bd hb
 obtain ⟨ad351, cs352, hA, ho355, hc353, hr354⟩ := hS.elr2 (i := 2) rfl (get_some h350).2 []
 obtain rfl := Option.some.inj hA
 refine mp (.pointer (some (ad344.add (v13_2.toNat * 1)))) (pu_index (a := v13_2) Try.underlying22 Try.sizeOf3 rfl rfl (get_some h350).1) ?_
 obtain ⟨rfl, hr354'⟩ := hr354
 refine mixE.load hM (v := .int .i64 x349) (fun _ hF => ld_one Try.isAgg3 rfl (hF.cell (hc353 0 _ rfl) (off1 ho355))) ?_
 obtain ⟨y356, h357, hb⟩ := bd hb
 refine mixE.cl hM (⟨_, _, op_call (vs := [.slice (some ad251) g_0_0.length cg_0_0, .int .i64 x349]) Try.call44 rfl rfl rfl, ref42_Column_ok n hC.lt (hC.rd (i := 1) rfl) (wrap_I64 hr354') h357⟩) ?_
 rintro _ w359 ⟨rfl, hr358, hK⟩
 replace hM := hM.none hK.fr
 refine ⟨hM, ?_⟩
 replace hC := hC.merge hK
 clear hK
 refine mp (.int .i64 x342) (pu_assign rfl) ?_
 refine mp (.int .i64 y356) (pu_assign rfl) ?_
 refine mixE.nil ?_
 clear hS hM
 refine hK339 _ _ ?_
 refine Wc.fresh fun E360 hE => ?_
 have e1 := (congrFun hE 1).trans e1
 have e2 := (congrFun hE 2).trans e2
 have e3 := (congrFun hE 3).trans e3
 have e4 := (congrFun hE 4).trans e4
 have e5 := (congrFun hE 5).trans e5
 have e9 := (congrFun hE 9).trans e9
 have e10 := (congrFun hE 10).trans e10
 have e11 := (congrFun hE 11).trans e11
 have e12 := (congrFun hE 12).trans e12
 have e13 := (congrFun hE 13).trans e13
 have e14 := (congrFun hE 14).trans e14
 have e15 := (congrFun hE 15).trans e15
 have e17 : E360 17 = .int .i64 x342 := (congrFun hE 17).trans rfl
 have e18 : E360 18 = .int .i64 y356 := (congrFun hE 18).trans rfl
 have e92 := (congrFun hE 92).trans e92
 have e98 := (congrFun hE 98).trans e98
 have e104 := (congrFun hE 104).trans e104
 have e126 := (congrFun hE 126).trans e126
 clear hE
 refine Wc.seq fun K361 hK361 => ?_
 refine rg ?_
 refine lp (.int .i64 1) (pu_assign rfl) ?_
 refine ln ?_
 refine hK361 _ _ ?_
 refine Wc.seqJ (fun E wv => ∃ (v14_5 : Int) (v187_5 : Bool), E 1 = .pointer (some ⟨g4, 0, none⟩) ∧ E 2 = .pointer (some ⟨g7, 0, none⟩) ∧ E 3 = .int .i64 (g_0_0.length : Int) ∧ E 4 = .slice A14 y12.length c16 ∧ E 5 = .pointer (some ⟨g32, 0, none⟩) ∧ E 9 = .slice (some ad187) (((List.replicate (g_0_0.length : Int).toNat false)).length) c165 ∧ E 10 = .int .i64 v10_1 ∧ E 11 = .slice Al11_4 l11_4.length cl11_4 ∧ E 12 = .slice Al12_4 l12_4.length cl12_4 ∧ E 13 = .int .i64 v13_2 ∧ E 14 = .int .i64 v14_5 ∧ E 15 = .int .i64 v15_4 ∧ E 17 = .int .i64 x342 ∧ E 18 = .int .i64 y356 ∧ E 92 = .bool (decide (v10_1 < (g_0_0.length : Int))) ∧ E 98 = .bool x185 ∧ E 104 = .bool (!x209) ∧ E 126 = .bool v126_3 ∧ E 187 = .bool v187_5 ∧ I64 v14_5 ∧ Cx (fun _ => False) O0 w wv [.box g4 24 [.slice (some ad251) g_0_0.length cg_0_0, .slice (some ad344) g_0_1.length cg_0_1], .ro (.sl (.int .i64)) [.slice (some ad251) g_0_0.length cg_0_0] g_0_0, .ro (.sl (.int .i64)) [.slice (some ad344) g_0_1.length cg_0_1] g_0_1, .box g7 28 [.slice none 0 0, .slice none 0 0, .int .i64 0], .own 67 (.pr (.int .i64) (.int .i64)) (.slice A14 y12.length c16) y12, .box g32 28 [.slice Akf34_0_0 kf34_0_0.length ckf34_0_0, .slice A26 (((List.replicate z22.toNat (0 : Int))).length) c27, .int .i64 bf34_2_1], .own 3 (.int .i64) (.slice Akf34_0_0 kf34_0_0.length ckf34_0_0) kf34_0_0, .own 3 (.int .i64) (.slice A26 (((List.replicate z22.toNat (0 : Int))).length) c27) qf31_1, .own 4 .bool (.slice (some ad187) (((List.replicate (g_0_0.length : Int).toNat false)).length) c165) (qf169_2.set v13_2.toNat true), .own 3 (.int .i64) (.slice Al11_4 l11_4.length cl11_4) l11_4, .own 3 (.int .i64) (.slice Al12_4 l12_4.length cl12_4) l12_4] ∧ F.ref44_Diagram_j5 n g_0_0 g_0_1 y12 v13_2 qf169_2 l11_4 l12_4 x342 y356 v14_5 v187_5 = some o206) (fun K362 hK362 => ?_) ?_
 refine Wc.seq fun K363 hK363 => ?_
 refine rg ?_
 refine lp (.int .i64 y356) (pu_move e18) ?_
 refine lp (.int .i64 v13_2) (pu_move e13) ?_
 refine lp (.bool (decide (y356 < v13_2))) (pu_lss (k := .i64) (a := y356) (b := v13_2) rfl rfl) ?_
 refine ln ?_
 refine hK363 _ _ ?_
 refine Wc.cond (t := (decide (y356 < v13_2))) (rfl) (fun hq364 => ?_) (fun hq364 => ?_)
 replace hb := tt hq364 hb
 refine rg ?_
 refine lp (.int .i64 (-1)) (pu_assign rfl) ?_
 refine ln ?_
 exact hK362 _ _ ⟨(-1), (decide (y356 < v13_2)), e1, e2, e3, e4, e5, e9, e10, e11, e12, e13, rfl, e15, e17, e18, e92, e98, e104, e126, rfl, (show I64 (-1) from by unfold I64; omega), hC.sel [0, 1, 2, 3, 4, 5, 6, 7, 8, 9, 10] (by decide), hb⟩
 replace hb := tf hq364 hb
 refine Wc.skip ?_
 exact hK362 _ _ ⟨1, (decide (y356 < v13_2)), e1, e2, e3, e4, e5, e9, e10, e11, e12, e13, rfl, e15, e17, e18, e92, e98, e104, e126, rfl, (show I64 1 from by unfold I64; omega), hC.sel [0, 1, 2, 3, 4, 5, 6, 7, 8, 9, 10] (by decide), hb⟩
 clear hb hC
 rintro E366 w365 ⟨v14_5, v187_5, e1, e2, e3, e4, e5, e9, e10, e11, e12, e13, e14, e15, e17, e18, e92, e98, e104, e126, e187, hrv14_5, hC, hb⟩
 unfold F.ref44_Diagram_j5 at hb
 refine Wc.seq fun K367 hK367 => ?_
 refine rg ?_
 refine lp (.int .i64 v13_2) (pu_move e13) ?_
 refine lp (.int .i64 v13_2) (pu_assign rfl) ?_
 refine ln ?_
 refine hK367 _ _ ?_
 obtain ⟨o368, hl6, hb⟩ := bd hb
 refine Wc.cut (fun E wv => ∃ (l11_6 : List Int) (l12_6 : List Int) (v19_6 : Int) (Al11_6 : Option Addr) (ml11_6 cl11_6 : Nat) (Al12_6 : Option Addr) (ml12_6 cl12_6 : Nat), E 1 = .pointer (some ⟨g4, 0, none⟩) ∧ E 2 = .pointer (some ⟨g7, 0, none⟩) ∧ E 3 = .int .i64 (g_0_0.length : Int) ∧ E 4 = .slice A14 y12.length c16 ∧ E 5 = .pointer (some ⟨g32, 0, none⟩) ∧ E 9 = .slice (some ad187) (((List.replicate (g_0_0.length : Int).toNat false)).length) c165 ∧ E 10 = .int .i64 v10_1 ∧ E 11 = .slice Al11_6 ml11_6 cl11_6 ∧ E 12 = .slice Al12_6 ml12_6 cl12_6 ∧ E 13 = .int .i64 v13_2 ∧ E 14 = .int .i64 v14_5 ∧ E 15 = .int .i64 v15_4 ∧ E 17 = .int .i64 x342 ∧ E 18 = .int .i64 y356 ∧ E 19 = .int .i64 v19_6 ∧ E 92 = .bool (decide (v10_1 < (g_0_0.length : Int))) ∧ E 98 = .bool x185 ∧ E 104 = .bool (!x209) ∧ E 126 = .bool v126_3 ∧ E 187 = .bool v187_5 ∧ I64 v19_6 ∧ Cx (fun _ => False) O0 w wv [.box g4 24 [.slice (some ad251) g_0_0.length cg_0_0, .slice (some ad344) g_0_1.length cg_0_1], .ro (.sl (.int .i64)) [.slice (some ad251) g_0_0.length cg_0_0] g_0_0, .ro (.sl (.int .i64)) [.slice (some ad344) g_0_1.length cg_0_1] g_0_1, .box g7 28 [.slice none 0 0, .slice none 0 0, .int .i64 0], .own 67 (.pr (.int .i64) (.int .i64)) (.slice A14 y12.length c16) y12, .box g32 28 [.slice Akf34_0_0 kf34_0_0.length ckf34_0_0, .slice A26 (((List.replicate z22.toNat (0 : Int))).length) c27, .int .i64 bf34_2_1], .own 3 (.int .i64) (.slice Akf34_0_0 kf34_0_0.length ckf34_0_0) kf34_0_0, .own 3 (.int .i64) (.slice A26 (((List.replicate z22.toNat (0 : Int))).length) c27) qf31_1, .own 4 .bool (.slice (some ad187) (((List.replicate (g_0_0.length : Int).toNat false)).length) c165) (qf169_2.set v13_2.toNat true), .own 3 (.int .i64) (.slice Al11_6 ml11_6 cl11_6) l11_6, .own 3 (.int .i64) (.slice Al12_6 ml12_6 cl12_6) l12_6] ∧ ((get g_0_1 v13_2).bind fun x429 => (F.ref42_Column n g_0_0 x429).bind fun y436 => some (.inl (l11_6, l12_6, y436, (qf169_2.set v13_2.toNat true))) : Option (((List Int) × (List Int) × Int × (List Bool)) ⊕ (((List Int) × (List Int) × Int × (List Bool))))) = some o206) (fun K369 hK369 => ?_) ?_
 refine Wc.block ?_
 refine Wc.loop (fun m E wv => ∃ (l11_6 : List Int) (l12_6 : List Int) (v19_6 : Int) (Al11_6 : Option Addr) (ml11_6 cl11_6 : Nat) (Al12_6 : Option Addr) (ml12_6 cl12_6 : Nat), E 1 = .pointer (some ⟨g4, 0, none⟩) ∧ E 2 = .pointer (some ⟨g7, 0, none⟩) ∧ E 3 = .int .i64 (g_0_0.length : Int) ∧ E 4 = .slice A14 y12.length c16 ∧ E 5 = .pointer (some ⟨g32, 0, none⟩) ∧ E 9 = .slice (some ad187) (((List.replicate (g_0_0.length : Int).toNat false)).length) c165 ∧ E 10 = .int .i64 v10_1 ∧ E 11 = .slice Al11_6 ml11_6 cl11_6 ∧ E 12 = .slice Al12_6 ml12_6 cl12_6 ∧ E 13 = .int .i64 v13_2 ∧ E 14 = .int .i64 v14_5 ∧ E 15 = .int .i64 v15_4 ∧ E 17 = .int .i64 x342 ∧ E 18 = .int .i64 y356 ∧ E 19 = .int .i64 v19_6 ∧ E 92 = .bool (decide (v10_1 < (g_0_0.length : Int))) ∧ E 98 = .bool x185 ∧ E 104 = .bool (!x209) ∧ E 126 = .bool v126_3 ∧ E 187 = .bool v187_5 ∧ I64 v19_6 ∧ Cx (fun _ => False) O0 w wv [.box g4 24 [.slice (some ad251) g_0_0.length cg_0_0, .slice (some ad344) g_0_1.length cg_0_1], .ro (.sl (.int .i64)) [.slice (some ad251) g_0_0.length cg_0_0] g_0_0, .ro (.sl (.int .i64)) [.slice (some ad344) g_0_1.length cg_0_1] g_0_1, .box g7 28 [.slice none 0 0, .slice none 0 0, .int .i64 0], .own 67 (.pr (.int .i64) (.int .i64)) (.slice A14 y12.length c16) y12, .box g32 28 [.slice Akf34_0_0 kf34_0_0.length ckf34_0_0, .slice A26 (((List.replicate z22.toNat (0 : Int))).length) c27, .int .i64 bf34_2_1], .own 3 (.int .i64) (.slice Akf34_0_0 kf34_0_0.length ckf34_0_0) kf34_0_0, .own 3 (.int .i64) (.slice A26 (((List.replicate z22.toNat (0 : Int))).length) c27) qf31_1, .own 4 .bool (.slice (some ad187) (((List.replicate (g_0_0.length : Int).toNat false)).length) c165) (qf169_2.set v13_2.toNat true), .own 3 (.int .i64) (.slice Al11_6 ml11_6 cl11_6) l11_6, .own 3 (.int .i64) (.slice Al12_6 ml12_6 cl12_6) l12_6] ∧ loopN m (F.ref44_Diagram_b6 n y12 x342 y356 v14_5) (l11_6, l12_6, v19_6) = some o368) n ⟨l11_4, l12_4, v13_2, Al11_4, l11_4.length, cl11_4, Al12_4, l12_4.length, cl12_4, e1, e2, e3, e4, e5, e9, e10, e11, e12, e13, e14, e15, e17, e18, rfl, e92, e98, e104, e126, e187, hrv13_2, hC.sel [0, 1, 2, 3, 4, 5, 6, 7, 8, 9, 10] (by decide), hl6⟩ ?_
 have hbK6 := hb
 clear hb hC hl6
 rintro m371 E373 w372 ⟨l11_6, l12_6, v19_6, Al11_6, ml11_6, cl11_6, Al12_6, ml12_6, cl12_6, e1, e2, e3, e4, e5, e9, e10, e11, e12, e13, e14, e15, e17, e18, e19, e92, e98, e104, e126, e187, hrv19_6, hC, hl6⟩ K370 hK370
 obtain ⟨m371', o374, rfl, hb, hl6⟩ := loopN_some hl6
 unfold F.ref44_Diagram_b6 at hb
 obtain ⟨rfl, hll11_6, hcl11_6⟩ := (hC.ow (i := 9) rfl).sl_len
 obtain ⟨rfl, hll12_6, hcl12_6⟩ := (hC.ow (i := 10) rfl).sl_len
 refine Wc.seq fun K375 hK375 => ?_
 refine Wc.seq fun K376 hK376 => ?_
 refine rg ?_
 refine lp (.int .i64 v19_6) (pu_move e19) ?_
 refine lp (.int .i64 y356) (pu_move e18) ?_
 refine lp (.bool (!(decide (v19_6 = y356)))) (pu_neq (k := .i64) (a := v19_6) (b := y356) rfl rfl) ?_
 refine ln ?_
 refine hK376 _ _ ?_
 refine Wc.cond (t := (!(decide (v19_6 = y356)))) (rfl) (fun hq377 => ?_) (fun hq377 => ?_)
 replace hb := tt hq377 hb
 refine Wc.skip ?_
 refine hK375 _ _ ?_
 refine Wc.seq fun K378 hK378 => ?_
 refine Wc.block ?_
 refine Wc.seq fun K379 hK379 => ?_
 refine rg ?_
 refine lp (.slice A14 y12.length c16) (pu_move e4) ?_
 refine lp (.int .i64 v19_6) (pu_move e19) ?_
 refine lp (.int .i64 x342) (pu_move e17) ?_
 obtain ⟨y380, h381, hb⟩ := bd hb
 refine lex.cl (⟨_, _, op_call (vs := [.slice A14 y12.length c16, .int .i64 v19_6, .int .i64 x342]) Try.call45 rfl rfl rfl, ref44_number_ok n (hC.lentLt [.slice A14 y12.length c16]) ((hC.ow (i := 4) rfl).lend (vs := [.slice A14 y12.length c16]) (by simp)) hrv19_6 (wrap_I64 hr347') h381⟩) ?_
 rintro _ w383 ⟨rfl, hr382, hK⟩
 replace hC := hC.mergeF hK rfl
 clear hK
 refine lp (.int .i64 y380) (pu_assign rfl) ?_
 refine ln ?_
 refine hK379 _ _ ?_
 refine Wc.seq fun K384 hK384 => ?_
 refine rg ?_
 refine lp (.int .i64 y380) (pu_move rfl) ?_
 refine lp (.bool (decide (0 ≤ y380))) (pu_geq (k := .i64) (a := y380) (b := 0) rfl rfl) ?_
 refine ln ?_
 refine hK384 _ _ ?_
 refine Wc.fresh fun E385 hE => ?_
 have e1 := (congrFun hE 1).trans e1
 have e2 := (congrFun hE 2).trans e2
 have e3 := (congrFun hE 3).trans e3
 have e4 := (congrFun hE 4).trans e4
 have e5 := (congrFun hE 5).trans e5
 have e9 := (congrFun hE 9).trans e9
 have e10 := (congrFun hE 10).trans e10
 have e11 := (congrFun hE 11).trans e11
 have e12 := (congrFun hE 12).trans e12
 have e13 := (congrFun hE 13).trans e13
 have e14 := (congrFun hE 14).trans e14
 have e15 := (congrFun hE 15).trans e15
 have e17 := (congrFun hE 17).trans e17
 have e18 := (congrFun hE 18).trans e18
 have e19 := (congrFun hE 19).trans e19
 have e20 : E385 20 = .int .i64 y380 := (congrFun hE 20).trans rfl
 have e92 := (congrFun hE 92).trans e92
 have e98 := (congrFun hE 98).trans e98
 have e104 := (congrFun hE 104).trans e104
 have e126 := (congrFun hE 126).trans e126
 have e187 := (congrFun hE 187).trans e187
 have e191 : E385 191 = .bool (!(decide (v19_6 = y356))) := (congrFun hE 191).trans rfl
 have e200 : E385 200 = .bool (decide (0 ≤ y380)) := (congrFun hE 200).trans rfl
 clear hE
 refine Wc.cond (t := (decide (0 ≤ y380))) (e200) (fun hq386 => ?_) (fun hq386 => ?_)
 replace hb := tt hq386 hb
 refine Wc.seq fun K387 hK387 => ?_
 refine rg ?_
 refine lp (.slice Al11_6 l11_6.length cl11_6) (pu_move e11) ?_
 refine lp (.int .i64 y380) (pu_move e20) ?_
 obtain ⟨z388, h389, hb⟩ := bd hb
 refine lp (.int .i64 z388) (pu_mulc (a := 4) (b := y380) rfl rfl h389) ?_
 refine lex.op (hC.lit (s := (.int .i64)) (vs := [.int .i64 z388]) (xs := [z388]) Try.underlying22 Try.type3 rfl rfl (Nat.le_of_ble_eq_true rfl) rfl rfl (by simp [Value.cells, Sh.n]) rfl (show Elems _ _ (.int .i64) ([.int .i64 z388] ++ ([])) ([z388] : List Int) from Elems.cons (⟨rfl, I64.wr (chk_rng h389)⟩) (Elems.nil _ _ _))) ?_
 rintro _ w394 ⟨A390, c391, rfl, hl392, hc393, hC, hF, hN⟩
 clear hF hN
 obtain ⟨u396, h397, hb⟩ := bd hb
 refine lex.op (hC.app (i := 10) (s := (.int .i64)) (xs := l11_6) (ys := ([z388] : List Int)) (m := ((([z388] : List Int)).length)) rfl Try.underlying22 Try.underlying22 Try.type3 rfl rfl rfl (hC.srco (i := 0) rfl) rfl rfl (by have := lim_some h397; simp at this ⊢ <;> omega) (by decide)) ?_
 rintro _ w402 ⟨A398, c399, rfl, hl400, hc401, hC, hF, hN⟩
 clear hF hN
 refine lp (.slice A398 ((l11_6 ++ ([z388] : List Int)).length) c399) (pu_assign rfl) ?_
 refine ln ?_
 refine hK387 _ _ ?_
 refine rg ?_
 refine lp (.slice Al12_6 l12_6.length cl12_6) (pu_move e12) ?_
 refine lp (.int .i64 y380) (pu_move e20) ?_
 obtain ⟨z403, h404, hb⟩ := bd hb
 refine lp (.int .i64 z403) (pu_mulc (a := 4) (b := y380) rfl rfl h404) ?_
 obtain ⟨z405, h406, hb⟩ := bd hb
 refine lp (.int .i64 z405) (pu_addc (a := z403) (b := 2) rfl rfl h406) ?_
 refine lex.op (hC.lit (s := (.int .i64)) (vs := [.int .i64 z405]) (xs := [z405]) Try.underlying22 Try.type3 rfl rfl (Nat.le_of_ble_eq_true rfl) rfl rfl (by simp [Value.cells, Sh.n]) rfl (show Elems _ _ (.int .i64) ([.int .i64 z405] ++ ([])) ([z405] : List Int) from Elems.cons (⟨rfl, I64.wr (chk_rng h406)⟩) (Elems.nil _ _ _))) ?_
 rintro _ w411 ⟨A407, c408, rfl, hl409, hc410, hC, hF, hN⟩
 clear hF hN
 obtain ⟨u413, h414, hb⟩ := bd hb
 refine lex.op (hC.app (i := 12) (s := (.int .i64)) (xs := l12_6) (ys := ([z405] : List Int)) (m := ((([z405] : List Int)).length)) rfl Try.underlying22 Try.underlying22 Try.type3 rfl rfl rfl (hC.srco (i := 0) rfl) rfl rfl (by have := lim_some h414; simp at this ⊢ <;> omega) (by decide)) ?_
 rintro _ w419 ⟨A415, c416, rfl, hl417, hc418, hC, hF, hN⟩
 clear hF hN
 refine lp (.slice A415 ((l12_6 ++ ([z405] : List Int)).length) c416) (pu_assign rfl) ?_
 refine ln ?_
 refine hK378 _ _ ?_
 refine Wc.fresh fun E420 hE => ?_
 have e1 := (congrFun hE 1).trans e1
 have e2 := (congrFun hE 2).trans e2
 have e3 := (congrFun hE 3).trans e3
 have e4 := (congrFun hE 4).trans e4
 have e5 := (congrFun hE 5).trans e5
 have e9 := (congrFun hE 9).trans e9
 have e10 := (congrFun hE 10).trans e10
 have e11 : E420 11 = .slice A398 ((l11_6 ++ ([z388] : List Int)).length) c399 := (congrFun hE 11).trans rfl
 have e12 : E420 12 = .slice A415 ((l12_6 ++ ([z405] : List Int)).length) c416 := (congrFun hE 12).trans rfl
 have e13 := (congrFun hE 13).trans e13
 have e14 := (congrFun hE 14).trans e14
 have e15 := (congrFun hE 15).trans e15
 have e17 := (congrFun hE 17).trans e17
 have e18 := (congrFun hE 18).trans e18
 have e19 := (congrFun hE 19).trans e19
 have e20 := (congrFun hE 20).trans e20
 have e92 := (congrFun hE 92).trans e92
 have e98 := (congrFun hE 98).trans e98
 have e104 := (congrFun hE 104).trans e104
 have e126 := (congrFun hE 126).trans e126
 have e187 := (congrFun hE 187).trans e187
 have e191 := (congrFun hE 191).trans e191
 have e200 := (congrFun hE 200).trans e200
 clear hE
 refine rg ?_
 refine lp (.int .i64 v19_6) (pu_move e19) ?_
 refine lp (.int .i64 v14_5) (pu_move e14) ?_
 obtain ⟨z421, h422, hb⟩ := bd hb
 refine lp (.int .i64 z421) (pu_addc (a := v19_6) (b := v14_5) rfl rfl h422) ?_
 refine lp (.int .i64 z421) (pu_assign rfl) ?_
 refine ln ?_
 obtain rfl := os hb
 exact hK370 m371' _ _ (Nat.lt_succ_self _) ⟨(l11_6 ++ ([z388] : List Int)), (l12_6 ++ ([z405] : List Int)), z421, A398, (l11_6 ++ ([z388] : List Int)).length, c399, A415, (l12_6 ++ ([z405] : List Int)).length, c416, e1, e2, e3, e4, e5, e9, e10, e11, e12, e13, e14, e15, e17, e18, rfl, e92, e98, e104, e126, e187, (chk_rng h422), hC.sel [2, 3, 4, 5, 6, 7, 8, 9, 10, 11, 12] (by decide), lN hl6⟩
 replace hb := tf hq386 hb
 refine Wc.skip ?_
 refine hK378 _ _ ?_
 refine rg ?_
 refine lp (.int .i64 v19_6) (pu_move e19) ?_
 refine lp (.int .i64 v14_5) (pu_move e14) ?_
 obtain ⟨z423, h424, hb⟩ := bd hb
 refine lp (.int .i64 z423) (pu_addc (a := v19_6) (b := v14_5) rfl rfl h424) ?_
 refine lp (.int .i64 z423) (pu_assign rfl) ?_
 refine ln ?_
 obtain rfl := os hb
 exact hK370 m371' _ _ (Nat.lt_succ_self _) ⟨l11_6, l12_6, z423, Al11_6, l11_6.length, cl11_6, Al12_6, l12_6.length, cl12_6, e1, e2, e3, e4, e5, e9, e10, e11, e12, e13, e14, e15, e17, e18, rfl, e92, e98, e104, e126, e187, (chk_rng h424), hC.sel [0, 1, 2, 3, 4, 5, 6, 7, 8, 9, 10] (by decide), lN hl6⟩
 replace hb := tf hq377 hb
 refine Wc.exit rfl ?_
 obtain rfl := os hb
 obtain rfl := (lX hl6).symm
 exact hK369 _ _ ⟨l11_6, l12_6, v19_6, Al11_6, l11_6.length, cl11_6, Al12_6, l12_6.length, cl12_6, e1, e2, e3, e4, e5, e9, e10, e11, e12, e13, e14, e15, e17, e18, e19, e92, e98, e104, e126, e187, hrv19_6, hC.sel [0, 1, 2, 3, 4, 5, 6, 7, 8, 9, 10] (by decide), hbK6⟩
 clear hb hC hl6
 rintro E426 w425 ⟨l11_6, l12_6, v19_6, Al11_6, ml11_6, cl11_6, Al12_6, ml12_6, cl12_6, e1, e2, e3, e4, e5, e9, e10, e11, e12, e13, e14, e15, e17, e18, e19, e92, e98, e104, e126, e187, hrv19_6, hC, hb⟩
 obtain ⟨rfl, hll11_6, hcl11_6⟩ := (hC.ow (i := 9) rfl).sl_len
 obtain ⟨rfl, hll12_6, hcl12_6⟩ := (hC.ow (i := 10) rfl).sl_len
 refine hK216 _ _ ?_
 refine Wc.regionMix [] (frm [] ([] : List Fact) ([] : List Fact)) (fun _ => rfl) mixed (by decide +kernel) (by decide +kernel) fun w428 hw427 => ?_
 replace hC := hC.step (Fr.of_drew hw427)
 have hM := Fr.refl (fun k => k ∈ blocks ([] : List Fact)) w428
 clear hw427
 have hS := hC
 refine mp (.pointer (some ((⟨g4, 0, none⟩ : Addr).add 0))) (pu_field (sz := 1) Try.underlying24 rfl Try.sizeOf22 (by decide) rfl e1) ?_
 refine mixE.load hM (v := .slice (some ad251) g_0_0.length cg_0_0) (fun _ hF => ld_fld (hS.bx2 (i := 0) rfl [] (by decide) hF) Try.isAgg22 rfl rfl) ?_
 refine mp (.pointer (some ((⟨g4, 0, none⟩ : Addr).add 1))) (pu_field (sz := 1) Try.underlying24 rfl Try.sizeOf22 (by decide) rfl e1) ?_
 refine mixE.load hM (v := .slice (some ad344) g_0_1.length cg_0_1) (fun _ hF => ld_fld (hS.bx2 (i := 0) rfl [] (by decide) hF) Try.isAgg22 rfl rfl) ?_
 refine mp (.int .i64 v13_2) (pu_move e13) ?_
 obtain ⟨x429, h430, hb⟩ := bd hb
 obtain ⟨ad431, cs432, hA, ho435, hc433, hr434⟩ := hS.elr2 (i := 2) rfl (get_some h430).2 []
 obtain rfl := Option.some.inj hA
 refine mp (.pointer (some (ad344.add (v13_2.toNat * 1)))) (pu_index (a := v13_2) Try.underlying22 Try.sizeOf3 rfl rfl (get_some h430).1) ?_
 obtain ⟨rfl, hr434'⟩ := hr434
 refine mixE.load hM (v := .int .i64 x429) (fun _ hF => ld_one Try.isAgg3 rfl (hF.cell (hc433 0 _ rfl) (off1 ho435))) ?_
 obtain ⟨y436, h437, hb⟩ := bd hb
 refine mixE.cl hM (⟨_, _, op_call (vs := [.slice (some ad251) g_0_0.length cg_0_0, .int .i64 x429]) Try.call44 rfl rfl rfl, ref42_Column_ok n hC.lt (hC.rd (i := 1) rfl) (wrap_I64 hr434') h437⟩) ?_
 rintro _ w439 ⟨rfl, hr438, hK⟩
 replace hM := hM.none hK.fr
 refine ⟨hM, ?_⟩
 replace hC := hC.merge hK
 clear hK
 refine mp (.int .i64 y436) (pu_assign rfl) ?_
 refine mixE.nil ?_
 clear hS hM
 obtain rfl := os hb
 exact hK202 m203' _ _ (Nat.lt_succ_self _) ⟨l11_6, l12_6, y436, (qf169_2.set v13_2.toNat true), Al11_6, l11_6.length, cl11_6, Al12_6, l12_6.length, cl12_6, e1, e2, e3, e4, e5, e9, e10, e11, e12, rfl, e92, e98, hr438, hC.sel [0, 1, 2, 3, 4, 5, 6, 7, 8, 9, 10] (by decide), lN hl2⟩
 replace hb := tf hq215 hb
 refine Wc.exit rfl ?_
 obtain rfl := os hb
 obtain rfl := (lX hl2).symm
 exact hK201 _ _ ⟨l11_2, l12_2, v13_2, qf169_2, Al11_2, l11_2.length, cl11_2, Al12_2, l12_2.length, cl12_2, e1, e2, e3, e4, e5, e9, e10, e11, e12, e13, e92, e98, hrv13_2, hC.sel [0, 1, 2, 3, 4, 5, 6, 7, 8, 9, 10] (by decide), hbK2⟩
 clear hb hC hl2
 rintro E441 w440 ⟨l11_2, l12_2, v13_2, qf169_2, Al11_2, ml11_2, cl11_2, Al12_2, ml12_2, cl12_2, e1, e2, e3, e4, e5, e9, e10, e11, e12, e13, e92, e98, hrv13_2, hC, hb⟩
 obtain ⟨rfl, hll11_2, hcl11_2⟩ := (hC.ow (i := 9) rfl).sl_len
 obtain ⟨rfl, hll12_2, hcl12_2⟩ := (hC.ow (i := 10) rfl).sl_len
 refine hK195 _ _ ?_
 refine Wc.seqJ (fun E wv => ∃ (v214_7 : Bool) (bf34_2_7 : Int), E 1 = .pointer (some ⟨g4, 0, none⟩) ∧ E 2 = .pointer (some ⟨g7, 0, none⟩) ∧ E 3 = .int .i64 (g_0_0.length : Int) ∧ E 4 = .slice A14 y12.length c16 ∧ E 5 = .pointer (some ⟨g32, 0, none⟩) ∧ E 9 = .slice (some ad187) (((List.replicate (g_0_0.length : Int).toNat false)).length) c165 ∧ E 10 = .int .i64 v10_1 ∧ E 11 = .slice Al11_2 l11_2.length cl11_2 ∧ E 12 = .slice Al12_2 l12_2.length cl12_2 ∧ E 13 = .int .i64 v13_2 ∧ E 92 = .bool (decide (v10_1 < (g_0_0.length : Int))) ∧ E 98 = .bool x185 ∧ E 214 = .bool v214_7 ∧ I64 bf34_2_7 ∧ Cx (fun _ => False) O0 w wv [.box g4 24 [.slice Ag_0_0 g_0_0.length cg_0_0, .slice Ag_0_1 g_0_1.length cg_0_1], .ro (.sl (.int .i64)) [.slice Ag_0_0 g_0_0.length cg_0_0] g_0_0, .ro (.sl (.int .i64)) [.slice Ag_0_1 g_0_1.length cg_0_1] g_0_1, .box g7 28 [.slice none 0 0, .slice none 0 0, .int .i64 0], .own 67 (.pr (.int .i64) (.int .i64)) (.slice A14 y12.length c16) y12, .box g32 28 [.slice Akf34_0_0 kf34_0_0.length ckf34_0_0, .slice A26 (((List.replicate z22.toNat (0 : Int))).length) c27, .int .i64 bf34_2_7], .own 3 (.int .i64) (.slice Akf34_0_0 kf34_0_0.length ckf34_0_0) kf34_0_0, .own 3 (.int .i64) (.slice A26 (((List.replicate z22.toNat (0 : Int))).length) c27) qf31_1, .own 4 .bool (.slice (some ad187) (((List.replicate (g_0_0.length : Int).toNat false)).length) c165) qf169_2, .own 3 (.int .i64) (.slice Al11_2 l11_2.length cl11_2) l11_2, .own 3 (.int .i64) (.slice Al12_2 l12_2.length cl12_2) l12_2] ∧ F.ref44_Diagram_j7 n v10_1 qf31_1 l11_2 l12_2 qf169_2 v214_7 bf34_2_7 = some o178) (fun K442 hK442 => ?_) ?_
 refine Wc.seq fun K443 hK443 => ?_
 refine rg ?_
 refine lp (.slice Al11_2 l11_2.length cl11_2) (pu_move e11) ?_
 refine lp (.int .i64 (l11_2.length : Int)) (pu_len (A := Al11_2) (n := l11_2.length) (m := cl11_2) Try.underlying22 rfl) ?_
 refine lp (.bool (decide ((l11_2.length : Int) = 0))) (pu_eql (k := .i64) (a := (l11_2.length : Int)) (b := 0) rfl rfl) ?_
 refine ln ?_
 refine hK443 _ _ ?_
 refine Wc.cond (t := (decide ((l11_2.length : Int) = 0))) (rfl) (fun hq444 => ?_) (fun hq444 => ?_)
 replace hb := tt hq444 hb
 refine rg ?_
 refine lp (.pointer (some ((⟨g32, 0, none⟩ : Addr).add 2))) (pu_field (sz := 1) Try.underlying28 rfl Try.sizeOf3 (by decide) rfl e5) ?_
 refine lv (.int .i64 bf34_2_1) (ld_fld (hC.bx (i := 5) rfl) Try.isAgg3 rfl rfl) ?_
 obtain ⟨z445, h446, hb⟩ := bd hb
 refine lp (.int .i64 z445) (pu_addc (a := bf34_2_1) (b := 1) rfl rfl h446) ?_
 refine lp (.pointer (some ((⟨g32, 0, none⟩ : Addr).add 2))) (pu_field (sz := 1) Try.underlying28 rfl Try.sizeOf3 (by decide) rfl e5) ?_
 refine lex.sk (hC.setf (i := 5) (k := 2) (v := .int .i64 z445) rfl Try.sizeOf3 rfl rfl rfl rfl) ?_
 rintro w447 ⟨hC, hF⟩
 refine ln ?_
 exact hK442 _ _ ⟨(decide ((l11_2.length : Int) = 0)), z445, e1, e2, e3, e4, e5, e9, e10, e11, e12, e13, e92, e98, rfl, (chk_rng h446), hC.sel [0, 1, 2, 3, 4, 5, 6, 7, 8, 9, 10] (by decide), hb⟩
 replace hb := tf hq444 hb
 refine Wc.skip ?_
 exact hK442 _ _ ⟨(decide ((l11_2.length : Int) = 0)), bf34_2_1, e1, e2, e3, e4, e5, e9, e10, e11, e12, e13, e92, e98, rfl, hrbf34_2_1, hC.sel [0, 1, 2, 3, 4, 5, 6, 7, 8, 9, 10] (by decide), hb⟩
 clear hb hC
 rintro E449 w448 ⟨v214_7, bf34_2_7, e1, e2, e3, e4, e5, e9, e10, e11, e12, e13, e92, e98, e214, hrbf34_2_7, hC, hb⟩
 unfold F.ref44_Diagram_j7 at hb
 refine Wc.seq fun K450 hK450 => ?_
 refine rg ?_
 refine lp (.int .i64 0) (pu_assign rfl) ?_
 refine ln ?_
 refine hK450 _ _ ?_
 obtain ⟨o451, hl8, hb⟩ := bd hb
 refine Wc.cut (fun E wv => ∃ (v21_8 : Int) (qf31_8 : List Int), E 1 = .pointer (some ⟨g4, 0, none⟩) ∧ E 2 = .pointer (some ⟨g7, 0, none⟩) ∧ E 3 = .int .i64 (g_0_0.length : Int) ∧ E 4 = .slice A14 y12.length c16 ∧ E 5 = .pointer (some ⟨g32, 0, none⟩) ∧ E 9 = .slice (some ad187) (((List.replicate (g_0_0.length : Int).toNat false)).length) c165 ∧ E 10 = .int .i64 v10_1 ∧ E 11 = .slice Al11_2 l11_2.length cl11_2 ∧ E 12 = .slice Al12_2 l12_2.length cl12_2 ∧ E 13 = .int .i64 v13_2 ∧ E 21 = .int .i64 v21_8 ∧ E 92 = .bool (decide (v10_1 < (g_0_0.length : Int))) ∧ E 98 = .bool x185 ∧ E 214 = .bool v214_7 ∧ I64 v21_8 ∧ Cx (fun _ => False) O0 w wv [.box g4 24 [.slice Ag_0_0 g_0_0.length cg_0_0, .slice Ag_0_1 g_0_1.length cg_0_1], .ro (.sl (.int .i64)) [.slice Ag_0_0 g_0_0.length cg_0_0] g_0_0, .ro (.sl (.int .i64)) [.slice Ag_0_1 g_0_1.length cg_0_1] g_0_1, .box g7 28 [.slice none 0 0, .slice none 0 0, .int .i64 0], .own 67 (.pr (.int .i64) (.int .i64)) (.slice A14 y12.length c16) y12, .box g32 28 [.slice Akf34_0_0 kf34_0_0.length ckf34_0_0, .slice A26 (((List.replicate z22.toNat (0 : Int))).length) c27, .int .i64 bf34_2_7], .own 3 (.int .i64) (.slice Akf34_0_0 kf34_0_0.length ckf34_0_0) kf34_0_0, .own 3 (.int .i64) (.slice A26 (((List.replicate z22.toNat (0 : Int))).length) c27) qf31_8, .own 4 .bool (.slice (some ad187) (((List.replicate (g_0_0.length : Int).toNat false)).length) c165) qf169_2, .own 3 (.int .i64) (.slice Al11_2 l11_2.length cl11_2) l11_2, .own 3 (.int .i64) (.slice Al12_2 l12_2.length cl12_2) l12_2] ∧ ((chk (v10_1 + 1)).bind fun z509 => some (.inl (z509, qf31_8, bf34_2_7, qf169_2)) : Option ((Int × (List Int) × Int × (List Bool)) ⊕ ((Int × (List Int) × Int × (List Bool))))) = some o178) (fun K452 hK452 => ?_) ?_
 refine Wc.block ?_
 refine Wc.loop (fun m E wv => ∃ (v21_8 : Int) (qf31_8 : List Int), E 1 = .pointer (some ⟨g4, 0, none⟩) ∧ E 2 = .pointer (some ⟨g7, 0, none⟩) ∧ E 3 = .int .i64 (g_0_0.length : Int) ∧ E 4 = .slice A14 y12.length c16 ∧ E 5 = .pointer (some ⟨g32, 0, none⟩) ∧ E 9 = .slice (some ad187) (((List.replicate (g_0_0.length : Int).toNat false)).length) c165 ∧ E 10 = .int .i64 v10_1 ∧ E 11 = .slice Al11_2 l11_2.length cl11_2 ∧ E 12 = .slice Al12_2 l12_2.length cl12_2 ∧ E 13 = .int .i64 v13_2 ∧ E 21 = .int .i64 v21_8 ∧ E 92 = .bool (decide (v10_1 < (g_0_0.length : Int))) ∧ E 98 = .bool x185 ∧ E 214 = .bool v214_7 ∧ I64 v21_8 ∧ Cx (fun _ => False) O0 w wv [.box g4 24 [.slice Ag_0_0 g_0_0.length cg_0_0, .slice Ag_0_1 g_0_1.length cg_0_1], .ro (.sl (.int .i64)) [.slice Ag_0_0 g_0_0.length cg_0_0] g_0_0, .ro (.sl (.int .i64)) [.slice Ag_0_1 g_0_1.length cg_0_1] g_0_1, .box g7 28 [.slice none 0 0, .slice none 0 0, .int .i64 0], .own 67 (.pr (.int .i64) (.int .i64)) (.slice A14 y12.length c16) y12, .box g32 28 [.slice Akf34_0_0 kf34_0_0.length ckf34_0_0, .slice A26 (((List.replicate z22.toNat (0 : Int))).length) c27, .int .i64 bf34_2_7], .own 3 (.int .i64) (.slice Akf34_0_0 kf34_0_0.length ckf34_0_0) kf34_0_0, .own 3 (.int .i64) (.slice A26 (((List.replicate z22.toNat (0 : Int))).length) c27) qf31_8, .own 4 .bool (.slice (some ad187) (((List.replicate (g_0_0.length : Int).toNat false)).length) c165) qf169_2, .own 3 (.int .i64) (.slice Al11_2 l11_2.length cl11_2) l11_2, .own 3 (.int .i64) (.slice Al12_2 l12_2.length cl12_2) l12_2] ∧ loopN m (F.ref44_Diagram_b8 n l11_2 l12_2) (v21_8, qf31_8) = some o451) n ⟨0, qf31_1, e1, e2, e3, e4, e5, e9, e10, e11, e12, e13, rfl, e92, e98, e214, (show I64 0 from by unfold I64; omega), hC.sel [0, 1, 2, 3, 4, 5, 6, 7, 8, 9, 10] (by decide), hl8⟩ ?_
 have hbK8 := hb
 clear hb hC hl8
 rintro m454 E456 w455 ⟨v21_8, qf31_8, e1, e2, e3, e4, e5, e9, e10, e11, e12, e13, e21, e92, e98, e214, hrv21_8, hC, hl8⟩ K453 hK453
 obtain ⟨m454', o457, rfl, hb, hl8⟩ := loopN_some hl8
 unfold F.ref44_Diagram_b8 at hb
 refine Wc.seq fun K458 hK458 => ?_
 refine Wc.seq fun K459 hK459 => ?_
 refine rg ?_
 refine lp (.int .i64 v21_8) (pu_move e21) ?_
 refine lp (.slice Al11_2 l11_2.length cl11_2) (pu_move e11) ?_
 refine lp (.int .i64 (l11_2.length : Int)) (pu_len (A := Al11_2) (n := l11_2.length) (m := cl11_2) Try.underlying22 rfl) ?_
 refine lp (.bool (decide (v21_8 < (l11_2.length : Int)))) (pu_lss (k := .i64) (a := v21_8) (b := (l11_2.length : Int)) rfl rfl) ?_
 refine ln ?_
 refine hK459 _ _ ?_
 refine Wc.cond (t := (decide (v21_8 < (l11_2.length : Int)))) (rfl) (fun hq460 => ?_) (fun hq460 => ?_)
 replace hb := tt hq460 hb
 refine Wc.skip ?_
 refine hK458 _ _ ?_
 refine Wc.seq fun K461 hK461 => ?_
 refine Wc.block ?_
 refine Wc.seq fun K462 hK462 => ?_
 refine rg ?_
 refine lp (.slice Al11_2 l11_2.length cl11_2) (pu_move e11) ?_
 refine lp (.int .i64 v21_8) (pu_move e21) ?_
 obtain ⟨z463, h464, hb⟩ := bd hb
 refine lp (.int .i64 z463) (pu_addc (a := v21_8) (b := 1) rfl rfl h464) ?_
 refine lp (.slice Al11_2 l11_2.length cl11_2) (pu_move e11) ?_
 refine lp (.int .i64 (l11_2.length : Int)) (pu_len (A := Al11_2) (n := l11_2.length) (m := cl11_2) Try.underlying22 rfl) ?_
 obtain ⟨u465, h466, hb⟩ := bd hb
 refine lp (.int .i64 (Int.tmod z463 (l11_2.length : Int))) (pu_remc (a := z463) (b := (l11_2.length : Int)) rfl rfl h466) ?_
 obtain ⟨x467, h468, hb⟩ := bd hb
 obtain ⟨ad469, cs470, hA, hc471, hr472⟩ := hC.elo (i := 9) rfl (get_some h468).2
 subst hA
 refine lp (.pointer (some (ad469.add ((Int.tmod z463 (l11_2.length : Int)).toNat * 1)))) (pu_index (a := (Int.tmod z463 (l11_2.length : Int))) Try.underlying22 Try.sizeOf3 rfl rfl (get_some h468).1) ?_
 obtain ⟨rfl, hr472'⟩ := hr472
 refine lv (.int .i64 x467) (ld_one Try.isAgg3 rfl (hc471 0 _ rfl)) ?_
 refine lp (.int .i64 x467) (pu_assign rfl) ?_
 refine ln ?_
 refine hK462 _ _ ?_
 refine Wc.fresh fun E473 hE => ?_
 have e1 := (congrFun hE 1).trans e1
 have e2 := (congrFun hE 2).trans e2
 have e3 := (congrFun hE 3).trans e3
 have e4 := (congrFun hE 4).trans e4
 have e5 := (congrFun hE 5).trans e5
 have e9 := (congrFun hE 9).trans e9
 have e10 := (congrFun hE 10).trans e10
 have e11 := (congrFun hE 11).trans e11
 have e12 := (congrFun hE 12).trans e12
 have e13 := (congrFun hE 13).trans e13
 have e21 := (congrFun hE 21).trans e21
 have e22 : E473 22 = .int .i64 x467 := (congrFun hE 22).trans rfl
 have e92 := (congrFun hE 92).trans e92
 have e98 := (congrFun hE 98).trans e98
 have e214 := (congrFun hE 214).trans e214
 have e222 : E473 222 = .bool (decide (v21_8 < (l11_2.length : Int))) := (congrFun hE 222).trans rfl
 clear hE
 refine Wc.regionMix [234, 238, 240, 246] (frm [234, 238, 240, 246] ([] : List Fact) [.own 3 (.int .i64) (.slice A26 (((List.replicate z22.toNat (0 : Int))).length) c27) qf31_8]) (fun _ => rfl) mixed (by decide +kernel) (by decide +kernel) fun w475 hw474 => ?_
 replace hC := hC.step (Fr.of_drew hw474)
 have hM := Fr.refl (fun k => k ∈ blocks ([] : List Fact)) w475
 clear hw474
 have hS := hC
 have hD : Fr (fun k => k ∈ blocks (([] : List Fact) ++ [.own 3 (.int .i64) (.slice A26 (((List.replicate z22.toNat (0 : Int))).length) c27) qf31_8])) w475 w475 := hM.wide
 have hUf31 : Beside (([] : List Fact) ++ [.own 3 (.int .i64) (.slice A26 (((List.replicate z22.toNat (0 : Int))).length) c27) qf31_8]) w475 (.slice A26 (((List.replicate z22.toNat (0 : Int))).length) c27) := Beside.of (i := 0) rfl
 refine mp (.pointer (some ((⟨g32, 0, none⟩ : Addr).add 1))) (pu_field (sz := 1) Try.underlying28 rfl Try.sizeOf22 (by decide) rfl e5) ?_
 refine mixE.steady hD (v := .slice A26 (((List.replicate z22.toNat (0 : Int))).length) c27) (fun _ hF => ld_fld (hS.bx2 (i := 5) rfl [7] (by decide) hF) Try.isAgg22 rfl rfl) ?_
 refine mp (.slice Al12_2 l12_2.length cl12_2) (pu_move e12) ?_
 refine mp (.int .i64 v21_8) (pu_move e21) ?_
 obtain ⟨x476, h477, hb⟩ := bd hb
 obtain ⟨ad478, cs479, hA, ho482, hc480, hr481⟩ := hS.elo2 (i := 10) rfl (get_some h477).2 [7] (by decide)
 subst hA
 refine mp (.pointer (some (ad478.add (v21_8.toNat * 1)))) (pu_index (a := v21_8) Try.underlying22 Try.sizeOf3 rfl rfl (get_some h477).1) ?_
 obtain ⟨rfl, hr481'⟩ := hr481
 refine mixE.steady hD (v := .int .i64 x476) (fun _ hF => ld_one Try.isAgg3 rfl (hF.cell (hc480 0 _ rfl) (off1 ho482))) ?_
 refine mp (.pointer (some ((⟨g32, 0, none⟩ : Addr).add 1))) (pu_field (sz := 1) Try.underlying28 rfl Try.sizeOf22 (by decide) rfl e5) ?_
 refine mixE.steady hD (v := .slice A26 (((List.replicate z22.toNat (0 : Int))).length) c27) (fun _ hF => ld_fld (hS.bx2 (i := 5) rfl [7] (by decide) hF) Try.isAgg22 rfl rfl) ?_
 refine mp (.int .i64 x467) (pu_move e22) ?_
 refine mp (.int .i64 x467) (pu_move e22) ?_
 refine mp (.slice (some ad478) l12_2.length cl12_2) (pu_move e12) ?_
 refine mp (.int .i64 v21_8) (pu_move e21) ?_
 obtain ⟨x483, h484, hb⟩ := bd hb
 obtain ⟨ad485, cs486, hA, ho489, hc487, hr488⟩ := hS.elo2 (i := 10) rfl (get_some h484).2 [7] (by decide)
 obtain rfl := Option.some.inj hA
 refine mp (.pointer (some (ad478.add (v21_8.toNat * 1)))) (pu_index (a := v21_8) Try.underlying22 Try.sizeOf3 rfl rfl (get_some h484).1) ?_
 obtain ⟨rfl, hr488'⟩ := hr488
 refine mixE.steady hD (v := .int .i64 x483) (fun _ hF => ld_one Try.isAgg3 rfl (hF.cell (hc487 0 _ rfl) (off1 ho489))) ?_
 obtain ⟨x490, h491, hb⟩ := bd hb
 obtain ⟨ad492, cs493, hA, ho496, hc494, hr495⟩ := hS.elo2 (i := 7) rfl (get_some h491).2 [] (by decide)
 subst hA
 refine mp (.pointer (some (ad492.add (x476.toNat * 1)))) (pu_index (a := x476) Try.underlying22 Try.sizeOf3 rfl rfl (by rw [(hC.ow (i := 7) rfl).sl_len.1]; exact (get_some h491).1)) ?_
 refine mixE.sk hD (hC.put (i := 7) rfl rfl Try.sizeOf3 (k := x476.toNat) (a := x467) (by have := (get_some h491).1; simp at this ⊢; omega) (⟨rfl, I64.wr (wrap_I64 hr472')⟩) rfl rfl rfl) ?_
 rintro w497 ⟨hC, hF⟩
 replace hD := hD.beside hUf31 hF
 clear hF
 refine ⟨hD, ?_⟩
 obtain ⟨x498, h499, hb⟩ := bd hb
 obtain ⟨ad500, cs501, hA, hc502, hr503⟩ := hC.elo (i := 7) rfl (get_some h499).2
 obtain rfl := Option.some.inj hA
 refine mp (.pointer (some (ad492.add (x467.toNat * 1)))) (pu_index (a := x467) Try.underlying22 Try.sizeOf3 rfl rfl (by rw [(hC.ow (i := 7) rfl).sl_len.1]; exact (get_some h499).1)) ?_
 refine mixE.sk hD (hC.put (i := 7) rfl rfl Try.sizeOf3 (k := x467.toNat) (a := x483) (by have := (get_some h499).1; simp at this ⊢; omega) (⟨rfl, I64.wr (wrap_I64 hr488')⟩) rfl rfl rfl) ?_
 rintro w504 ⟨hC, hF⟩
 replace hD := hD.beside hUf31 hF
 clear hF
 refine ⟨hD, ?_⟩
 refine mixE.nil ?_
 clear hS hM
 clear hD
 refine hK461 _ _ ?_
 refine rg ?_
 refine lp (.int .i64 v21_8) (pu_move e21) ?_
 obtain ⟨z505, h506, hb⟩ := bd hb
 refine lp (.int .i64 z505) (pu_addc (a := v21_8) (b := 1) rfl rfl h506) ?_
 refine lp (.int .i64 z505) (pu_assign rfl) ?_
 refine ln ?_
 obtain rfl := os hb
 exact hK453 m454' _ _ (Nat.lt_succ_self _) ⟨z505, ((qf31_8.set x476.toNat x467).set x467.toNat x483), e1, e2, e3, e4, e5, e9, e10, e11, e12, e13, rfl, e92, e98, e214, (chk_rng h506), hC.sel [0, 1, 2, 3, 4, 5, 6, 7, 8, 9, 10] (by decide), lN hl8⟩
 replace hb := tf hq460 hb
 refine Wc.exit rfl ?_
 obtain rfl := os hb
 obtain rfl := (lX hl8).symm
 exact hK452 _ _ ⟨v21_8, qf31_8, e1, e2, e3, e4, e5, e9, e10, e11, e12, e13, e21, e92, e98, e214, hrv21_8, hC.sel [0, 1, 2, 3, 4, 5, 6, 7, 8, 9, 10] (by decide), hbK8⟩
 clear hb hC hl8
 rintro E508 w507 ⟨v21_8, qf31_8, e1, e2, e3, e4, e5, e9, e10, e11, e12, e13, e21, e92, e98, e214, hrv21_8, hC, hb⟩
 refine hK182 _ _ ?_
 refine rg ?_
 refine lp (.int .i64 v10_1) (pu_move e10) ?_
 obtain ⟨z509, h510, hb⟩ := bd hb
 refine lp (.int .i64 z509) (pu_addc (a := v10_1) (b := 1) rfl rfl h510) ?_
 refine lp (.int .i64 z509) (pu_assign rfl) ?_
 refine ln ?_
 obtain rfl := os hb
 exact hK174 m175' _ _ (Nat.lt_succ_self _) ⟨z509, qf31_8, bf34_2_7, qf169_2, e1, e2, e3, e4, e5, e9, rfl, (chk_rng h510), hrbf34_2_7, hC.sel [0, 1, 2, 3, 4, 5, 6, 7, 8] (by decide), lN hl1⟩
 replace hb := tf hq181 hb
 refine Wc.exit rfl ?_
 obtain rfl := os hb
 obtain rfl := (lX hl1).symm
 exact hK173 _ _ ⟨v10_1, qf31_1, bf34_2_1, qf169_1, e2, e5, hrv10_1, hrbf34_2_1, hC.sel [3, 5, 6, 7] (by decide), hbK1⟩
 clear hb hC hl1
 rintro E512 w511 ⟨v10_1, qf31_1, bf34_2_1, qf169_1, e2, e5, hrv10_1, hrbf34_2_1, hC, hb⟩
 refine hK170 _ _ ?_
 refine Wc.seq fun K513 hK513 => ?_
 refine rg ?_
 refine lv (.agg #[.slice Akf34_0_0 kf34_0_0.length ckf34_0_0, .slice A26 (((List.replicate z22.toNat (0 : Int))).length) c27, .int .i64 bf34_2_1]) (ld_blk (hC.bx (i := 1) rfl) Try.isAgg28 Try.sizeOf28 e5) ?_
 refine lex.sk (hC.seta (i := 0) (ds := [.slice Akf34_0_0 kf34_0_0.length ckf34_0_0, .slice A26 (((List.replicate z22.toNat (0 : Int))).length) c27, .int .i64 bf34_2_1]) rfl Try.type28 rfl rfl rfl e2 rfl) ?_
 rintro w514 ⟨hC, hF⟩
 refine ln ?_
 refine hK513 _ _ ?_
 obtain rfl := os hb
 refine Wc.ret ?_
 refine hKR _ _ ?_
 refine ⟨_, res1 Try.results17 ⟨_, e2, loadVar_blk (hC.bx (i := 0) rfl) Try.isAgg28 Try.sizeOf28⟩, _, rfl, Akf34_0_0, kf34_0_0.length, ckf34_0_0, A26, ((List.replicate z22.toNat (0 : Int))).length, c27, rfl, hrbf34_2_1, hC.sel [2, 3] (by decide)⟩
end Go.Proofs.Yticemffhlapnnaa
