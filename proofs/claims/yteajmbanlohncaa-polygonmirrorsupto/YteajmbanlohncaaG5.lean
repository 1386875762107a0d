/- The walks: part 5. -/
import Derived.Test.YteajmbanlohncaaS
set_option linter.unusedVariables false
set_option linter.unusedSimpArgs false
namespace Go.Proofs.Yteajmbanlohncaa
open Ev
set_option maxRecDepth 100000 in
set_option maxHeartbeats 4000000 in
theorem gauss_ends_ok (n : Nat) {w : World} {O0 : List Nat} (hO : ∀ k ∈ O0, k < w.heap.size) {Ac_0_0 : Option Addr} {mc_0_0 cc_0_0 : Nat} {c_0_0 : List (List (Int × Bool))} (hc_0_0 : Rep O0 w (.sl (.sl (.pr (.int .i64) .bool))) [.slice Ac_0_0 mc_0_0 cc_0_0] c_0_0) {Ac_0_1 : Option Addr} {mc_0_1 cc_0_1 : Nat} {c_0_1 : List Int} (hc_0_1 : Rep O0 w (.sl (.int .i64)) [.slice Ac_0_1 mc_0_1 cc_0_1] c_0_1) {c_0_2 : Int} (hc_0_2 : I64 c_0_2) {vx_1_0 : Int} (hvx_1_0 : I64 vx_1_0) {vx_1_1 : Bool} {r : Int × Int} (hb : F.gauss_ends n c_0_0 c_0_1 c_0_2 vx_1_0 vx_1_1 = some r) :
    Calls Try.prog 101 #[.agg #[.slice Ac_0_0 mc_0_0 cc_0_0, .slice Ac_0_1 mc_0_1 cc_0_1, .int .i64 c_0_2], .agg #[.int .i64 vx_1_0, .bool vx_1_1]] w fun e w' => ∃ v, e = .returned v ∧ v = .tuple #[.int .i64 r.1, .int .i64 r.2] ∧ I64 r.1 ∧ I64 r.2 ∧ Cx (fun _ => False) O0 w w' [] := by
 unfold F.gauss_ends at hb
 have hC := Cx.start hO
 replace hC := hC.arg rfl hc_0_0
 replace hC := hC.arg rfl hc_0_1
 clear hO
 obtain ⟨rfl, hlc_0_0, hcc_0_0⟩ := hc_0_0.sl_len
 obtain ⟨rfl, hlc_0_1, hcc_0_1⟩ := hc_0_1.sl_len
 refine calls_of_Wc Try.func101 rfl (by rw [Try.ntmps101]; exact Nat.le_of_ble_eq_true rfl) fun KR hKR => ?_
 refine Wc.seq fun K3 hK3 => ?_
 refine rg ?_
 refine lex.op (hC.box (cs := [.slice Ac_0_0 c_0_0.length cc_0_0, .slice Ac_0_1 c_0_1.length cc_0_1, .int .i64 c_0_2]) rfl rfl) ?_
 rintro _ w5 ⟨g4, rfl, hC, hF, hG⟩
 clear hG
 refine lex.op (hC.box (cs := [.int .i64 vx_1_0, .bool vx_1_1]) rfl rfl) ?_
 rintro _ w8 ⟨g7, rfl, hC, hF, hG⟩
 clear hG
 refine lp (.int .i64 0) (pu_assign rfl) ?_
 refine lp (.int .i64 0) (pu_assign rfl) ?_
 refine ln ?_
 refine hK3 _ _ ?_
 refine Wc.seq fun K10 hK10 => ?_
 refine rg ?_
 refine lp (.pointer (some ((⟨g7, 0, none⟩ : Addr).add 0))) (pu_field (sz := 1) Try.underlying119 rfl Try.sizeOf3 (by decide) rfl rfl) ?_
 refine lv (.int .i64 vx_1_0) (ld_fld (hC.bx (i := 0) rfl) Try.isAgg3 rfl rfl) ?_
 obtain ⟨z11, h12, hb⟩ := bd hb
 refine lp (.int .i64 z11) (pu_mulc (a := 4) (b := vx_1_0) rfl rfl h12) ?_
 refine lp (.int .i64 z11) (pu_assign rfl) ?_
 refine ln ?_
 refine hK10 _ _ ?_
 refine Wc.seq fun K13 hK13 => ?_
 refine Wc.block ?_
 refine Wc.seq fun K14 hK14 => ?_
 refine rg ?_
 refine lp (.pointer (some ((⟨g7, 0, none⟩ : Addr).add 1))) (pu_field (sz := 1) Try.underlying119 rfl Try.sizeOf4 (by decide) rfl rfl) ?_
 refine lv (.bool vx_1_1) (ld_fld (hC.bx (i := 0) rfl) Try.isAgg4 rfl rfl) ?_
 refine lp (.bool (!vx_1_1)) (pu_not (q := vx_1_1) rfl) ?_
 refine lp (.bool (!vx_1_1)) (pu_assign rfl) ?_
 refine ln ?_
 refine hK14 _ _ ?_
 refine Wc.fresh fun E15 hE => ?_
 have e2 : E15 2 = .pointer (some ⟨g4, 0, none⟩) := (congrFun hE 2).trans rfl
 have e3 : E15 3 = .pointer (some ⟨g7, 0, none⟩) := (congrFun hE 3).trans rfl
 have e4 : E15 4 = .int .i64 0 := (congrFun hE 4).trans rfl
 have e5 : E15 5 = .int .i64 0 := (congrFun hE 5).trans rfl
 have e6 : E15 6 = .int .i64 z11 := (congrFun hE 6).trans rfl
 have e10 : E15 10 = .bool (!vx_1_1) := (congrFun hE 10).trans rfl
 clear hE
 refine Wc.cond (t := (!vx_1_1)) (e10) (fun hq16 => ?_) (fun hq16 => ?_)
 replace hb := tt hq16 hb
 refine Wc.seq fun K17 hK17 => ?_
 refine rg ?_
 refine lp (.int .i64 z11) (pu_move e6) ?_
 refine lp (.int .i64 z11) (pu_move e6) ?_
 obtain ⟨z18, h19, hb⟩ := bd hb
 refine lp (.int .i64 z18) (pu_addc (a := z11) (b := 2) rfl rfl h19) ?_
 refine lp (.int .i64 z11) (pu_assign rfl) ?_
 refine lp (.int .i64 z18) (pu_assign rfl) ?_
 refine ln ?_
 refine hK17 _ _ ?_
 obtain rfl := os hb
 refine Wc.ret ?_
 refine hKR _ _ ?_
 refine ⟨_, res2 Try.results101 (show RV _ _ _ (.tmp _) (.int .i64 z11) from rfl) (show RV _ _ _ (.tmp _) (.int .i64 z18) from rfl), _, rfl, rfl, (chk_rng h12), (chk_rng h19), hC.sel [] (by decide)⟩
 replace hb := tf hq16 hb
 refine Wc.seq fun K20 hK20 => ?_
 refine rg ?_
 refine lp (.pointer (some ((⟨g4, 0, none⟩ : Addr).add 1))) (pu_field (sz := 1) Try.underlying77 rfl Try.sizeOf30 (by decide) rfl e2) ?_
 refine lv (.slice Ac_0_1 c_0_1.length cc_0_1) (ld_fld (hC.bx (i := 1) rfl) Try.isAgg30 rfl rfl) ?_
 refine lp (.pointer (some ((⟨g7, 0, none⟩ : Addr).add 0))) (pu_field (sz := 1) Try.underlying119 rfl Try.sizeOf3 (by decide) rfl e3) ?_
 refine lv (.int .i64 vx_1_0) (ld_fld (hC.bx (i := 0) rfl) Try.isAgg3 rfl rfl) ?_
 obtain ⟨x21, h22, hb⟩ := bd hb
 obtain ⟨ad23, cs24, hA, hc25, hr26⟩ := hC.elr (i := 2) rfl (get_some h22).2
 subst hA
 refine lp (.pointer (some (ad23.add (vx_1_0.toNat * 1)))) (pu_index (a := vx_1_0) Try.underlying30 Try.sizeOf3 rfl rfl (get_some h22).1) ?_
 obtain ⟨rfl, hr26'⟩ := hr26
 refine lv (.int .i64 x21) (ld_one Try.isAgg3 rfl (hc25 0 _ rfl)) ?_
 refine lp (.bool (decide (x21 = 1))) (pu_eql (k := .i64) (a := x21) (b := 1) rfl rfl) ?_
 refine lp (.bool (decide (x21 = 1))) (pu_assign rfl) ?_
 refine ln ?_
 refine hK20 _ _ ?_
 refine Wc.cond (t := (decide (x21 = 1))) (rfl) (fun hq27 => ?_) (fun hq27 => ?_)
 replace hb := tt hq27 hb
 refine Wc.seq fun K28 hK28 => ?_
 refine rg ?_
 refine lp (.int .i64 z11) (pu_move e6) ?_
 obtain ⟨z29, h30, hb⟩ := bd hb
 refine lp (.int .i64 z29) (pu_addc (a := z11) (b := 3) rfl rfl h30) ?_
 refine lp (.int .i64 z11) (pu_move e6) ?_
 obtain ⟨z31, h32, hb⟩ := bd hb
 refine lp (.int .i64 z31) (pu_addc (a := z11) (b := 1) rfl rfl h32) ?_
 refine lp (.int .i64 z29) (pu_assign rfl) ?_
 refine lp (.int .i64 z31) (pu_assign rfl) ?_
 refine ln ?_
 refine hK28 _ _ ?_
 obtain rfl := os hb
 refine Wc.ret ?_
 refine hKR _ _ ?_
 refine ⟨_, res2 Try.results101 (show RV _ _ _ (.tmp _) (.int .i64 z29) from rfl) (show RV _ _ _ (.tmp _) (.int .i64 z31) from rfl), _, rfl, rfl, (chk_rng h30), (chk_rng h32), hC.sel [] (by decide)⟩
 replace hb := tf hq27 hb
 refine Wc.skip ?_
 refine hK13 _ _ ?_
 refine Wc.seq fun K33 hK33 => ?_
 refine rg ?_
 refine lp (.int .i64 z11) (pu_move e6) ?_
 obtain ⟨z34, h35, hb⟩ := bd hb
 refine lp (.int .i64 z34) (pu_addc (a := z11) (b := 1) rfl rfl h35) ?_
 refine lp (.int .i64 z11) (pu_move e6) ?_
 obtain ⟨z36, h37, hb⟩ := bd hb
 refine lp (.int .i64 z36) (pu_addc (a := z11) (b := 3) rfl rfl h37) ?_
 refine lp (.int .i64 z34) (pu_assign rfl) ?_
 refine lp (.int .i64 z36) (pu_assign rfl) ?_
 refine ln ?_
 refine hK33 _ _ ?_
 obtain rfl := os hb
 refine Wc.ret ?_
 refine hKR _ _ ?_
 refine ⟨_, res2 Try.results101 (show RV _ _ _ (.tmp _) (.int .i64 z34) from rfl) (show RV _ _ _ (.tmp _) (.int .i64 z36) from rfl), _, rfl, rfl, (chk_rng h35), (chk_rng h37), hC.sel [] (by decide)⟩

set_option maxRecDepth 100000 in
set_option maxHeartbeats 4000000 in
theorem gauss_mates_ok (n : Nat) {w : World} {O0 : List Nat} (hO : ∀ k ∈ O0, k < w.heap.size) {Ac_0_0 : Option Addr} {mc_0_0 cc_0_0 : Nat} {c_0_0 : List (List (Int × Bool))} (hc_0_0 : Rep O0 w (.sl (.sl (.pr (.int .i64) .bool))) [.slice Ac_0_0 mc_0_0 cc_0_0] c_0_0) {Ac_0_1 : Option Addr} {mc_0_1 cc_0_1 : Nat} {c_0_1 : List Int} (hc_0_1 : Rep O0 w (.sl (.int .i64)) [.slice Ac_0_1 mc_0_1 cc_0_1] c_0_1) {c_0_2 : Int} (hc_0_2 : I64 c_0_2) {r : (List Int)} (hb : F.gauss_mates n c_0_0 c_0_1 c_0_2 = some r) :
    Calls Try.prog 84 #[.agg #[.slice Ac_0_0 mc_0_0 cc_0_0, .slice Ac_0_1 mc_0_1 cc_0_1, .int .i64 c_0_2]] w fun e w' => ∃ v, e = .returned v ∧ ∃ (A0 : Option Addr) (m0 c0 : Nat), v = .slice A0 m0 c0 ∧ Cx (fun _ => False) O0 w w' [.own 3 (.int .i64) (.slice A0 m0 c0) r] := by
 unfold F.gauss_mates at hb
 have hC := Cx.start hO
 replace hC := hC.arg rfl hc_0_0
 replace hC := hC.arg rfl hc_0_1
 clear hO
 obtain ⟨rfl, hlc_0_0, hcc_0_0⟩ := hc_0_0.sl_len
 obtain ⟨rfl, hlc_0_1, hcc_0_1⟩ := hc_0_1.sl_len
 refine calls_of_Wc Try.func84 rfl (by rw [Try.ntmps84]; exact Nat.le_of_ble_eq_true rfl) fun KR hKR => ?_
 refine Wc.seq fun K3 hK3 => ?_
 refine rg ?_
 refine lex.op (hC.box (cs := [.slice Ac_0_0 c_0_0.length cc_0_0, .slice Ac_0_1 c_0_1.length cc_0_1, .int .i64 c_0_2]) rfl rfl) ?_
 rintro _ w5 ⟨g4, rfl, hC, hF, hG⟩
 clear hG
 refine lp (.slice none 0 0) (pu_assign rfl) ?_
 refine ln ?_
 refine hK3 _ _ ?_
 refine Wc.seq fun K7 hK7 => ?_
 refine rg ?_
 refine lp (.pointer (some ((⟨g4, 0, none⟩ : Addr).add 1))) (pu_field (sz := 1) Try.underlying77 rfl Try.sizeOf30 (by decide) rfl rfl) ?_
 refine lv (.slice Ac_0_1 c_0_1.length cc_0_1) (ld_fld (hC.bx (i := 0) rfl) Try.isAgg30 rfl rfl) ?_
 refine lp (.int .i64 (c_0_1.length : Int)) (pu_len (A := Ac_0_1) (n := c_0_1.length) (m := cc_0_1) Try.underlying30 rfl) ?_
 obtain ⟨z8, h9, hb⟩ := bd hb
 refine lp (.int .i64 z8) (pu_mulc (a := 4) (b := (c_0_1.length : Int)) rfl rfl h9) ?_
 obtain ⟨u10, h11, hb⟩ := bd hb
 refine lex.op (hC.make (s := (.int .i64)) (n := z8) Try.underlying30 Try.type3 rfl rfl rfl rfl rfl (pos_some h11).1 (pos_some h11).2 (by decide)) ?_
 rintro _ w16 ⟨A12, c13, rfl, hl14, hc15, hC, hF, hN⟩
 clear hF hN
 refine lp (.slice A12 (((List.replicate z8.toNat (0 : Int))).length) c13) (pu_assign rfl) ?_
 refine ln ?_
 refine hK7 _ _ ?_
 refine Wc.seq fun K18 hK18 => ?_
 refine Wc.seq fun K19 hK19 => ?_
 refine rg ?_
 refine lp (.pointer (some ((⟨g4, 0, none⟩ : Addr).add 0))) (pu_field (sz := 1) Try.underlying77 rfl Try.sizeOf75 (by decide) rfl rfl) ?_
 refine lv (.slice Ac_0_0 c_0_0.length cc_0_0) (ld_fld (hC.bx (i := 1) rfl) Try.isAgg75 rfl rfl) ?_
 refine lp (.int .i64 (c_0_0.length : Int)) (pu_len (A := Ac_0_0) (n := c_0_0.length) (m := cc_0_0) Try.underlying75 rfl) ?_
 refine lp (.int .i64 0) (pu_move rfl) ?_
 refine ln ?_
 refine hK19 _ _ ?_
 refine Wc.fresh fun E20 hE => ?_
 have e1 : E20 1 = .pointer (some ⟨g4, 0, none⟩) := (congrFun hE 1).trans rfl
 have e2 : E20 2 = .slice none 0 0 := (congrFun hE 2).trans rfl
 have e3 : E20 3 = .slice A12 (((List.replicate z8.toNat (0 : Int))).length) c13 := (congrFun hE 3).trans rfl
 have e18 : E20 18 = .slice Ac_0_0 c_0_0.length cc_0_0 := (congrFun hE 18).trans rfl
 have e19 : E20 19 = .int .i64 (c_0_0.length : Int) := (congrFun hE 19).trans rfl
 have e20 : E20 20 = .int .i64 0 := (congrFun hE 20).trans rfl
 clear hE
 obtain ⟨o21, hl0, hb⟩ := bd hb
 refine Wc.cut (fun E wv => ∃ (v20_0 : Int) (qf17_0 : List Int), E 2 = .slice none 0 0 ∧ E 3 = .slice A12 (((List.replicate z8.toNat (0 : Int))).length) c13 ∧ I64 v20_0 ∧ Cx (fun _ => False) O0 w wv [.own 3 (.int .i64) (.slice A12 (((List.replicate z8.toNat (0 : Int))).length) c13) qf17_0] ∧ (some qf17_0 : Option ((List Int))) = some r) (fun K22 hK22 => ?_) ?_
 refine Wc.block ?_
 refine Wc.loop (fun m E wv => ∃ (v20_0 : Int) (qf17_0 : List Int), E 1 = .pointer (some ⟨g4, 0, none⟩) ∧ E 2 = .slice none 0 0 ∧ E 3 = .slice A12 (((List.replicate z8.toNat (0 : Int))).length) c13 ∧ E 18 = .slice Ac_0_0 c_0_0.length cc_0_0 ∧ E 19 = .int .i64 (c_0_0.length : Int) ∧ E 20 = .int .i64 v20_0 ∧ I64 v20_0 ∧ Cx (fun _ => False) O0 w wv [.box g4 77 [.slice Ac_0_0 c_0_0.length cc_0_0, .slice Ac_0_1 c_0_1.length cc_0_1, .int .i64 c_0_2], .ro (.sl (.sl (.pr (.int .i64) .bool))) [.slice Ac_0_0 c_0_0.length cc_0_0] c_0_0, .ro (.sl (.int .i64)) [.slice Ac_0_1 c_0_1.length cc_0_1] c_0_1, .own 3 (.int .i64) (.slice A12 (((List.replicate z8.toNat (0 : Int))).length) c13) qf17_0] ∧ loopN m (F.gauss_mates_b0 n c_0_0 c_0_1 c_0_2) (v20_0, qf17_0) = some o21) n ⟨0, (List.replicate z8.toNat (0 : Int)), e1, e2, e3, e18, e19, e20, (show I64 0 from by unfold I64; omega), hC.sel [1, 3, 2, 0] (by decide), hl0⟩ ?_
 have hbK0 := hb
 clear hb hC hl0
 rintro m24 E26 w25 ⟨v20_0, qf17_0, e1, e2, e3, e18, e19, e20, hrv20_0, hC, hl0⟩ K23 hK23
 obtain ⟨m24', o27, rfl, hb, hl0⟩ := loopN_some hl0
 unfold F.gauss_mates_b0 at hb
 refine Wc.seq fun K28 hK28 => ?_
 refine rg ?_
 refine lp (.bool (decide (v20_0 < (c_0_0.length : Int)))) (pu_lss (k := .i64) (a := v20_0) (b := (c_0_0.length : Int)) e20 e19) ?_
 refine ln ?_
 refine hK28 _ _ ?_
 refine Wc.seq fun K29 hK29 => ?_
 refine Wc.cond (t := (decide (v20_0 < (c_0_0.length : Int)))) (rfl) (fun hq30 => ?_) (fun hq30 => ?_)
 replace hb := tt hq30 hb
 refine Wc.skip ?_
 refine hK29 _ _ ?_
 refine Wc.seq fun K31 hK31 => ?_
 refine Wc.block ?_
 refine Wc.seq fun K32 hK32 => ?_
 refine rg ?_
 obtain ⟨x33, h34, hb⟩ := bd hb
 obtain ⟨ad35, cs36, hA, hc37, hr38⟩ := hC.elr (i := 1) rfl (get_some h34).2
 subst hA
 refine lp (.pointer (some (ad35.add (v20_0.toNat * 1)))) (pu_index (a := v20_0) Try.underlying75 Try.sizeOf116 e18 e20 (get_some h34).1) ?_
 have hR := hr38
 obtain ⟨A39, c40, rfl, hl41, hc42, _⟩ := hr38
 replace hC := hC.ro hR
 clear hR
 refine lv (.slice A39 x33.length c40) (ld_one Try.isAgg116 rfl (hc37 0 _ rfl)) ?_
 refine lp (.slice A39 x33.length c40) (pu_assign rfl) ?_
 refine ln ?_
 refine hK32 _ _ ?_
 refine Wc.seq fun K44 hK44 => ?_
 refine rg ?_
 refine lp (.slice A39 x33.length c40) (pu_move rfl) ?_
 refine lp (.int .i64 (x33.length : Int)) (pu_len (A := A39) (n := x33.length) (m := c40) Try.underlying116 rfl) ?_
 refine lp (.int .i64 0) (pu_move rfl) ?_
 refine ln ?_
 refine hK44 _ _ ?_
 obtain ⟨o45, hl1, hb⟩ := bd hb
 refine Wc.cut (fun E wv => ∃ (v26_1 : Int) (qf17_1 : List Int), E 1 = .pointer (some ⟨g4, 0, none⟩) ∧ E 2 = .slice none 0 0 ∧ E 3 = .slice A12 (((List.replicate z8.toNat (0 : Int))).length) c13 ∧ E 5 = .slice A39 x33.length c40 ∧ E 18 = .slice (some ad35) c_0_0.length cc_0_0 ∧ E 19 = .int .i64 (c_0_0.length : Int) ∧ E 20 = .int .i64 v20_0 ∧ E 21 = .bool (decide (v20_0 < (c_0_0.length : Int))) ∧ E 24 = .slice A39 x33.length c40 ∧ E 25 = .int .i64 (x33.length : Int) ∧ E 26 = .int .i64 v26_1 ∧ I64 v26_1 ∧ Cx (fun _ => False) O0 w wv [.box g4 77 [.slice (some ad35) c_0_0.length cc_0_0, .slice Ac_0_1 c_0_1.length cc_0_1, .int .i64 c_0_2], .ro (.sl (.sl (.pr (.int .i64) .bool))) [.slice (some ad35) c_0_0.length cc_0_0] c_0_0, .ro (.sl (.int .i64)) [.slice Ac_0_1 c_0_1.length cc_0_1] c_0_1, .own 3 (.int .i64) (.slice A12 (((List.replicate z8.toNat (0 : Int))).length) c13) qf17_1, .ro (.sl (.pr (.int .i64) .bool)) [.slice A39 x33.length c40] x33] ∧ ((chk (v20_0 + 1)).bind fun z121 => some (.inl (z121, qf17_1)) : Option ((Int × (List Int)) ⊕ ((Int × (List Int))))) = some o27) (fun K46 hK46 => ?_) ?_
 refine Wc.block ?_
 refine Wc.loop (fun m E wv => ∃ (v26_1 : Int) (qf17_1 : List Int), E 1 = .pointer (some ⟨g4, 0, none⟩) ∧ E 2 = .slice none 0 0 ∧ E 3 = .slice A12 (((List.replicate z8.toNat (0 : Int))).length) c13 ∧ E 5 = .slice A39 x33.length c40 ∧ E 18 = .slice (some ad35) c_0_0.length cc_0_0 ∧ E 19 = .int .i64 (c_0_0.length : Int) ∧ E 20 = .int .i64 v20_0 ∧ E 21 = .bool (decide (v20_0 < (c_0_0.length : Int))) ∧ E 24 = .slice A39 x33.length c40 ∧ E 25 = .int .i64 (x33.length : Int) ∧ E 26 = .int .i64 v26_1 ∧ I64 v26_1 ∧ Cx (fun _ => False) O0 w wv [.box g4 77 [.slice (some ad35) c_0_0.length cc_0_0, .slice Ac_0_1 c_0_1.length cc_0_1, .int .i64 c_0_2], .ro (.sl (.sl (.pr (.int .i64) .bool))) [.slice (some ad35) c_0_0.length cc_0_0] c_0_0, .ro (.sl (.int .i64)) [.slice Ac_0_1 c_0_1.length cc_0_1] c_0_1, .own 3 (.int .i64) (.slice A12 (((List.replicate z8.toNat (0 : Int))).length) c13) qf17_1, .ro (.sl (.pr (.int .i64) .bool)) [.slice A39 x33.length c40] x33] ∧ loopN m (F.gauss_mates_b1 n c_0_0 c_0_1 c_0_2 x33) (v26_1, qf17_1) = some o45) n ⟨0, qf17_0, e1, e2, e3, rfl, e18, e19, e20, rfl, rfl, rfl, rfl, (show I64 0 from by unfold I64; omega), hC.sel [1, 2, 3, 4, 0] (by decide), hl1⟩ ?_
 have hbK1 := hb
 clear hb hC hl1
 rintro m48 E50 w49 ⟨v26_1, qf17_1, e1, e2, e3, e5, e18, e19, e20, e21, e24, e25, e26, hrv26_1, hC, hl1⟩ K47 hK47
 obtain ⟨m48', o51, rfl, hb, hl1⟩ := loopN_some hl1
 unfold F.gauss_mates_b1 at hb
 refine Wc.seq fun K52 hK52 => ?_
 refine rg ?_
 refine lp (.bool (decide (v26_1 < (x33.length : Int)))) (pu_lss (k := .i64) (a := v26_1) (b := (x33.length : Int)) e26 e25) ?_
 refine ln ?_
 refine hK52 _ _ ?_
 refine Wc.seq fun K53 hK53 => ?_
 refine Wc.cond (t := (decide (v26_1 < (x33.length : Int)))) (rfl) (fun hq54 => ?_) (fun hq54 => ?_)
 replace hb := tt hq54 hb
 refine Wc.skip ?_
 refine hK53 _ _ ?_
 refine Wc.seq fun K55 hK55 => ?_
 refine Wc.block ?_
 refine Wc.seq fun K56 hK56 => ?_
 refine rg ?_
 refine lp (.int .i64 v26_1) (pu_move e26) ?_
 obtain ⟨x57, h58, hb⟩ := bd hb
 obtain ⟨ad59, cs60, hA, hc61, hr62⟩ := hC.elr (i := 4) rfl (get_some h58).2
 subst hA
 refine lp (.pointer (some (ad59.add (v26_1.toNat * 2)))) (pu_index (a := v26_1) Try.underlying116 Try.sizeOf119 e24 e26 (get_some h58).1) ?_
 obtain ⟨k63, k64, rfl, hr65, hr66⟩ := hr62
 obtain ⟨rfl, hr65⟩ := hr65
 obtain rfl := (show _ = _ from hr66)
 refine lv (.agg #[.int .i64 x57.1, .bool x57.2]) (ld_agg Try.isAgg119 Try.sizeOf119 rfl rfl hc61) ?_
 refine lex.op (hC.alloc (cs := [.int .i64 0, .bool false]) Try.zeroValue119 rfl) ?_
 rintro _ w68 ⟨g67, rfl, hC, hF, hG⟩
 clear hG
 refine lp (.int .i64 v26_1) (pu_assign rfl) ?_
 refine lex.sk (hC.seta (i := 0) (ds := [.int .i64 x57.1, .bool x57.2]) rfl Try.type119 rfl rfl rfl rfl rfl) ?_
 rintro w70 ⟨hC, hF⟩
 refine ln ?_
 refine hK56 _ _ ?_
 refine Wc.seq fun K71 hK71 => ?_
 refine rg ?_
 refine lv (.agg #[.slice (some ad35) c_0_0.length cc_0_0, .slice Ac_0_1 c_0_1.length cc_0_1, .int .i64 c_0_2]) (ld_blk (hC.bx (i := 1) rfl) Try.isAgg77 Try.sizeOf77 e1) ?_
 refine lv (.agg #[.int .i64 x57.1, .bool x57.2]) (ld_blk (hC.bx (i := 0) rfl) Try.isAgg119 Try.sizeOf119 rfl) ?_
 obtain ⟨y72, h73, hb⟩ := bd hb
 refine lex.cl (⟨_, _, op_call (vs := [.agg #[.slice (some ad35) c_0_0.length cc_0_0, .slice Ac_0_1 c_0_1.length cc_0_1, .int .i64 c_0_2], .agg #[.int .i64 x57.1, .bool x57.2]]) Try.call101 rfl rfl rfl, gauss_ends_ok n hC.lt (hC.rd (i := 2) rfl) (hC.rd (i := 3) rfl) hc_0_2 (wrap_I64 hr65) h73⟩) ?_
 rintro _ w76 ⟨rfl, hr74, hr75, hK⟩
 replace hC := hC.merge hK
 clear hK
 refine lp (.tuple #[.int .i64 y72.1, .int .i64 y72.2]) (pu_move rfl) ?_
 refine lp (.int .i64 y72.1) (pu_extract rfl rfl) ?_
 refine lp (.int .i64 y72.2) (pu_extract rfl rfl) ?_
 refine lp (.int .i64 y72.1) (pu_assign rfl) ?_
 refine lp (.int .i64 y72.2) (pu_assign rfl) ?_
 refine ln ?_
 refine hK71 _ _ ?_
 refine Wc.fresh fun E77 hE => ?_
 have e1 := (congrFun hE 1).trans e1
 have e2 := (congrFun hE 2).trans e2
 have e3 := (congrFun hE 3).trans e3
 have e5 := (congrFun hE 5).trans e5
 have e6 : E77 6 = .int .i64 v26_1 := (congrFun hE 6).trans rfl
 have e7 : E77 7 = .pointer (some ⟨g67, 0, none⟩) := (congrFun hE 7).trans rfl
 have e9 : E77 9 = .int .i64 y72.2 := (congrFun hE 9).trans rfl
 have e18 := (congrFun hE 18).trans e18
 have e19 := (congrFun hE 19).trans e19
 have e20 := (congrFun hE 20).trans e20
 have e21 := (congrFun hE 21).trans e21
 have e24 := (congrFun hE 24).trans e24
 have e25 := (congrFun hE 25).trans e25
 have e26 := (congrFun hE 26).trans e26
 have e27 : E77 27 = .bool (decide (v26_1 < (x33.length : Int))) := (congrFun hE 27).trans rfl
 clear hE
 refine Wc.seq fun K78 hK78 => ?_
 refine Wc.regionMix [] (frm [] ([] : List Fact) ([] : List Fact)) (fun _ => rfl) mixed (by decide +kernel) (by decide +kernel) fun w80 hw79 => ?_
 replace hC := hC.step (Fr.of_drew hw79)
 have hM := Fr.refl (fun k => k ∈ blocks ([] : List Fact)) w80
 clear hw79
 have hS := hC
 refine mixE.load hM (v := .agg #[.slice (some ad35) c_0_0.length cc_0_0, .slice Ac_0_1 c_0_1.length cc_0_1, .int .i64 c_0_2]) (fun _ hF => ld_blk (hS.bx2 (i := 1) rfl [] (by decide) hF) Try.isAgg77 Try.sizeOf77 e1) ?_
 refine mp (.slice (some ad59) x33.length c40) (pu_move e5) ?_
 refine mp (.int .i64 v26_1) (pu_move e6) ?_
 obtain ⟨z81, h82, hb⟩ := bd hb
 refine mp (.int .i64 z81) (pu_addc (a := v26_1) (b := 1) rfl rfl h82) ?_
 refine mp (.slice (some ad59) x33.length c40) (pu_move e5) ?_
 refine mp (.int .i64 (x33.length : Int)) (pu_len (A := (some ad59)) (n := x33.length) (m := c40) Try.underlying116 rfl) ?_
 obtain ⟨u83, h84, hb⟩ := bd hb
 refine mp (.int .i64 (Int.tmod z81 (x33.length : Int))) (pu_remc (a := z81) (b := (x33.length : Int)) rfl rfl h84) ?_
 obtain ⟨x85, h86, hb⟩ := bd hb
 obtain ⟨ad87, cs88, hA, ho91, hc89, hr90⟩ := hS.elr2 (i := 5) rfl (get_some h86).2 []
 obtain rfl := Option.some.inj hA
 refine mp (.pointer (some (ad59.add ((Int.tmod z81 (x33.length : Int)).toNat * 2)))) (pu_index (a := (Int.tmod z81 (x33.length : Int))) Try.underlying116 Try.sizeOf119 rfl rfl (get_some h86).1) ?_
 obtain ⟨k92, k93, rfl, hr94, hr95⟩ := hr90
 obtain ⟨rfl, hr94⟩ := hr94
 obtain rfl := (show _ = _ from hr95)
 refine mixE.load hM (v := .agg #[.int .i64 x85.1, .bool x85.2]) (fun _ hF => ld_agg Try.isAgg119 Try.sizeOf119 rfl rfl (fun j u hu => hF.cell (hc89 j u hu) (off2 ho91))) ?_
 obtain ⟨y96, h97, hb⟩ := bd hb
 refine mixE.cl hM (⟨_, _, op_call (vs := [.agg #[.slice (some ad35) c_0_0.length cc_0_0, .slice Ac_0_1 c_0_1.length cc_0_1, .int .i64 c_0_2], .agg #[.int .i64 x85.1, .bool x85.2]]) Try.call101 rfl rfl rfl, gauss_ends_ok n hC.lt (hC.rd (i := 2) rfl) (hC.rd (i := 3) rfl) hc_0_2 (wrap_I64 hr94) h97⟩) ?_
 rintro _ w100 ⟨rfl, hr98, hr99, hK⟩
 replace hM := hM.none hK.fr
 refine ⟨hM, ?_⟩
 replace hC := hC.merge hK
 clear hK
 refine mp (.tuple #[.int .i64 y96.1, .int .i64 y96.2]) (pu_move rfl) ?_
 refine mp (.int .i64 y96.1) (pu_extract rfl rfl) ?_
 refine mp (.int .i64 y96.2) (pu_extract rfl rfl) ?_
 refine mp (.int .i64 y96.1) (pu_assign rfl) ?_
 refine mp (.int .i64 y96.2) (pu_assign rfl) ?_
 refine mixE.nil ?_
 clear hS hM
 refine hK78 _ _ ?_
 refine Wc.fresh fun E101 hE => ?_
 have e1 := (congrFun hE 1).trans e1
 have e2 := (congrFun hE 2).trans e2
 have e3 := (congrFun hE 3).trans e3
 have e5 := (congrFun hE 5).trans e5
 have e6 := (congrFun hE 6).trans e6
 have e7 := (congrFun hE 7).trans e7
 have e9 := (congrFun hE 9).trans e9
 have e10 : E101 10 = .int .i64 y96.1 := (congrFun hE 10).trans rfl
 have e18 := (congrFun hE 18).trans e18
 have e19 := (congrFun hE 19).trans e19
 have e20 := (congrFun hE 20).trans e20
 have e21 := (congrFun hE 21).trans e21
 have e24 := (congrFun hE 24).trans e24
 have e25 := (congrFun hE 25).trans e25
 have e26 := (congrFun hE 26).trans e26
 have e27 := (congrFun hE 27).trans e27
 clear hE
 refine Wc.seq fun K102 hK102 => ?_
 refine rg ?_
 refine lp (.slice A12 (((List.replicate z8.toNat (0 : Int))).length) c13) (pu_move e3) ?_
 refine lp (.int .i64 y72.2) (pu_move e9) ?_
 refine lp (.int .i64 y96.1) (pu_move e10) ?_
 obtain ⟨x103, h104, hb⟩ := bd hb
 obtain ⟨ad105, cs106, hA, hc107, hr108⟩ := hC.elo (i := 4) rfl (get_some h104).2
 subst hA
 refine lp (.pointer (some (ad105.add (y72.2.toNat * 1)))) (pu_index (a := y72.2) Try.underlying30 Try.sizeOf3 rfl rfl (by rw [(hC.ow (i := 4) rfl).sl_len.1]; exact (get_some h104).1)) ?_
 refine lex.sk (hC.put (i := 4) rfl rfl Try.sizeOf3 (k := y72.2.toNat) (a := y96.1) (by have := (get_some h104).1; simp at this ⊢; omega) (⟨rfl, I64.wr hr98⟩) rfl rfl rfl) ?_
 rintro w109 ⟨hC, hF⟩
 refine ln ?_
 refine hK102 _ _ ?_
 refine rg ?_
 refine lp (.slice (some ad105) (((List.replicate z8.toNat (0 : Int))).length) c13) (pu_move e3) ?_
 refine lp (.int .i64 y96.1) (pu_move e10) ?_
 refine lp (.int .i64 y72.2) (pu_move e9) ?_
 obtain ⟨x110, h111, hb⟩ := bd hb
 obtain ⟨ad112, cs113, hA, hc114, hr115⟩ := hC.elo (i := 4) rfl (get_some h111).2
 obtain rfl := Option.some.inj hA
 refine lp (.pointer (some (ad105.add (y96.1.toNat * 1)))) (pu_index (a := y96.1) Try.underlying30 Try.sizeOf3 rfl rfl (by rw [(hC.ow (i := 4) rfl).sl_len.1]; exact (get_some h111).1)) ?_
 refine lex.sk (hC.put (i := 4) rfl rfl Try.sizeOf3 (k := y96.1.toNat) (a := y72.2) (by have := (get_some h111).1; simp at this ⊢; omega) (⟨rfl, I64.wr hr75⟩) rfl rfl rfl) ?_
 rintro w116 ⟨hC, hF⟩
 refine ln ?_
 refine hK55 _ _ ?_
 refine rg ?_
 obtain ⟨z117, h118, hb⟩ := bd hb
 refine lp (.int .i64 z117) (pu_addc (a := v26_1) (b := 1) e26 rfl h118) ?_
 refine lp (.int .i64 z117) (pu_move rfl) ?_
 refine ln ?_
 obtain rfl := os hb
 exact hK47 m48' _ _ (Nat.lt_succ_self _) ⟨z117, ((qf17_1.set y72.2.toNat y96.1).set y96.1.toNat y72.2), e1, e2, e3, e5, e18, e19, e20, e21, e24, e25, rfl, (chk_rng h118), hC.sel [1, 2, 3, 4, 5] (by decide), lN hl1⟩
 replace hb := tf hq54 hb
 refine Wc.exit rfl ?_
 obtain rfl := os hb
 obtain rfl := (lX hl1).symm
 exact hK46 _ _ ⟨v26_1, qf17_1, e1, e2, e3, e5, e18, e19, e20, e21, e24, e25, e26, hrv26_1, hC.sel [0, 1, 2, 3, 4] (by decide), hbK1⟩
 clear hb hC hl1
 rintro E120 w119 ⟨v26_1, qf17_1, e1, e2, e3, e5, e18, e19, e20, e21, e24, e25, e26, hrv26_1, hC, hb⟩
 refine hK31 _ _ ?_
 refine rg ?_
 obtain ⟨z121, h122, hb⟩ := bd hb
 refine lp (.int .i64 z121) (pu_addc (a := v20_0) (b := 1) e20 rfl h122) ?_
 refine lp (.int .i64 z121) (pu_move rfl) ?_
 refine ln ?_
 obtain rfl := os hb
 exact hK23 m24' _ _ (Nat.lt_succ_self _) ⟨z121, qf17_1, e1, e2, e3, e18, e19, rfl, (chk_rng h122), hC.sel [0, 1, 2, 3] (by decide), lN hl0⟩
 replace hb := tf hq30 hb
 refine Wc.exit rfl ?_
 obtain rfl := os hb
 obtain rfl := (lX hl0).symm
 exact hK22 _ _ ⟨v20_0, qf17_0, e2, e3, hrv20_0, hC.sel [3] (by decide), hbK0⟩
 clear hb hC hl0
 rintro E124 w123 ⟨v20_0, qf17_0, e2, e3, hrv20_0, hC, hb⟩
 refine hK18 _ _ ?_
 refine Wc.seq fun K125 hK125 => ?_
 refine rg ?_
 refine lp (.slice A12 (((List.replicate z8.toNat (0 : Int))).length) c13) (pu_move e3) ?_
 refine lp (.slice A12 (((List.replicate z8.toNat (0 : Int))).length) c13) (pu_assign rfl) ?_
 refine ln ?_
 refine hK125 _ _ ?_
 obtain rfl := os hb
 refine Wc.ret ?_
 refine hKR _ _ ?_
 refine ⟨_, res1 Try.results84 (show RV _ _ _ (.tmp _) (.slice A12 (((List.replicate z8.toNat (0 : Int))).length) c13) from rfl), _, rfl, A12, ((List.replicate z8.toNat (0 : Int))).length, c13, rfl, hC.sel [0] (by decide)⟩

set_option maxRecDepth 100000 in
set_option maxHeartbeats 4000000 in
theorem diagram_Turn_ok (n : Nat) {w : World} {O0 : List Nat} (hO : ∀ k ∈ O0, k < w.heap.size) {h_0 : Int} (hh_0 : I64 h_0) {by_1 : Int} (hby_1 : I64 by_1) {r : Int} (hb : F.diagram_Turn n h_0 by_1 = some r) :
    Calls Try.prog 89 #[.int .i64 h_0, .int .i64 by_1] w fun e w' => ∃ v, e = .returned v ∧ v = .int .i64 r ∧ I64 r ∧ Cx (fun _ => False) O0 w w' [] := by
 unfold F.diagram_Turn at hb
 have hC := Cx.start hO
 clear hO
 refine calls_of_Wc Try.func89 rfl (by rw [Try.ntmps89]; exact Nat.le_of_ble_eq_true rfl) fun KR hKR => ?_
 refine Wc.seq fun K1 hK1 => ?_
 refine rg ?_
 refine lp (.int .i64 0) (pu_assign rfl) ?_
 refine ln ?_
 refine hK1 _ _ ?_
 refine Wc.seq fun K2 hK2 => ?_
 refine Wc.seq fun K3 hK3 => ?_
 refine rg ?_
 refine lp (.int .i64 h_0) (pu_move rfl) ?_
 refine lp (.bool (decide (h_0 < 0))) (pu_lss (k := .i64) (a := h_0) (b := 0) rfl rfl) ?_
 refine ln ?_
 refine hK3 _ _ ?_
 refine Wc.cond (t := (decide (h_0 < 0))) (rfl) (fun hq4 => ?_) (fun hq4 => ?_)
 replace hb := tt hq4 hb
 refine Wc.seq fun K5 hK5 => ?_
 refine rg ?_
 refine lp (.int .i64 (-1)) (pu_assign rfl) ?_
 refine ln ?_
 refine hK5 _ _ ?_
 obtain rfl := os hb
 refine Wc.ret ?_
 refine hKR _ _ ?_
 refine ⟨_, res1 Try.results89 (show RV _ _ _ (.tmp _) (.int .i64 (-1)) from rfl), _, rfl, rfl, (show I64 (-1) from by unfold I64; omega), hC.sel [] (by decide)⟩
 replace hb := tf hq4 hb
 refine Wc.skip ?_
 refine hK2 _ _ ?_
 refine Wc.seq fun K6 hK6 => ?_
 refine rg ?_
 refine lp (.int .i64 h_0) (pu_move rfl) ?_
 refine lp (.int .i64 h_0) (pu_move rfl) ?_
 obtain ⟨u7, h8, hb⟩ := bd hb
 refine lp (.int .i64 (Int.tmod h_0 4)) (pu_remc (a := h_0) (b := 4) rfl rfl h8) ?_
 obtain ⟨z9, h10, hb⟩ := bd hb
 refine lp (.int .i64 z9) (pu_subc (a := h_0) (b := (Int.tmod h_0 4)) rfl rfl h10) ?_
 refine lp (.int .i64 h_0) (pu_move rfl) ?_
 obtain ⟨u11, h12, hb⟩ := bd hb
 refine lp (.int .i64 (Int.tmod h_0 4)) (pu_remc (a := h_0) (b := 4) rfl rfl h12) ?_
 refine lp (.int .i64 by_1) (pu_move rfl) ?_
 obtain ⟨u13, h14, hb⟩ := bd hb
 refine lp (.int .i64 (Int.tmod by_1 4)) (pu_remc (a := by_1) (b := 4) rfl rfl h14) ?_
 obtain ⟨z15, h16, hb⟩ := bd hb
 refine lp (.int .i64 z15) (pu_addc (a := (Int.tmod h_0 4)) (b := (Int.tmod by_1 4)) rfl rfl h16) ?_
 obtain ⟨z17, h18, hb⟩ := bd hb
 refine lp (.int .i64 z17) (pu_addc (a := z15) (b := 4) rfl rfl h18) ?_
 obtain ⟨u19, h20, hb⟩ := bd hb
 refine lp (.int .i64 (Int.tmod z17 4)) (pu_remc (a := z17) (b := 4) rfl rfl h20) ?_
 obtain ⟨z21, h22, hb⟩ := bd hb
 refine lp (.int .i64 z21) (pu_addc (a := z9) (b := (Int.tmod z17 4)) rfl rfl h22) ?_
 refine lp (.int .i64 z21) (pu_assign rfl) ?_
 refine ln ?_
 refine hK6 _ _ ?_
 obtain rfl := os hb
 refine Wc.ret ?_
 refine hKR _ _ ?_
 refine ⟨_, res1 Try.results89 (show RV _ _ _ (.tmp _) (.int .i64 z21) from rfl), _, rfl, rfl, (chk_rng h22), hC.sel [] (by decide)⟩

set_option maxRecDepth 100000 in
set_option maxHeartbeats 4000000 in
theorem gauss_genus_ok (n : Nat) {w : World} {O0 : List Nat} (hO : ∀ k ∈ O0, k < w.heap.size) {Amate_0 : Option Addr} {mmate_0 cmate_0 : Nat} {mate_0 : List Int} (hmate_0 : Rep O0 w (.sl (.int .i64)) [.slice Amate_0 mmate_0 cmate_0] mate_0) {r : Int} (hb : F.gauss_genus n mate_0 = some r) :
    Calls Try.prog 85 #[.slice Amate_0 mmate_0 cmate_0] w fun e w' => ∃ v, e = .returned v ∧ v = .int .i64 r ∧ I64 r ∧ Cx (fun _ => False) O0 w w' [] := by
 unfold F.gauss_genus at hb
 have hC := Cx.start hO
 replace hC := hC.arg rfl hmate_0
 clear hO
 obtain ⟨rfl, hlmate_0, hcmate_0⟩ := hmate_0.sl_len
 refine calls_of_Wc Try.func85 rfl (by rw [Try.ntmps85]; exact Nat.le_of_ble_eq_true rfl) fun KR hKR => ?_
 refine Wc.seq fun K2 hK2 => ?_
 refine rg ?_
 refine lp (.int .i64 0) (pu_assign rfl) ?_
 refine ln ?_
 refine hK2 _ _ ?_
 refine Wc.seq fun K3 hK3 => ?_
 refine rg ?_
 refine lp (.slice Amate_0 mate_0.length cmate_0) (pu_move rfl) ?_
 refine lp (.int .i64 (mate_0.length : Int)) (pu_len (A := Amate_0) (n := mate_0.length) (m := cmate_0) Try.underlying30 rfl) ?_
 obtain ⟨u4, h5, hb⟩ := bd hb
 obtain ⟨z6, h7, hb⟩ := bd hb
 refine lp (.int .i64 z6) (pu_quoc (a := (mate_0.length : Int)) (b := 4) rfl rfl h5 h7) ?_
 refine lp (.int .i64 z6) (pu_assign rfl) ?_
 refine ln ?_
 refine hK3 _ _ ?_
 refine Wc.seq fun K8 hK8 => ?_
 refine rg ?_
 refine lp (.int .i64 0) (pu_assign rfl) ?_
 refine lp (.int .i64 0) (pu_assign rfl) ?_
 refine ln ?_
 refine hK8 _ _ ?_
 refine Wc.seq fun K9 hK9 => ?_
 refine rg ?_
 refine lp (.slice Amate_0 mate_0.length cmate_0) (pu_move rfl) ?_
 refine lp (.int .i64 (mate_0.length : Int)) (pu_len (A := Amate_0) (n := mate_0.length) (m := cmate_0) Try.underlying30 rfl) ?_
 obtain ⟨u10, h11, hb⟩ := bd hb
 refine lex.op (hC.make (s := .bool) (n := (mate_0.length : Int)) Try.underlying122 Try.type4 rfl rfl rfl rfl rfl (pos_some h11).1 (pos_some h11).2 (by decide)) ?_
 rintro _ w16 ⟨A12, c13, rfl, hl14, hc15, hC, hF, hN⟩
 clear hF hN
 refine lp (.slice A12 (((List.replicate (mate_0.length : Int).toNat false)).length) c13) (pu_assign rfl) ?_
 refine ln ?_
 refine hK9 _ _ ?_
 refine Wc.fresh fun E18 hE => ?_
 have e0 : E18 0 = .slice Amate_0 mate_0.length cmate_0 := (congrFun hE 0).trans rfl
 have e2 : E18 2 = .int .i64 0 := (congrFun hE 2).trans rfl
 have e3 : E18 3 = .int .i64 z6 := (congrFun hE 3).trans rfl
 have e4 : E18 4 = .int .i64 0 := (congrFun hE 4).trans rfl
 have e5 : E18 5 = .int .i64 0 := (congrFun hE 5).trans rfl
 have e6 : E18 6 = .slice A12 (((List.replicate (mate_0.length : Int).toNat false)).length) c13 := (congrFun hE 6).trans rfl
 clear hE
 refine Wc.seq fun K19 hK19 => ?_
 refine Wc.seq fun K20 hK20 => ?_
 refine rg ?_
 refine lp (.slice Amate_0 mate_0.length cmate_0) (pu_move e0) ?_
 refine lp (.int .i64 (mate_0.length : Int)) (pu_len (A := Amate_0) (n := mate_0.length) (m := cmate_0) Try.underlying30 rfl) ?_
 refine lp (.int .i64 0) (pu_move rfl) ?_
 refine ln ?_
 refine hK20 _ _ ?_
 obtain ⟨o21, hl0, hb⟩ := bd hb
 refine Wc.cut (fun E wv => ∃ (v4_0 : Int) (v23_0 : Int) (qf17_0 : List Bool), E 0 = .slice Amate_0 mate_0.length cmate_0 ∧ E 2 = .int .i64 0 ∧ E 3 = .int .i64 z6 ∧ E 4 = .int .i64 v4_0 ∧ E 5 = .int .i64 0 ∧ I64 v4_0 ∧ I64 v23_0 ∧ Cx (fun _ => False) O0 w wv [.ro (.sl (.int .i64)) [.slice Amate_0 mate_0.length cmate_0] mate_0] ∧ ((pos z6).bind fun u90 => ((loopN n (F.gauss_genus_b2 n mate_0 z6) (0, 0, (List.replicate z6.toNat false))).bind fun o100 => match o100 with     | (v5_2, v50_2, qf97_2) => (chk (2 * v5_2)).bind fun z240 => (chk (z240 + z6)).bind fun z242 => (chk (z242 - v4_0)).bind fun z244 => (nz 2).bind fun u246 => (chk (Int.tdiv z244 2)).bind fun z248 => some z248) : Option (Int)) = some r) (fun K22 hK22 => ?_) ?_
 refine Wc.block ?_
 refine Wc.loop (fun m E wv => ∃ (v4_0 : Int) (v23_0 : Int) (qf17_0 : List Bool), E 0 = .slice Amate_0 mate_0.length cmate_0 ∧ E 2 = .int .i64 0 ∧ E 3 = .int .i64 z6 ∧ E 4 = .int .i64 v4_0 ∧ E 5 = .int .i64 0 ∧ E 6 = .slice A12 (((List.replicate (mate_0.length : Int).toNat false)).length) c13 ∧ E 22 = .int .i64 (mate_0.length : Int) ∧ E 23 = .int .i64 v23_0 ∧ I64 v4_0 ∧ I64 v23_0 ∧ Cx (fun _ => False) O0 w wv [.ro (.sl (.int .i64)) [.slice Amate_0 mate_0.length cmate_0] mate_0, .own 4 .bool (.slice A12 (((List.replicate (mate_0.length : Int).toNat false)).length) c13) qf17_0] ∧ loopN m (F.gauss_genus_b0 n mate_0) (v4_0, v23_0, qf17_0) = some o21) n ⟨0, 0, (List.replicate (mate_0.length : Int).toNat false), e0, e2, e3, e4, e5, e6, rfl, rfl, (show I64 0 from by unfold I64; omega), (show I64 0 from by unfold I64; omega), hC.sel [1, 0] (by decide), hl0⟩ ?_
 have hbK0 := hb
 clear hb hC hl0
 rintro m24 E26 w25 ⟨v4_0, v23_0, qf17_0, e0, e2, e3, e4, e5, e6, e22, e23, hrv4_0, hrv23_0, hC, hl0⟩ K23 hK23
 obtain ⟨m24', o27, rfl, hb, hl0⟩ := loopN_some hl0
 unfold F.gauss_genus_b0 at hb
 refine Wc.seq fun K28 hK28 => ?_
 refine rg ?_
 refine lp (.bool (decide (v23_0 < (mate_0.length : Int)))) (pu_lss (k := .i64) (a := v23_0) (b := (mate_0.length : Int)) e23 e22) ?_
 refine ln ?_
 refine hK28 _ _ ?_
 refine Wc.seq fun K29 hK29 => ?_
 refine Wc.cond (t := (decide (v23_0 < (mate_0.length : Int)))) (rfl) (fun hq30 => ?_) (fun hq30 => ?_)
 replace hb := tt hq30 hb
 refine Wc.skip ?_
 refine hK29 _ _ ?_
 refine Wc.seq fun K31 hK31 => ?_
 refine Wc.block ?_
 refine Wc.seq fun K32 hK32 => ?_
 refine rg ?_
 refine lp (.int .i64 v23_0) (pu_move e23) ?_
 refine lp (.int .i64 v23_0) (pu_assign rfl) ?_
 refine ln ?_
 refine hK32 _ _ ?_
 refine Wc.seq fun K33 hK33 => ?_
 refine Wc.seq fun K34 hK34 => ?_
 refine rg ?_
 refine lp (.slice A12 (((List.replicate (mate_0.length : Int).toNat false)).length) c13) (pu_move e6) ?_
 refine lp (.int .i64 v23_0) (pu_move rfl) ?_
 obtain ⟨x35, h36, hb⟩ := bd hb
 obtain ⟨ad37, cs38, hA, hc39, hr40⟩ := hC.elo (i := 1) rfl (get_some h36).2
 subst hA
 refine lp (.pointer (some (ad37.add (v23_0.toNat * 1)))) (pu_index (a := v23_0) Try.underlying122 Try.sizeOf4 rfl rfl (by rw [(hC.ow (i := 1) rfl).sl_len.1]; exact (get_some h36).1)) ?_
 obtain rfl := (show _ = _ from hr40)
 refine lv (.bool x35) (ld_one Try.isAgg4 rfl (hc39 0 _ rfl)) ?_
 refine ln ?_
 refine hK34 _ _ ?_
 refine Wc.cond (t := x35) (rfl) (fun hq41 => ?_) (fun hq41 => ?_)
 replace hb := tt hq41 hb
 refine Wc.exit rfl ?_
 refine hK31 _ _ ?_
 refine rg ?_
 obtain ⟨z42, h43, hb⟩ := bd hb
 refine lp (.int .i64 z42) (pu_addc (a := v23_0) (b := 1) e23 rfl h43) ?_
 refine lp (.int .i64 z42) (pu_move rfl) ?_
 refine ln ?_
 obtain rfl := os hb
 exact hK23 m24' _ _ (Nat.lt_succ_self _) ⟨v4_0, z42, qf17_0, e0, e2, e3, e4, e5, e6, e22, rfl, hrv4_0, (chk_rng h43), hC.sel [0, 1] (by decide), lN hl0⟩
 replace hb := tf hq41 hb
 refine Wc.skip ?_
 refine hK33 _ _ ?_
 refine Wc.seq fun K44 hK44 => ?_
 refine rg ?_
 refine lp (.int .i64 v4_0) (pu_move e4) ?_
 obtain ⟨z45, h46, hb⟩ := bd hb
 refine lp (.int .i64 z45) (pu_addc (a := v4_0) (b := 1) rfl rfl h46) ?_
 refine lp (.int .i64 z45) (pu_assign rfl) ?_
 refine ln ?_
 refine hK44 _ _ ?_
 refine Wc.fresh fun E47 hE => ?_
 have e0 := (congrFun hE 0).trans e0
 have e2 := (congrFun hE 2).trans e2
 have e3 := (congrFun hE 3).trans e3
 have e4 : E47 4 = .int .i64 z45 := (congrFun hE 4).trans rfl
 have e5 := (congrFun hE 5).trans e5
 have e6 := (congrFun hE 6).trans e6
 have e7 : E47 7 = .int .i64 v23_0 := (congrFun hE 7).trans rfl
 have e22 := (congrFun hE 22).trans e22
 have e23 := (congrFun hE 23).trans e23
 have e24 : E47 24 = .bool (decide (v23_0 < (mate_0.length : Int))) := (congrFun hE 24).trans rfl
 have e29 : E47 29 = .bool x35 := (congrFun hE 29).trans rfl
 clear hE
 refine Wc.seq fun K48 hK48 => ?_
 refine rg ?_
 refine lp (.int .i64 v23_0) (pu_move e7) ?_
 refine lp (.int .i64 v23_0) (pu_assign rfl) ?_
 refine ln ?_
 refine hK48 _ _ ?_
 obtain ⟨o49, hl1, hb⟩ := bd hb
 refine Wc.cut (fun E wv => ∃ (v8_1 : Int) (qf17_1 : List Bool), E 0 = .slice Amate_0 mate_0.length cmate_0 ∧ E 2 = .int .i64 0 ∧ E 3 = .int .i64 z6 ∧ E 4 = .int .i64 z45 ∧ E 5 = .int .i64 0 ∧ E 6 = .slice (some ad37) (((List.replicate (mate_0.length : Int).toNat false)).length) c13 ∧ E 7 = .int .i64 v23_0 ∧ E 8 = .int .i64 v8_1 ∧ E 22 = .int .i64 (mate_0.length : Int) ∧ E 23 = .int .i64 v23_0 ∧ E 24 = .bool (decide (v23_0 < (mate_0.length : Int))) ∧ E 29 = .bool x35 ∧ I64 v8_1 ∧ Cx (fun _ => False) O0 w wv [.ro (.sl (.int .i64)) [.slice Amate_0 mate_0.length cmate_0] mate_0, .own 4 .bool (.slice (some ad37) (((List.replicate (mate_0.length : Int).toNat false)).length) c13) qf17_1] ∧ ((chk (v23_0 + 1)).bind fun z85 => some (.inl (z45, z85, qf17_1)) : Option ((Int × Int × (List Bool)) ⊕ ((Int × Int × (List Bool))))) = some o27) (fun K50 hK50 => ?_) ?_
 refine Wc.block ?_
 refine Wc.loop (fun m E wv => ∃ (v8_1 : Int) (qf17_1 : List Bool), E 0 = .slice Amate_0 mate_0.length cmate_0 ∧ E 2 = .int .i64 0 ∧ E 3 = .int .i64 z6 ∧ E 4 = .int .i64 z45 ∧ E 5 = .int .i64 0 ∧ E 6 = .slice (some ad37) (((List.replicate (mate_0.length : Int).toNat false)).length) c13 ∧ E 7 = .int .i64 v23_0 ∧ E 8 = .int .i64 v8_1 ∧ E 22 = .int .i64 (mate_0.length : Int) ∧ E 23 = .int .i64 v23_0 ∧ E 24 = .bool (decide (v23_0 < (mate_0.length : Int))) ∧ E 29 = .bool x35 ∧ I64 v8_1 ∧ Cx (fun _ => False) O0 w wv [.ro (.sl (.int .i64)) [.slice Amate_0 mate_0.length cmate_0] mate_0, .own 4 .bool (.slice (some ad37) (((List.replicate (mate_0.length : Int).toNat false)).length) c13) qf17_1] ∧ loopN m (F.gauss_genus_b1 n mate_0) (v8_1, qf17_1) = some o49) n ⟨v23_0, qf17_0, e0, e2, e3, e4, e5, e6, e7, rfl, e22, e23, e24, e29, hrv23_0, hC.sel [0, 1] (by decide), hl1⟩ ?_
 have hbK1 := hb
 clear hb hC hl1
 rintro m52 E54 w53 ⟨v8_1, qf17_1, e0, e2, e3, e4, e5, e6, e7, e8, e22, e23, e24, e29, hrv8_1, hC, hl1⟩ K51 hK51
 obtain ⟨m52', o55, rfl, hb, hl1⟩ := loopN_some hl1
 unfold F.gauss_genus_b1 at hb
 refine Wc.seq fun K56 hK56 => ?_
 refine Wc.seq fun K57 hK57 => ?_
 refine rg ?_
 refine lp (.slice (some ad37) (((List.replicate (mate_0.length : Int).toNat false)).length) c13) (pu_move e6) ?_
 refine lp (.int .i64 v8_1) (pu_move e8) ?_
 obtain ⟨x58, h59, hb⟩ := bd hb
 obtain ⟨ad60, cs61, hA, hc62, hr63⟩ := hC.elo (i := 1) rfl (get_some h59).2
 obtain rfl := Option.some.inj hA
 refine lp (.pointer (some (ad37.add (v8_1.toNat * 1)))) (pu_index (a := v8_1) Try.underlying122 Try.sizeOf4 rfl rfl (by rw [(hC.ow (i := 1) rfl).sl_len.1]; exact (get_some h59).1)) ?_
 obtain rfl := (show _ = _ from hr63)
 refine lv (.bool x58) (ld_one Try.isAgg4 rfl (hc62 0 _ rfl)) ?_
 refine lp (.bool (!x58)) (pu_not (q := x58) rfl) ?_
 refine ln ?_
 refine hK57 _ _ ?_
 refine Wc.cond (t := (!x58)) (rfl) (fun hq64 => ?_) (fun hq64 => ?_)
 replace hb := tt hq64 hb
 refine Wc.skip ?_
 refine hK56 _ _ ?_
 refine Wc.seq fun K65 hK65 => ?_
 refine Wc.block ?_
 refine rg ?_
 refine lp (.slice (some ad37) (((List.replicate (mate_0.length : Int).toNat false)).length) c13) (pu_move e6) ?_
 refine lp (.int .i64 v8_1) (pu_move e8) ?_
 obtain ⟨x66, h67, hb⟩ := bd hb
 obtain ⟨ad68, cs69, hA, hc70, hr71⟩ := hC.elo (i := 1) rfl (get_some h67).2
 obtain rfl := Option.some.inj hA
 refine lp (.pointer (some (ad37.add (v8_1.toNat * 1)))) (pu_index (a := v8_1) Try.underlying122 Try.sizeOf4 rfl rfl (by rw [(hC.ow (i := 1) rfl).sl_len.1]; exact (get_some h67).1)) ?_
 refine lex.sk (hC.put (i := 1) rfl rfl Try.sizeOf4 (k := v8_1.toNat) (a := true) (by have := (get_some h67).1; simp at this ⊢; omega) (show Rep _ _ .bool _ _ from rfl) rfl rfl rfl) ?_
 rintro w72 ⟨hC, hF⟩
 refine ln ?_
 refine hK65 _ _ ?_
 refine rg ?_
 refine lp (.slice Amate_0 mate_0.length cmate_0) (pu_move e0) ?_
 refine lp (.int .i64 v8_1) (pu_move e8) ?_
 obtain ⟨x73, h74, hb⟩ := bd hb
 obtain ⟨ad75, cs76, hA, hc77, hr78⟩ := hC.elr (i := 0) rfl (get_some h74).2
 subst hA
 refine lp (.pointer (some (ad75.add (v8_1.toNat * 1)))) (pu_index (a := v8_1) Try.underlying30 Try.sizeOf3 rfl rfl (get_some h74).1) ?_
 obtain ⟨rfl, hr78'⟩ := hr78
 refine lv (.int .i64 x73) (ld_one Try.isAgg3 rfl (hc77 0 _ rfl)) ?_
 obtain ⟨y79, h80, hb⟩ := bd hb
 refine lex.cl (⟨_, _, op_call (vs := [.int .i64 x73, .int .i64 (-1)]) Try.call89 rfl rfl rfl, diagram_Turn_ok n hC.lt (wrap_I64 hr78') (show I64 (-1) from by unfold I64; omega) h80⟩) ?_
 rintro _ w82 ⟨rfl, hr81, hK⟩
 replace hC := hC.merge hK
 clear hK
 refine lp (.int .i64 y79) (pu_assign rfl) ?_
 refine ln ?_
 obtain rfl := os hb
 exact hK51 m52' _ _ (Nat.lt_succ_self _) ⟨y79, (qf17_1.set v8_1.toNat true), e0, e2, e3, e4, e5, e6, e7, rfl, e22, e23, e24, e29, hr81, hC.sel [0, 1] (by decide), lN hl1⟩
 replace hb := tf hq64 hb
 refine Wc.exit rfl ?_
 obtain rfl := os hb
 obtain rfl := (lX hl1).symm
 exact hK50 _ _ ⟨v8_1, qf17_1, e0, e2, e3, e4, e5, e6, e7, e8, e22, e23, e24, e29, hrv8_1, hC.sel [0, 1] (by decide), hbK1⟩
 clear hb hC hl1
 rintro E84 w83 ⟨v8_1, qf17_1, e0, e2, e3, e4, e5, e6, e7, e8, e22, e23, e24, e29, hrv8_1, hC, hb⟩
 refine hK31 _ _ ?_
 refine rg ?_
 obtain ⟨z85, h86, hb⟩ := bd hb
 refine lp (.int .i64 z85) (pu_addc (a := v23_0) (b := 1) e23 rfl h86) ?_
 refine lp (.int .i64 z85) (pu_move rfl) ?_
 refine ln ?_
 obtain rfl := os hb
 exact hK23 m24' _ _ (Nat.lt_succ_self _) ⟨z45, z85, qf17_1, e0, e2, e3, e4, e5, e6, e22, rfl, (chk_rng h46), (chk_rng h86), hC.sel [0, 1] (by decide), lN hl0⟩
 replace hb := tf hq30 hb
 refine Wc.exit rfl ?_
 obtain rfl := os hb
 obtain rfl := (lX hl0).symm
 exact hK22 _ _ ⟨v4_0, v23_0, qf17_0, e0, e2, e3, e4, e5, hrv4_0, hrv23_0, hC.sel [0] (by decide), hbK0⟩
 clear hb hC hl0
 rintro E88 w87 ⟨v4_0, v23_0, qf17_0, e0, e2, e3, e4, e5, hrv4_0, hrv23_0, hC, hb⟩
 refine hK19 _ _ ?_
 refine Wc.seq fun K89 hK89 => ?_
 refine rg ?_
 refine lp (.int .i64 z6) (pu_move e3) ?_
 obtain ⟨u90, h91, hb⟩ := bd hb
 refine lex.op (hC.make (s := .bool) (n := z6) Try.underlying122 Try.type4 rfl rfl rfl rfl rfl (pos_some h91).1 (pos_some h91).2 (by decide)) ?_
 rintro _ w96 ⟨A92, c93, rfl, hl94, hc95, hC, hF, hN⟩
 clear hF hN
 refine lp (.slice A92 (((List.replicate z6.toNat false)).length) c93) (pu_assign rfl) ?_
 refine ln ?_
 refine hK89 _ _ ?_
 refine Wc.seq fun K98 hK98 => ?_
 refine Wc.seq fun K99 hK99 => ?_
 refine rg ?_
 refine lp (.int .i64 z6) (pu_move e3) ?_
 refine lp (.int .i64 0) (pu_move rfl) ?_
 refine ln ?_
 refine hK99 _ _ ?_
 obtain ⟨o100, hl2, hb⟩ := bd hb
 refine Wc.cut (fun E wv => ∃ (v5_2 : Int) (v50_2 : Int) (qf97_2 : List Bool), E 2 = .int .i64 0 ∧ E 3 = .int .i64 z6 ∧ E 4 = .int .i64 v4_0 ∧ E 5 = .int .i64 v5_2 ∧ I64 v5_2 ∧ I64 v50_2 ∧ Cx (fun _ => False) O0 w wv [] ∧ ((chk (2 * v5_2)).bind fun z240 => (chk (z240 + z6)).bind fun z242 => (chk (z242 - v4_0)).bind fun z244 => (nz 2).bind fun u246 => (chk (Int.tdiv z244 2)).bind fun z248 => some z248 : Option (Int)) = some r) (fun K101 hK101 => ?_) ?_
 refine Wc.block ?_
 refine Wc.loop (fun m E wv => ∃ (v5_2 : Int) (v50_2 : Int) (qf97_2 : List Bool), E 0 = .slice Amate_0 mate_0.length cmate_0 ∧ E 2 = .int .i64 0 ∧ E 3 = .int .i64 z6 ∧ E 4 = .int .i64 v4_0 ∧ E 5 = .int .i64 v5_2 ∧ E 9 = .slice A92 (((List.replicate z6.toNat false)).length) c93 ∧ E 49 = .int .i64 z6 ∧ E 50 = .int .i64 v50_2 ∧ I64 v5_2 ∧ I64 v50_2 ∧ Cx (fun _ => False) O0 w wv [.ro (.sl (.int .i64)) [.slice Amate_0 mate_0.length cmate_0] mate_0, .own 4 .bool (.slice A92 (((List.replicate z6.toNat false)).length) c93) qf97_2] ∧ loopN m (F.gauss_genus_b2 n mate_0 z6) (v5_2, v50_2, qf97_2) = some o100) n ⟨0, 0, (List.replicate z6.toNat false), e0, e2, e3, e4, e5, rfl, rfl, rfl, (show I64 0 from by unfold I64; omega), (show I64 0 from by unfold I64; omega), hC.sel [1, 0] (by decide), hl2⟩ ?_
 have hbK2 := hb
 clear hb hC hl2
 rintro m103 E105 w104 ⟨v5_2, v50_2, qf97_2, e0, e2, e3, e4, e5, e9, e49, e50, hrv5_2, hrv50_2, hC, hl2⟩ K102 hK102
 obtain ⟨m103', o106, rfl, hb, hl2⟩ := loopN_some hl2
 unfold F.gauss_genus_b2 at hb
 refine Wc.seq fun K107 hK107 => ?_
 refine rg ?_
 refine lp (.bool (decide (v50_2 < z6))) (pu_lss (k := .i64) (a := v50_2) (b := z6) e50 e49) ?_
 refine ln ?_
 refine hK107 _ _ ?_
 refine Wc.seq fun K108 hK108 => ?_
 refine Wc.cond (t := (decide (v50_2 < z6))) (rfl) (fun hq109 => ?_) (fun hq109 => ?_)
 replace hb := tt hq109 hb
 refine Wc.skip ?_
 refine hK108 _ _ ?_
 refine Wc.seq fun K110 hK110 => ?_
 refine Wc.block ?_
 refine Wc.seq fun K111 hK111 => ?_
 refine rg ?_
 refine lp (.int .i64 v50_2) (pu_move e50) ?_
 refine lp (.int .i64 v50_2) (pu_assign rfl) ?_
 refine ln ?_
 refine hK111 _ _ ?_
 refine Wc.seq fun K112 hK112 => ?_
 refine Wc.seq fun K113 hK113 => ?_
 refine rg ?_
 refine lp (.slice A92 (((List.replicate z6.toNat false)).length) c93) (pu_move e9) ?_
 refine lp (.int .i64 v50_2) (pu_move rfl) ?_
 obtain ⟨x114, h115, hb⟩ := bd hb
 obtain ⟨ad116, cs117, hA, hc118, hr119⟩ := hC.elo (i := 1) rfl (get_some h115).2
 subst hA
 refine lp (.pointer (some (ad116.add (v50_2.toNat * 1)))) (pu_index (a := v50_2) Try.underlying122 Try.sizeOf4 rfl rfl (by rw [(hC.ow (i := 1) rfl).sl_len.1]; exact (get_some h115).1)) ?_
 obtain rfl := (show _ = _ from hr119)
 refine lv (.bool x114) (ld_one Try.isAgg4 rfl (hc118 0 _ rfl)) ?_
 refine ln ?_
 refine hK113 _ _ ?_
 refine Wc.cond (t := x114) (rfl) (fun hq120 => ?_) (fun hq120 => ?_)
 replace hb := tt hq120 hb
 refine Wc.exit rfl ?_
 refine hK110 _ _ ?_
 refine rg ?_
 obtain ⟨z121, h122, hb⟩ := bd hb
 refine lp (.int .i64 z121) (pu_addc (a := v50_2) (b := 1) e50 rfl h122) ?_
 refine lp (.int .i64 z121) (pu_move rfl) ?_
 refine ln ?_
 obtain rfl := os hb
 exact hK102 m103' _ _ (Nat.lt_succ_self _) ⟨v5_2, z121, qf97_2, e0, e2, e3, e4, e5, e9, e49, rfl, hrv5_2, (chk_rng h122), hC.sel [0, 1] (by decide), lN hl2⟩
 replace hb := tf hq120 hb
 refine Wc.skip ?_
 refine hK112 _ _ ?_
 refine Wc.seq fun K123 hK123 => ?_
 refine rg ?_
 refine lp (.int .i64 v5_2) (pu_move e5) ?_
 obtain ⟨z124, h125, hb⟩ := bd hb
 refine lp (.int .i64 z124) (pu_addc (a := v5_2) (b := 1) rfl rfl h125) ?_
 refine lp (.int .i64 z124) (pu_assign rfl) ?_
 refine ln ?_
 refine hK123 _ _ ?_
 refine Wc.fresh fun E126 hE => ?_
 have e0 := (congrFun hE 0).trans e0
 have e2 := (congrFun hE 2).trans e2
 have e3 := (congrFun hE 3).trans e3
 have e4 := (congrFun hE 4).trans e4
 have e5 : E126 5 = .int .i64 z124 := (congrFun hE 5).trans rfl
 have e9 := (congrFun hE 9).trans e9
 have e10 : E126 10 = .int .i64 v50_2 := (congrFun hE 10).trans rfl
 have e49 := (congrFun hE 49).trans e49
 have e50 := (congrFun hE 50).trans e50
 have e51 : E126 51 = .bool (decide (v50_2 < z6)) := (congrFun hE 51).trans rfl
 have e56 : E126 56 = .bool x114 := (congrFun hE 56).trans rfl
 clear hE
 refine Wc.seq fun K127 hK127 => ?_
 refine rg ?_
 refine lp (.slice (some ad116) (((List.replicate z6.toNat false)).length) c93) (pu_move e9) ?_
 refine lp (.int .i64 v50_2) (pu_move e10) ?_
 obtain ⟨x128, h129, hb⟩ := bd hb
 obtain ⟨ad130, cs131, hA, hc132, hr133⟩ := hC.elo (i := 1) rfl (get_some h129).2
 obtain rfl := Option.some.inj hA
 refine lp (.pointer (some (ad116.add (v50_2.toNat * 1)))) (pu_index (a := v50_2) Try.underlying122 Try.sizeOf4 rfl rfl (by rw [(hC.ow (i := 1) rfl).sl_len.1]; exact (get_some h129).1)) ?_
 refine lex.sk (hC.put (i := 1) rfl rfl Try.sizeOf4 (k := v50_2.toNat) (a := true) (by have := (get_some h129).1; simp at this ⊢; omega) (show Rep _ _ .bool _ _ from rfl) rfl rfl rfl) ?_
 rintro w134 ⟨hC, hF⟩
 refine ln ?_
 refine hK127 _ _ ?_
 refine Wc.seq fun K135 hK135 => ?_
 refine rg ?_
 refine lp (.int .i64 v50_2) (pu_move e10) ?_
 refine lex.op (hC.lit (s := (.int .i64)) (vs := [.int .i64 v50_2]) (xs := [v50_2]) Try.underlying30 Try.type3 rfl rfl (Nat.le_of_ble_eq_true rfl) rfl rfl (by simp [Value.cells, Sh.n]) rfl (show Elems _ _ (.int .i64) ([.int .i64 v50_2] ++ ([])) ([v50_2] : List Int) from Elems.cons (⟨rfl, I64.wr hrv50_2⟩) (Elems.nil _ _ _))) ?_
 rintro _ w140 ⟨A136, c137, rfl, hl138, hc139, hC, hF, hN⟩
 clear hF hN
 refine lp (.slice A136 ((([v50_2] : List Int)).length) c137) (pu_assign rfl) ?_
 refine ln ?_
 refine hK135 _ _ ?_
 obtain ⟨o142, hl3, hb⟩ := bd hb
 refine Wc.cut (fun E wv => ∃ (l11_3 : List Int) (qf97_3 : List Bool) (Al11_3 : Option Addr) (ml11_3 cl11_3 : Nat), E 0 = .slice Amate_0 mate_0.length cmate_0 ∧ E 2 = .int .i64 0 ∧ E 3 = .int .i64 z6 ∧ E 4 = .int .i64 v4_0 ∧ E 5 = .int .i64 z124 ∧ E 9 = .slice (some ad116) (((List.replicate z6.toNat false)).length) c93 ∧ E 10 = .int .i64 v50_2 ∧ E 11 = .slice Al11_3 ml11_3 cl11_3 ∧ E 49 = .int .i64 z6 ∧ E 50 = .int .i64 v50_2 ∧ E 51 = .bool (decide (v50_2 < z6)) ∧ E 56 = .bool x114 ∧ Cx (fun _ => False) O0 w wv [.ro (.sl (.int .i64)) [.slice Amate_0 mate_0.length cmate_0] mate_0, .own 4 .bool (.slice (some ad116) (((List.replicate z6.toNat false)).length) c93) qf97_3, .own 3 (.int .i64) (.slice Al11_3 ml11_3 cl11_3) l11_3] ∧ ((chk (v50_2 + 1)).bind fun z235 => some (.inl (z124, z235, qf97_3)) : Option ((Int × Int × (List Bool)) ⊕ ((Int × Int × (List Bool))))) = some o106) (fun K143 hK143 => ?_) ?_
 refine Wc.block ?_
 refine Wc.loop (fun m E wv => ∃ (l11_3 : List Int) (qf97_3 : List Bool) (Al11_3 : Option Addr) (ml11_3 cl11_3 : Nat), E 0 = .slice Amate_0 mate_0.length cmate_0 ∧ E 2 = .int .i64 0 ∧ E 3 = .int .i64 z6 ∧ E 4 = .int .i64 v4_0 ∧ E 5 = .int .i64 z124 ∧ E 9 = .slice (some ad116) (((List.replicate z6.toNat false)).length) c93 ∧ E 10 = .int .i64 v50_2 ∧ E 11 = .slice Al11_3 ml11_3 cl11_3 ∧ E 49 = .int .i64 z6 ∧ E 50 = .int .i64 v50_2 ∧ E 51 = .bool (decide (v50_2 < z6)) ∧ E 56 = .bool x114 ∧ Cx (fun _ => False) O0 w wv [.ro (.sl (.int .i64)) [.slice Amate_0 mate_0.length cmate_0] mate_0, .own 4 .bool (.slice (some ad116) (((List.replicate z6.toNat false)).length) c93) qf97_3, .own 3 (.int .i64) (.slice Al11_3 ml11_3 cl11_3) l11_3] ∧ loopN m (F.gauss_genus_b3 n mate_0) (l11_3, qf97_3) = some o142) n ⟨([v50_2] : List Int), (qf97_2.set v50_2.toNat true), A136, (([v50_2] : List Int)).length, c137, e0, e2, e3, e4, e5, e9, e10, rfl, e49, e50, e51, e56, hC.sel [1, 2, 0] (by decide), hl3⟩ ?_
 have hbK3 := hb
 clear hb hC hl3
 rintro m145 E147 w146 ⟨l11_3, qf97_3, Al11_3, ml11_3, cl11_3, e0, e2, e3, e4, e5, e9, e10, e11, e49, e50, e51, e56, hC, hl3⟩ K144 hK144
 obtain ⟨m145', o148, rfl, hb, hl3⟩ := loopN_some hl3
 unfold F.gauss_genus_b3 at hb
 obtain ⟨rfl, hll11_3, hcl11_3⟩ := (hC.ow (i := 2) rfl).sl_len
 refine Wc.seq fun K149 hK149 => ?_
 refine Wc.seq fun K150 hK150 => ?_
 refine rg ?_
 refine lp (.slice Al11_3 l11_3.length cl11_3) (pu_move e11) ?_
 refine lp (.int .i64 (l11_3.length : Int)) (pu_len (A := Al11_3) (n := l11_3.length) (m := cl11_3) Try.underlying30 rfl) ?_
 refine lp (.bool (decide (0 < (l11_3.length : Int)))) (pu_gtr (k := .i64) (a := (l11_3.length : Int)) (b := 0) rfl rfl) ?_
 refine ln ?_
 refine hK150 _ _ ?_
 refine Wc.cond (t := (decide (0 < (l11_3.length : Int)))) (rfl) (fun hq151 => ?_) (fun hq151 => ?_)
 replace hb := tt hq151 hb
 refine Wc.skip ?_
 refine hK149 _ _ ?_
 refine Wc.block ?_
 refine Wc.seq fun K152 hK152 => ?_
 refine rg ?_
 refine lp (.slice Al11_3 l11_3.length cl11_3) (pu_move e11) ?_
 refine lp (.slice Al11_3 l11_3.length cl11_3) (pu_move e11) ?_
 refine lp (.int .i64 (l11_3.length : Int)) (pu_len (A := Al11_3) (n := l11_3.length) (m := cl11_3) Try.underlying30 rfl) ?_
 obtain ⟨z153, h154, hb⟩ := bd hb
 refine lp (.int .i64 z153) (pu_subc (a := (l11_3.length : Int)) (b := 1) rfl rfl h154) ?_
 obtain ⟨x155, h156, hb⟩ := bd hb
 obtain ⟨ad157, cs158, hA, hc159, hr160⟩ := hC.elo (i := 2) rfl (get_some h156).2
 subst hA
 refine lp (.pointer (some (ad157.add (z153.toNat * 1)))) (pu_index (a := z153) Try.underlying30 Try.sizeOf3 rfl rfl (get_some h156).1) ?_
 obtain ⟨rfl, hr160'⟩ := hr160
 refine lv (.int .i64 x155) (ld_one Try.isAgg3 rfl (hc159 0 _ rfl)) ?_
 refine lp (.int .i64 x155) (pu_assign rfl) ?_
 refine ln ?_
 refine hK152 _ _ ?_
 refine Wc.fresh fun E161 hE => ?_
 have e0 := (congrFun hE 0).trans e0
 have e2 := (congrFun hE 2).trans e2
 have e3 := (congrFun hE 3).trans e3
 have e4 := (congrFun hE 4).trans e4
 have e5 := (congrFun hE 5).trans e5
 have e9 := (congrFun hE 9).trans e9
 have e10 := (congrFun hE 10).trans e10
 have e11 := (congrFun hE 11).trans e11
 have e12 : E161 12 = .int .i64 x155 := (congrFun hE 12).trans rfl
 have e49 := (congrFun hE 49).trans e49
 have e50 := (congrFun hE 50).trans e50
 have e51 := (congrFun hE 51).trans e51
 have e56 := (congrFun hE 56).trans e56
 have e66 : E161 66 = .bool (decide (0 < (l11_3.length : Int))) := (congrFun hE 66).trans rfl
 clear hE
 refine Wc.seq fun K162 hK162 => ?_
 refine rg ?_
 refine lp (.slice (some ad157) l11_3.length cl11_3) (pu_move e11) ?_
 refine lp (.slice (some ad157) l11_3.length cl11_3) (pu_move e11) ?_
 refine lp (.int .i64 (l11_3.length : Int)) (pu_len (A := (some ad157)) (n := l11_3.length) (m := cl11_3) Try.underlying30 rfl) ?_
 obtain ⟨z163, h164, hb⟩ := bd hb
 refine lp (.int .i64 z163) (pu_subc (a := (l11_3.length : Int)) (b := 1) rfl rfl h164) ?_
 obtain ⟨u165, h166, hb⟩ := bd hb
 refine lp (.slice (some ad157) ((l11_3.take z163.toNat).length) cl11_3) (pu_cuth (b := z163) Try.underlying30 Try.sizeOf3 rfl rfl (hC.ow (i := 2) rfl).sl_len (cut_some h166)) ?_
 replace hC := hC.cuth (i := 2) rfl (k := z163.toNat) (by have := cut_some h166; omega)
 obtain ⟨-, hl167, hc168⟩ := (hC.ow (i := 2) rfl).sl_len
 refine lp (.slice (some ad157) ((l11_3.take z163.toNat).length) cl11_3) (pu_assign rfl) ?_
 refine ln ?_
 refine hK162 _ _ ?_
 refine Wc.seq fun K169 hK169 => ?_
 refine rg ?_
 refine lp (.int .i64 0) (pu_move rfl) ?_
 refine ln ?_
 refine hK169 _ _ ?_
 obtain ⟨o170, hl4, hb⟩ := bd hb
 refine Wc.cut (fun E wv => ∃ (l11_4 : List Int) (v78_4 : Int) (qf97_4 : List Bool) (Al11_4 : Option Addr) (ml11_4 cl11_4 : Nat), E 0 = .slice Amate_0 mate_0.length cmate_0 ∧ E 2 = .int .i64 0 ∧ E 3 = .int .i64 z6 ∧ E 4 = .int .i64 v4_0 ∧ E 5 = .int .i64 z124 ∧ E 9 = .slice (some ad116) (((List.replicate z6.toNat false)).length) c93 ∧ E 10 = .int .i64 v50_2 ∧ E 11 = .slice Al11_4 ml11_4 cl11_4 ∧ E 12 = .int .i64 x155 ∧ E 49 = .int .i64 z6 ∧ E 50 = .int .i64 v50_2 ∧ E 51 = .bool (decide (v50_2 < z6)) ∧ E 56 = .bool x114 ∧ E 66 = .bool (decide (0 < (l11_3.length : Int))) ∧ E 78 = .int .i64 v78_4 ∧ I64 v78_4 ∧ Cx (fun _ => False) O0 w wv [.ro (.sl (.int .i64)) [.slice Amate_0 mate_0.length cmate_0] mate_0, .own 4 .bool (.slice (some ad116) (((List.replicate z6.toNat false)).length) c93) qf97_4, .own 3 (.int .i64) (.slice Al11_4 ml11_4 cl11_4) l11_4] ∧ (some (.inl (l11_4, qf97_4)) : Option (((List Int) × (List Bool)) ⊕ (((List Int) × (List Bool))))) = some o148) (fun K171 hK171 => ?_) ?_
 refine Wc.block ?_
 refine Wc.loop (fun m E wv => ∃ (l11_4 : List Int) (v78_4 : Int) (qf97_4 : List Bool) (Al11_4 : Option Addr) (ml11_4 cl11_4 : Nat), E 0 = .slice Amate_0 mate_0.length cmate_0 ∧ E 2 = .int .i64 0 ∧ E 3 = .int .i64 z6 ∧ E 4 = .int .i64 v4_0 ∧ E 5 = .int .i64 z124 ∧ E 9 = .slice (some ad116) (((List.replicate z6.toNat false)).length) c93 ∧ E 10 = .int .i64 v50_2 ∧ E 11 = .slice Al11_4 ml11_4 cl11_4 ∧ E 12 = .int .i64 x155 ∧ E 49 = .int .i64 z6 ∧ E 50 = .int .i64 v50_2 ∧ E 51 = .bool (decide (v50_2 < z6)) ∧ E 56 = .bool x114 ∧ E 66 = .bool (decide (0 < (l11_3.length : Int))) ∧ E 78 = .int .i64 v78_4 ∧ I64 v78_4 ∧ Cx (fun _ => False) O0 w wv [.ro (.sl (.int .i64)) [.slice Amate_0 mate_0.length cmate_0] mate_0, .own 4 .bool (.slice (some ad116) (((List.replicate z6.toNat false)).length) c93) qf97_4, .own 3 (.int .i64) (.slice Al11_4 ml11_4 cl11_4) l11_4] ∧ loopN m (F.gauss_genus_b4 n mate_0 x155) (l11_4, v78_4, qf97_4) = some o170) n ⟨(l11_3.take z163.toNat), 0, qf97_3, (some ad157), (l11_3.take z163.toNat).length, cl11_3, e0, e2, e3, e4, e5, e9, e10, rfl, e12, e49, e50, e51, e56, e66, rfl, (show I64 0 from by unfold I64; omega), hC.sel [0, 1, 2] (by decide), hl4⟩ ?_
 have hbK4 := hb
 clear hb hC hl4
 rintro m173 E175 w174 ⟨l11_4, v78_4, qf97_4, Al11_4, ml11_4, cl11_4, e0, e2, e3, e4, e5, e9, e10, e11, e12, e49, e50, e51, e56, e66, e78, hrv78_4, hC, hl4⟩ K172 hK172
 obtain ⟨m173', o176, rfl, hb, hl4⟩ := loopN_some hl4
 unfold F.gauss_genus_b4 at hb
 obtain ⟨rfl, hll11_4, hcl11_4⟩ := (hC.ow (i := 2) rfl).sl_len
 refine Wc.seq fun K177 hK177 => ?_
 refine rg ?_
 refine lp (.bool (decide (v78_4 < 4))) (pu_lss (k := .i64) (a := v78_4) (b := 4) e78 rfl) ?_
 refine ln ?_
 refine hK177 _ _ ?_
 refine Wc.seq fun K178 hK178 => ?_
 refine Wc.cond (t := (decide (v78_4 < 4))) (rfl) (fun hq179 => ?_) (fun hq179 => ?_)
 replace hb := tt hq179 hb
 refine Wc.skip ?_
 refine hK178 _ _ ?_
 refine Wc.seq fun K180 hK180 => ?_
 refine Wc.block ?_
 refine Wc.seq fun K181 hK181 => ?_
 refine rg ?_
 refine lp (.int .i64 v78_4) (pu_move e78) ?_
 refine lp (.int .i64 v78_4) (pu_assign rfl) ?_
 refine ln ?_
 refine hK181 _ _ ?_
 refine Wc.seq fun K182 hK182 => ?_
 refine rg ?_
 refine lp (.slice Amate_0 mate_0.length cmate_0) (pu_move e0) ?_
 refine lp (.int .i64 x155) (pu_move e12) ?_
 obtain ⟨z183, h184, hb⟩ := bd hb
 refine lp (.int .i64 z183) (pu_mulc (a := 4) (b := x155) rfl rfl h184) ?_
 refine lp (.int .i64 v78_4) (pu_move rfl) ?_
 obtain ⟨z185, h186, hb⟩ := bd hb
 refine lp (.int .i64 z185) (pu_addc (a := z183) (b := v78_4) rfl rfl h186) ?_
 obtain ⟨x187, h188, hb⟩ := bd hb
 obtain ⟨ad189, cs190, hA, hc191, hr192⟩ := hC.elr (i := 0) rfl (get_some h188).2
 subst hA
 refine lp (.pointer (some (ad189.add (z185.toNat * 1)))) (pu_index (a := z185) Try.underlying30 Try.sizeOf3 rfl rfl (get_some h188).1) ?_
 obtain ⟨rfl, hr192'⟩ := hr192
 refine lv (.int .i64 x187) (ld_one Try.isAgg3 rfl (hc191 0 _ rfl)) ?_
 obtain ⟨u193, h194, hb⟩ := bd hb
 obtain ⟨z195, h196, hb⟩ := bd hb
 refine lp (.int .i64 z195) (pu_quoc (a := x187) (b := 4) rfl rfl h194 h196) ?_
 refine lp (.int .i64 z195) (pu_assign rfl) ?_
 refine ln ?_
 refine hK182 _ _ ?_
 refine Wc.fresh fun E197 hE => ?_
 have e0 := (congrFun hE 0).trans e0
 have e2 := (congrFun hE 2).trans e2
 have e3 := (congrFun hE 3).trans e3
 have e4 := (congrFun hE 4).trans e4
 have e5 := (congrFun hE 5).trans e5
 have e9 := (congrFun hE 9).trans e9
 have e10 := (congrFun hE 10).trans e10
 have e11 := (congrFun hE 11).trans e11
 have e12 := (congrFun hE 12).trans e12
 have e13 : E197 13 = .int .i64 v78_4 := (congrFun hE 13).trans rfl
 have e14 : E197 14 = .int .i64 z195 := (congrFun hE 14).trans rfl
 have e49 := (congrFun hE 49).trans e49
 have e50 := (congrFun hE 50).trans e50
 have e51 := (congrFun hE 51).trans e51
 have e56 := (congrFun hE 56).trans e56
 have e66 := (congrFun hE 66).trans e66
 have e78 := (congrFun hE 78).trans e78
 have e79 : E197 79 = .bool (decide (v78_4 < 4)) := (congrFun hE 79).trans rfl
 clear hE
 refine Wc.seq fun K198 hK198 => ?_
 refine rg ?_
 refine lp (.slice (some ad116) (((List.replicate z6.toNat false)).length) c93) (pu_move e9) ?_
 refine lp (.int .i64 z195) (pu_move e14) ?_
 obtain ⟨x199, h200, hb⟩ := bd hb
 obtain ⟨ad201, cs202, hA, hc203, hr204⟩ := hC.elo (i := 1) rfl (get_some h200).2
 obtain rfl := Option.some.inj hA
 refine lp (.pointer (some (ad116.add (z195.toNat * 1)))) (pu_index (a := z195) Try.underlying122 Try.sizeOf4 rfl rfl (by rw [(hC.ow (i := 1) rfl).sl_len.1]; exact (get_some h200).1)) ?_
 obtain rfl := (show _ = _ from hr204)
 refine lv (.bool x199) (ld_one Try.isAgg4 rfl (hc203 0 _ rfl)) ?_
 refine lp (.bool (!x199)) (pu_not (q := x199) rfl) ?_
 refine ln ?_
 refine hK198 _ _ ?_
 refine Wc.cond (t := (!x199)) (rfl) (fun hq205 => ?_) (fun hq205 => ?_)
 replace hb := tt hq205 hb
 refine Wc.seq fun K206 hK206 => ?_
 refine rg ?_
 refine lp (.slice (some ad116) (((List.replicate z6.toNat false)).length) c93) (pu_move e9) ?_
 refine lp (.int .i64 z195) (pu_move e14) ?_
 obtain ⟨x207, h208, hb⟩ := bd hb
 obtain ⟨ad209, cs210, hA, hc211, hr212⟩ := hC.elo (i := 1) rfl (get_some h208).2
 obtain rfl := Option.some.inj hA
 refine lp (.pointer (some (ad116.add (z195.toNat * 1)))) (pu_index (a := z195) Try.underlying122 Try.sizeOf4 rfl rfl (by rw [(hC.ow (i := 1) rfl).sl_len.1]; exact (get_some h208).1)) ?_
 refine lex.sk (hC.put (i := 1) rfl rfl Try.sizeOf4 (k := z195.toNat) (a := true) (by have := (get_some h208).1; simp at this ⊢; omega) (show Rep _ _ .bool _ _ from rfl) rfl rfl rfl) ?_
 rintro w213 ⟨hC, hF⟩
 refine ln ?_
 refine hK206 _ _ ?_
 refine rg ?_
 refine lp (.slice Al11_4 l11_4.length cl11_4) (pu_move e11) ?_
 refine lp (.int .i64 z195) (pu_move e14) ?_
 refine lex.op (hC.lit (s := (.int .i64)) (vs := [.int .i64 z195]) (xs := [z195]) Try.underlying30 Try.type3 rfl rfl (Nat.le_of_ble_eq_true rfl) rfl rfl (by simp [Value.cells, Sh.n]) rfl (show Elems _ _ (.int .i64) ([.int .i64 z195] ++ ([])) ([z195] : List Int) from Elems.cons (⟨rfl, I64.wr (chk_rng h196)⟩) (Elems.nil _ _ _))) ?_
 rintro _ w218 ⟨A214, c215, rfl, hl216, hc217, hC, hF, hN⟩
 clear hF hN
 obtain ⟨u220, h221, hb⟩ := bd hb
 refine lex.op (hC.app (i := 3) (s := (.int .i64)) (xs := l11_4) (ys := ([z195] : List Int)) (m := ((([z195] : List Int)).length)) rfl Try.underlying30 Try.underlying30 Try.type3 rfl rfl rfl (hC.srco (i := 0) rfl) rfl rfl (by have := lim_some h221; simp at this ⊢ <;> omega) (by decide)) ?_
 rintro _ w226 ⟨A222, c223, rfl, hl224, hc225, hC, hF, hN⟩
 clear hF hN
 refine lp (.slice A222 ((l11_4 ++ ([z195] : List Int)).length) c223) (pu_assign rfl) ?_
 refine ln ?_
 refine hK180 _ _ ?_
 refine rg ?_
 obtain ⟨z227, h228, hb⟩ := bd hb
 refine lp (.int .i64 z227) (pu_addc (a := v78_4) (b := 1) e78 rfl h228) ?_
 refine lp (.int .i64 z227) (pu_move rfl) ?_
 refine ln ?_
 obtain rfl := os hb
 exact hK172 m173' _ _ (Nat.lt_succ_self _) ⟨(l11_4 ++ ([z195] : List Int)), z227, (qf97_4.set z195.toNat true), A222, (l11_4 ++ ([z195] : List Int)).length, c223, e0, e2, e3, e4, e5, e9, e10, rfl, e12, e49, e50, e51, e56, e66, rfl, (chk_rng h228), hC.sel [1, 2, 3] (by decide), lN hl4⟩
 replace hb := tf hq205 hb
 refine Wc.skip ?_
 refine hK180 _ _ ?_
 refine rg ?_
 obtain ⟨z229, h230, hb⟩ := bd hb
 refine lp (.int .i64 z229) (pu_addc (a := v78_4) (b := 1) e78 rfl h230) ?_
 refine lp (.int .i64 z229) (pu_move rfl) ?_
 refine ln ?_
 obtain rfl := os hb
 exact hK172 m173' _ _ (Nat.lt_succ_self _) ⟨l11_4, z229, qf97_4, Al11_4, l11_4.length, cl11_4, e0, e2, e3, e4, e5, e9, e10, e11, e12, e49, e50, e51, e56, e66, rfl, (chk_rng h230), hC.sel [0, 1, 2] (by decide), lN hl4⟩
 replace hb := tf hq179 hb
 refine Wc.exit rfl ?_
 obtain rfl := os hb
 obtain rfl := (lX hl4).symm
 exact hK171 _ _ ⟨l11_4, v78_4, qf97_4, Al11_4, l11_4.length, cl11_4, e0, e2, e3, e4, e5, e9, e10, e11, e12, e49, e50, e51, e56, e66, e78, hrv78_4, hC.sel [0, 1, 2] (by decide), hbK4⟩
 clear hb hC hl4
 rintro E232 w231 ⟨l11_4, v78_4, qf97_4, Al11_4, ml11_4, cl11_4, e0, e2, e3, e4, e5, e9, e10, e11, e12, e49, e50, e51, e56, e66, e78, hrv78_4, hC, hb⟩
 obtain ⟨rfl, hll11_4, hcl11_4⟩ := (hC.ow (i := 2) rfl).sl_len
 obtain rfl := os hb
 exact hK144 m145' _ _ (Nat.lt_succ_self _) ⟨l11_4, qf97_4, Al11_4, l11_4.length, cl11_4, e0, e2, e3, e4, e5, e9, e10, e11, e49, e50, e51, e56, hC.sel [0, 1, 2] (by decide), lN hl3⟩
 replace hb := tf hq151 hb
 refine Wc.exit rfl ?_
 obtain rfl := os hb
 obtain rfl := (lX hl3).symm
 exact hK143 _ _ ⟨l11_3, qf97_3, Al11_3, l11_3.length, cl11_3, e0, e2, e3, e4, e5, e9, e10, e11, e49, e50, e51, e56, hC.sel [0, 1, 2] (by decide), hbK3⟩
 clear hb hC hl3
 rintro E234 w233 ⟨l11_3, qf97_3, Al11_3, ml11_3, cl11_3, e0, e2, e3, e4, e5, e9, e10, e11, e49, e50, e51, e56, hC, hb⟩
 obtain ⟨rfl, hll11_3, hcl11_3⟩ := (hC.ow (i := 2) rfl).sl_len
 refine hK110 _ _ ?_
 refine rg ?_
 obtain ⟨z235, h236, hb⟩ := bd hb
 refine lp (.int .i64 z235) (pu_addc (a := v50_2) (b := 1) e50 rfl h236) ?_
 refine lp (.int .i64 z235) (pu_move rfl) ?_
 refine ln ?_
 obtain rfl := os hb
 exact hK102 m103' _ _ (Nat.lt_succ_self _) ⟨z124, z235, qf97_3, e0, e2, e3, e4, e5, e9, e49, rfl, (chk_rng h125), (chk_rng h236), hC.sel [0, 1] (by decide), lN hl2⟩
 replace hb := tf hq109 hb
 refine Wc.exit rfl ?_
 obtain rfl := os hb
 obtain rfl := (lX hl2).symm
 exact hK101 _ _ ⟨v5_2, v50_2, qf97_2, e2, e3, e4, e5, hrv5_2, hrv50_2, hC.sel [] (by decide), hbK2⟩
 clear hb hC hl2
 rintro E238 w237 ⟨v5_2, v50_2, qf97_2, e2, e3, e4, e5, hrv5_2, hrv50_2, hC, hb⟩
 refine hK98 _ _ ?_
 refine Wc.seq fun K239 hK239 => ?_
 refine rg ?_
 refine lp (.int .i64 v5_2) (pu_move e5) ?_
 obtain ⟨z240, h241, hb⟩ := bd hb
 refine lp (.int .i64 z240) (pu_mulc (a := 2) (b := v5_2) rfl rfl h241) ?_
 refine lp (.int .i64 z6) (pu_move e3) ?_
 obtain ⟨z242, h243, hb⟩ := bd hb
 refine lp (.int .i64 z242) (pu_addc (a := z240) (b := z6) rfl rfl h243) ?_
 refine lp (.int .i64 v4_0) (pu_move e4) ?_
 obtain ⟨z244, h245, hb⟩ := bd hb
 refine lp (.int .i64 z244) (pu_subc (a := z242) (b := v4_0) rfl rfl h245) ?_
 obtain ⟨u246, h247, hb⟩ := bd hb
 obtain ⟨z248, h249, hb⟩ := bd hb
 refine lp (.int .i64 z248) (pu_quoc (a := z244) (b := 2) rfl rfl h247 h249) ?_
 refine lp (.int .i64 z248) (pu_assign rfl) ?_
 refine ln ?_
 refine hK239 _ _ ?_
 obtain rfl := os hb
 refine Wc.ret ?_
 refine hKR _ _ ?_
 refine ⟨_, res1 Try.results85 (show RV _ _ _ (.tmp _) (.int .i64 z248) from rfl), _, rfl, rfl, (chk_rng h249), hC.sel [] (by decide)⟩
end Go.Proofs.Yteajmbanlohncaa
