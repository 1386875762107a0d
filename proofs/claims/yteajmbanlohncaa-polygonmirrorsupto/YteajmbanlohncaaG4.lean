/- The walks: part 4. -/
import Derived.Test.YteajmbanlohncaaS
import Derived.Test.YteajmbanlohncaaG2
set_option linter.unusedVariables false
set_option linter.unusedSimpArgs false
namespace Go.Proofs.Yteajmbanlohncaa
open Ev
set_option maxRecDepth 100000 in
set_option maxHeartbeats 4000000 in
theorem polygon_code_ok (n : Nat) {w : World} {O0 : List Nat} (hO : ∀ k ∈ O0, k < w.heap.size) {Al_0 : Option Addr} {ml_0 cl_0 : Nat} {l_0 : List (List (Int × (Int × Int)))} (hl_0 : Rep O0 w (.sl (.sl (.pr (.int .i64) (.pr (.int .i64) (.int .i64))))) [.slice Al_0 ml_0 cl_0] l_0) {Alist_1 : Option Addr} {mlist_1 clist_1 : Nat} {list_1 : List ((Int × (Int × Int)) × ((Int × (Int × Int)) × (Int × Int)))} (hlist_1 : Rep O0 w (.sl (.pr (.pr (.int .i64) (.pr (.int .i64) (.int .i64))) (.pr (.pr (.int .i64) (.pr (.int .i64) (.int .i64))) (.pr (.int .i64) (.int .i64))))) [.slice Alist_1 mlist_1 clist_1] list_1) {Apassages_2 : Option Addr} {mpassages_2 cpassages_2 : Nat} {passages_2 : List (List (Int × Bool))} (hpassages_2 : Rep O0 w (.sl (.sl (.pr (.int .i64) .bool))) [.slice Apassages_2 mpassages_2 cpassages_2] passages_2) {r : (List (List (Int × Bool))) × (List Int) × Int} (hb : F.polygon_code n l_0 list_1 passages_2 = some r) :
    Calls Try.prog 55 #[.slice Al_0 ml_0 cl_0, .slice Alist_1 mlist_1 clist_1, .slice Apassages_2 mpassages_2 cpassages_2] w fun e w' => ∃ v, e = .returned v ∧ ∃ (A0 : Option Addr) (m0 c0 : Nat) (A1 : Option Addr) (m1 c1 : Nat), v = .agg #[.slice A0 m0 c0, .slice A1 m1 c1, .int .i64 r.2.2] ∧ I64 r.2.2 ∧ Cx (fun _ => False) O0 w w' [.own 116 (.sl (.pr (.int .i64) .bool)) (.slice A0 m0 c0) r.1, .own 3 (.int .i64) (.slice A1 m1 c1) r.2.1] := by
 unfold F.polygon_code at hb
 have hC := Cx.start hO
 replace hC := hC.arg rfl hl_0
 replace hC := hC.arg rfl hlist_1
 replace hC := hC.arg rfl hpassages_2
 clear hO
 obtain ⟨rfl, hll_0, hcl_0⟩ := hl_0.sl_len
 obtain ⟨rfl, hllist_1, hclist_1⟩ := hlist_1.sl_len
 obtain ⟨rfl, hlpassages_2, hcpassages_2⟩ := hpassages_2.sl_len
 refine calls_of_Wc Try.func55 rfl (by rw [Try.ntmps55]; exact Nat.le_of_ble_eq_true rfl) fun KR hKR => ?_
 refine Wc.seq fun K4 hK4 => ?_
 refine rg ?_
 refine lex.op (hC.alloc (cs := [.slice none 0 0, .slice none 0 0, .int .i64 0]) Try.zeroValue77 rfl) ?_
 rintro _ w6 ⟨g5, rfl, hC, hF, hG⟩
 clear hG
 refine ln ?_
 refine hK4 _ _ ?_
 refine Wc.seq fun K8 hK8 => ?_
 refine rg ?_
 refine lex.op (hC.alloc (cs := [.slice none 0 0, .slice none 0 0, .int .i64 0]) Try.zeroValue77 rfl) ?_
 rintro _ w10 ⟨g9, rfl, hC, hF, hG⟩
 clear hG
 refine ln ?_
 refine hK8 _ _ ?_
 refine Wc.seq fun K12 hK12 => ?_
 refine rg ?_
 refine lex.op (hC.mkmap) ?_
 rintro _ w14 ⟨g13, rfl, hC, hF⟩
 clear hF
 refine lp (.map (some g13)) (pu_assign rfl) ?_
 refine ln ?_
 refine hK12 _ _ ?_
 refine Wc.seq fun K16 hK16 => ?_
 refine rg ?_
 refine lp (.int .i64 0) (pu_assign rfl) ?_
 refine ln ?_
 refine hK16 _ _ ?_
 refine Wc.seq fun K17 hK17 => ?_
 refine Wc.seq fun K18 hK18 => ?_
 refine rg ?_
 refine lp (.slice Al_0 l_0.length cl_0) (pu_move rfl) ?_
 refine lp (.int .i64 (l_0.length : Int)) (pu_len (A := Al_0) (n := l_0.length) (m := cl_0) Try.underlying28 rfl) ?_
 refine lp (.int .i64 0) (pu_move rfl) ?_
 refine ln ?_
 refine hK18 _ _ ?_
 replace hC := hC.nil 116 (.sl (.pr (.int .i64) .bool))
 replace hC := hC.nil 3 (.int .i64)
 obtain ⟨o21, hl0, hb⟩ := bd hb
 refine Wc.cut (fun E wv => ∃ (v9_0 : Int) (v24_0 : Int) (kf11_0_0 : List (List (Int × Bool))) (kf11_1_0 : List Int) (bf11_2_0 : Int) (qf15_0 : List ((Int × Int) × Int)) (Akf11_0_0 : Option Addr) (mkf11_0_0 ckf11_0_0 : Nat) (Akf11_1_0 : Option Addr) (mkf11_1_0 ckf11_1_0 : Nat), E 6 = .pointer (some ⟨g5, 0, none⟩) ∧ E 7 = .pointer (some ⟨g9, 0, none⟩) ∧ I64 v9_0 ∧ I64 v24_0 ∧ I64 bf11_2_0 ∧ Cx (fun _ => False) O0 w wv [.box g5 77 [.slice none 0 0, .slice none 0 0, .int .i64 0], .box g9 77 [.slice Akf11_0_0 mkf11_0_0 ckf11_0_0, .slice Akf11_1_0 mkf11_1_0 ckf11_1_0, .int .i64 bf11_2_0], .own 116 (.sl (.pr (.int .i64) .bool)) (.slice Akf11_0_0 mkf11_0_0 ckf11_0_0) kf11_0_0, .own 3 (.int .i64) (.slice Akf11_1_0 mkf11_1_0 ckf11_1_0) kf11_1_0] ∧ (some (kf11_0_0, kf11_1_0, bf11_2_0) : Option ((List (List (Int × Bool))) × (List Int) × Int)) = some r) (fun K22 hK22 => ?_) ?_
 refine Wc.block ?_
 refine Wc.loop (fun m E wv => ∃ (v9_0 : Int) (v24_0 : Int) (kf11_0_0 : List (List (Int × Bool))) (kf11_1_0 : List Int) (bf11_2_0 : Int) (qf15_0 : List ((Int × Int) × Int)) (Akf11_0_0 : Option Addr) (mkf11_0_0 ckf11_0_0 : Nat) (Akf11_1_0 : Option Addr) (mkf11_1_0 ckf11_1_0 : Nat), E 1 = .slice Alist_1 list_1.length clist_1 ∧ E 2 = .slice Apassages_2 passages_2.length cpassages_2 ∧ E 6 = .pointer (some ⟨g5, 0, none⟩) ∧ E 7 = .pointer (some ⟨g9, 0, none⟩) ∧ E 8 = .map (some g13) ∧ E 9 = .int .i64 v9_0 ∧ E 22 = .slice Al_0 l_0.length cl_0 ∧ E 23 = .int .i64 (l_0.length : Int) ∧ E 24 = .int .i64 v24_0 ∧ I64 v9_0 ∧ I64 v24_0 ∧ I64 bf11_2_0 ∧ Cx (fun _ => False) O0 w wv [.ro (.sl (.pr (.pr (.int .i64) (.pr (.int .i64) (.int .i64))) (.pr (.pr (.int .i64) (.pr (.int .i64) (.int .i64))) (.pr (.int .i64) (.int .i64))))) [.slice Alist_1 list_1.length clist_1] list_1, .ro (.sl (.sl (.pr (.int .i64) .bool))) [.slice Apassages_2 passages_2.length cpassages_2] passages_2, .box g5 77 [.slice none 0 0, .slice none 0 0, .int .i64 0], .box g9 77 [.slice Akf11_0_0 mkf11_0_0 ckf11_0_0, .slice Akf11_1_0 mkf11_1_0 ckf11_1_0, .int .i64 bf11_2_0], .own 116 (.sl (.pr (.int .i64) .bool)) (.slice Akf11_0_0 mkf11_0_0 ckf11_0_0) kf11_0_0, .own 3 (.int .i64) (.slice Akf11_1_0 mkf11_1_0 ckf11_1_0) kf11_1_0, .obj g13 (mobj qf15_0), .ro (.sl (.sl (.pr (.int .i64) (.pr (.int .i64) (.int .i64))))) [.slice Al_0 l_0.length cl_0] l_0] ∧ loopN m (F.polygon_code_b0 n l_0 list_1 passages_2) (v9_0, v24_0, kf11_0_0, kf11_1_0, bf11_2_0, qf15_0) = some o21) n ⟨0, 0, ([] : List (List (Int × Bool))), ([] : List Int), 0, ([] : List ((Int × Int) × Int)), none, 0, 0, none, 0, 0, rfl, rfl, rfl, rfl, rfl, rfl, rfl, rfl, rfl, (show I64 0 from by unfold I64; omega), (show I64 0 from by unfold I64; omega), (show I64 0 from by unfold I64; omega), hC.sel [6, 5, 4, 3, 1, 0, 2, 7] (by decide), hl0⟩ ?_
 have hbK0 := hb
 clear hb hC hl0
 rintro m24 E26 w25 ⟨v9_0, v24_0, kf11_0_0, kf11_1_0, bf11_2_0, qf15_0, Akf11_0_0, mkf11_0_0, ckf11_0_0, Akf11_1_0, mkf11_1_0, ckf11_1_0, e1, e2, e6, e7, e8, e9, e22, e23, e24, hrv9_0, hrv24_0, hrbf11_2_0, hC, hl0⟩ K23 hK23
 obtain ⟨m24', o27, rfl, hb, hl0⟩ := loopN_some hl0
 unfold F.polygon_code_b0 at hb
 obtain ⟨rfl, hlkf11_0_0, hckf11_0_0⟩ := (hC.ow (i := 4) rfl).sl_len
 obtain ⟨rfl, hlkf11_1_0, hckf11_1_0⟩ := (hC.ow (i := 5) rfl).sl_len
 refine Wc.seq fun K28 hK28 => ?_
 refine rg ?_
 refine lp (.bool (decide (v24_0 < (l_0.length : Int)))) (pu_lss (k := .i64) (a := v24_0) (b := (l_0.length : Int)) e24 e23) ?_
 refine ln ?_
 refine hK28 _ _ ?_
 refine Wc.seq fun K29 hK29 => ?_
 refine Wc.cond (t := (decide (v24_0 < (l_0.length : Int)))) (rfl) (fun hq30 => ?_) (fun hq30 => ?_)
 replace hb := tt hq30 hb
 refine Wc.skip ?_
 refine hK29 _ _ ?_
 refine Wc.seq fun K31 hK31 => ?_
 refine Wc.block ?_
 refine Wc.seq fun K32 hK32 => ?_
 refine rg ?_
 obtain ⟨x33, h34, hb⟩ := bd hb
 obtain ⟨ad35, cs36, hA, hc37, hr38⟩ := hC.elr (i := 7) rfl (get_some h34).2
 subst hA
 refine lp (.pointer (some (ad35.add (v24_0.toNat * 1)))) (pu_index (a := v24_0) Try.underlying28 Try.sizeOf43 e22 e24 (get_some h34).1) ?_
 have hR := hr38
 obtain ⟨A39, c40, rfl, hl41, hc42, _⟩ := hr38
 replace hC := hC.ro hR
 clear hR
 refine lv (.slice A39 x33.length c40) (ld_one Try.isAgg43 rfl (hc37 0 _ rfl)) ?_
 refine lp (.slice A39 x33.length c40) (pu_assign rfl) ?_
 refine ln ?_
 refine hK32 _ _ ?_
 refine Wc.seq fun K44 hK44 => ?_
 refine rg ?_
 refine lp (.slice none 0 0) (pu_assign rfl) ?_
 refine ln ?_
 refine hK44 _ _ ?_
 refine Wc.seq fun K45 hK45 => ?_
 refine Wc.seq fun K46 hK46 => ?_
 refine rg ?_
 refine lp (.int .i64 v9_0) (pu_move e9) ?_
 refine lp (.int .i64 v9_0) (pu_assign rfl) ?_
 refine ln ?_
 refine hK46 _ _ ?_
 replace hC := hC.nil 119 (.pr (.int .i64) .bool)
 obtain ⟨o48, hl1, hb⟩ := bd hb
 refine Wc.cut (fun E wv => ∃ (l12_1 : List (Int × Bool)) (v13_1 : Int) (kf11_1_1 : List Int) (qf15_1 : List ((Int × Int) × Int)) (Al12_1 : Option Addr) (ml12_1 cl12_1 : Nat) (Akf11_1_1 : Option Addr) (mkf11_1_1 ckf11_1_1 : Nat), E 1 = .slice Alist_1 list_1.length clist_1 ∧ E 2 = .slice Apassages_2 passages_2.length cpassages_2 ∧ E 6 = .pointer (some ⟨g5, 0, none⟩) ∧ E 7 = .pointer (some ⟨g9, 0, none⟩) ∧ E 8 = .map (some g13) ∧ E 9 = .int .i64 v9_0 ∧ E 11 = .slice A39 x33.length c40 ∧ E 12 = .slice Al12_1 ml12_1 cl12_1 ∧ E 13 = .int .i64 v13_1 ∧ E 22 = .slice (some ad35) l_0.length cl_0 ∧ E 23 = .int .i64 (l_0.length : Int) ∧ E 24 = .int .i64 v24_0 ∧ E 25 = .bool (decide (v24_0 < (l_0.length : Int))) ∧ I64 v13_1 ∧ Cx (fun _ => False) O0 w wv [.ro (.sl (.pr (.pr (.int .i64) (.pr (.int .i64) (.int .i64))) (.pr (.pr (.int .i64) (.pr (.int .i64) (.int .i64))) (.pr (.int .i64) (.int .i64))))) [.slice Alist_1 list_1.length clist_1] list_1, .ro (.sl (.sl (.pr (.int .i64) .bool))) [.slice Apassages_2 passages_2.length cpassages_2] passages_2, .box g5 77 [.slice none 0 0, .slice none 0 0, .int .i64 0], .box g9 77 [.slice Akf11_0_0 kf11_0_0.length ckf11_0_0, .slice Akf11_1_1 mkf11_1_1 ckf11_1_1, .int .i64 bf11_2_0], .own 116 (.sl (.pr (.int .i64) .bool)) (.slice Akf11_0_0 kf11_0_0.length ckf11_0_0) kf11_0_0, .own 3 (.int .i64) (.slice Akf11_1_1 mkf11_1_1 ckf11_1_1) kf11_1_1, .obj g13 (mobj qf15_1), .ro (.sl (.pr (.int .i64) (.pr (.int .i64) (.int .i64)))) [.slice A39 x33.length c40] x33, .own 119 (.pr (.int .i64) .bool) (.slice Al12_1 ml12_1 cl12_1) l12_1, .ro (.sl (.sl (.pr (.int .i64) (.pr (.int .i64) (.int .i64))))) [.slice (some ad35) l_0.length cl_0] l_0] ∧ ((chk (v9_0 + (x33.length : Int))).bind fun z323 => cond (decide (0 < (l12_1.length : Int))) ((lim (kf11_0_0.length + ([l12_1] : List (List (Int × Bool))).length)).bind fun u333 => (chk (v24_0 + 1)).bind fun z341 => some (.inl (z323, z341, (kf11_0_0 ++ ([l12_1] : List (List (Int × Bool)))), kf11_1_1, bf11_2_0, qf15_1))) ((chk (bf11_2_0 + 1)).bind fun z343 => (chk (v24_0 + 1)).bind fun z346 => some (.inl (z323, z346, kf11_0_0, kf11_1_1, z343, qf15_1))) : Option ((Int × Int × (List (List (Int × Bool))) × (List Int) × Int × (List ((Int × Int) × Int))) ⊕ ((Int × Int × (List (List (Int × Bool))) × (List Int) × Int × (List ((Int × Int) × Int)))))) = some o27) (fun K49 hK49 => ?_) ?_
 refine Wc.block ?_
 refine Wc.loop (fun m E wv => ∃ (l12_1 : List (Int × Bool)) (v13_1 : Int) (kf11_1_1 : List Int) (qf15_1 : List ((Int × Int) × Int)) (Al12_1 : Option Addr) (ml12_1 cl12_1 : Nat) (Akf11_1_1 : Option Addr) (mkf11_1_1 ckf11_1_1 : Nat), E 1 = .slice Alist_1 list_1.length clist_1 ∧ E 2 = .slice Apassages_2 passages_2.length cpassages_2 ∧ E 6 = .pointer (some ⟨g5, 0, none⟩) ∧ E 7 = .pointer (some ⟨g9, 0, none⟩) ∧ E 8 = .map (some g13) ∧ E 9 = .int .i64 v9_0 ∧ E 11 = .slice A39 x33.length c40 ∧ E 12 = .slice Al12_1 ml12_1 cl12_1 ∧ E 13 = .int .i64 v13_1 ∧ E 22 = .slice (some ad35) l_0.length cl_0 ∧ E 23 = .int .i64 (l_0.length : Int) ∧ E 24 = .int .i64 v24_0 ∧ E 25 = .bool (decide (v24_0 < (l_0.length : Int))) ∧ I64 v13_1 ∧ Cx (fun _ => False) O0 w wv [.ro (.sl (.pr (.pr (.int .i64) (.pr (.int .i64) (.int .i64))) (.pr (.pr (.int .i64) (.pr (.int .i64) (.int .i64))) (.pr (.int .i64) (.int .i64))))) [.slice Alist_1 list_1.length clist_1] list_1, .ro (.sl (.sl (.pr (.int .i64) .bool))) [.slice Apassages_2 passages_2.length cpassages_2] passages_2, .box g5 77 [.slice none 0 0, .slice none 0 0, .int .i64 0], .box g9 77 [.slice Akf11_0_0 kf11_0_0.length ckf11_0_0, .slice Akf11_1_1 mkf11_1_1 ckf11_1_1, .int .i64 bf11_2_0], .own 116 (.sl (.pr (.int .i64) .bool)) (.slice Akf11_0_0 kf11_0_0.length ckf11_0_0) kf11_0_0, .own 3 (.int .i64) (.slice Akf11_1_1 mkf11_1_1 ckf11_1_1) kf11_1_1, .obj g13 (mobj qf15_1), .ro (.sl (.pr (.int .i64) (.pr (.int .i64) (.int .i64)))) [.slice A39 x33.length c40] x33, .own 119 (.pr (.int .i64) .bool) (.slice Al12_1 ml12_1 cl12_1) l12_1, .ro (.sl (.sl (.pr (.int .i64) (.pr (.int .i64) (.int .i64))))) [.slice (some ad35) l_0.length cl_0] l_0] ∧ loopN m (F.polygon_code_b1 n list_1 passages_2 v9_0 x33) (l12_1, v13_1, kf11_1_1, qf15_1) = some o48) n ⟨([] : List (Int × Bool)), v9_0, kf11_1_0, qf15_0, none, 0, 0, Akf11_1_0, kf11_1_0.length, ckf11_1_0, e1, e2, e6, e7, e8, e9, rfl, rfl, rfl, e22, e23, e24, rfl, hrv9_0, hC.sel [2, 3, 4, 5, 6, 7, 8, 1, 0, 9] (by decide), hl1⟩ ?_
 have hbK1 := hb
 clear hb hC hl1
 rintro m51 E53 w52 ⟨l12_1, v13_1, kf11_1_1, qf15_1, Al12_1, ml12_1, cl12_1, Akf11_1_1, mkf11_1_1, ckf11_1_1, e1, e2, e6, e7, e8, e9, e11, e12, e13, e22, e23, e24, e25, hrv13_1, hC, hl1⟩ K50 hK50
 obtain ⟨m51', o54, rfl, hb, hl1⟩ := loopN_some hl1
 unfold F.polygon_code_b1 at hb
 obtain ⟨rfl, hll12_1, hcl12_1⟩ := (hC.ow (i := 8) rfl).sl_len
 obtain ⟨rfl, hlkf11_1_1, hckf11_1_1⟩ := (hC.ow (i := 5) rfl).sl_len
 refine Wc.seq fun K55 hK55 => ?_
 refine Wc.seq fun K56 hK56 => ?_
 refine rg ?_
 refine lp (.int .i64 v13_1) (pu_move e13) ?_
 refine lp (.int .i64 v9_0) (pu_move e9) ?_
 refine lp (.slice A39 x33.length c40) (pu_move e11) ?_
 refine lp (.int .i64 (x33.length : Int)) (pu_len (A := A39) (n := x33.length) (m := c40) Try.underlying43 rfl) ?_
 obtain ⟨z57, h58, hb⟩ := bd hb
 refine lp (.int .i64 z57) (pu_addc (a := v9_0) (b := (x33.length : Int)) rfl rfl h58) ?_
 refine lp (.bool (decide (v13_1 < z57))) (pu_lss (k := .i64) (a := v13_1) (b := z57) rfl rfl) ?_
 refine ln ?_
 refine hK56 _ _ ?_
 refine Wc.cond (t := (decide (v13_1 < z57))) (rfl) (fun hq59 => ?_) (fun hq59 => ?_)
 replace hb := tt hq59 hb
 refine Wc.skip ?_
 refine hK55 _ _ ?_
 refine Wc.seq fun K60 hK60 => ?_
 refine Wc.block ?_
 refine Wc.seq fun K61 hK61 => ?_
 refine rg ?_
 refine lp (.slice Apassages_2 passages_2.length cpassages_2) (pu_move e2) ?_
 refine lp (.int .i64 v13_1) (pu_move e13) ?_
 obtain ⟨x62, h63, hb⟩ := bd hb
 obtain ⟨ad64, cs65, hA, hc66, hr67⟩ := hC.elr (i := 1) rfl (get_some h63).2
 subst hA
 refine lp (.pointer (some (ad64.add (v13_1.toNat * 1)))) (pu_index (a := v13_1) Try.underlying70 Try.sizeOf73 rfl rfl (get_some h63).1) ?_
 have hR := hr67
 obtain ⟨A68, c69, rfl, hl70, hc71, _⟩ := hr67
 replace hC := hC.ro hR
 clear hR
 refine lv (.slice A68 x62.length c69) (ld_one Try.isAgg73 rfl (hc66 0 _ rfl)) ?_
 refine lp (.int .i64 (x62.length : Int)) (pu_len (A := A68) (n := x62.length) (m := c69) Try.underlying73 rfl) ?_
 refine lp (.int .i64 0) (pu_move rfl) ?_
 refine ln ?_
 refine hK61 _ _ ?_
 refine Wc.fresh fun E73 hE => ?_
 have e1 := (congrFun hE 1).trans e1
 have e2 := (congrFun hE 2).trans e2
 have e6 := (congrFun hE 6).trans e6
 have e7 := (congrFun hE 7).trans e7
 have e8 := (congrFun hE 8).trans e8
 have e9 := (congrFun hE 9).trans e9
 have e11 := (congrFun hE 11).trans e11
 have e12 := (congrFun hE 12).trans e12
 have e13 := (congrFun hE 13).trans e13
 have e22 := (congrFun hE 22).trans e22
 have e23 := (congrFun hE 23).trans e23
 have e24 := (congrFun hE 24).trans e24
 have e25 := (congrFun hE 25).trans e25
 have e34 : E73 34 = .bool (decide (v13_1 < z57)) := (congrFun hE 34).trans rfl
 have e40 : E73 40 = .slice A68 x62.length c69 := (congrFun hE 40).trans rfl
 have e41 : E73 41 = .int .i64 (x62.length : Int) := (congrFun hE 41).trans rfl
 have e42 : E73 42 = .int .i64 0 := (congrFun hE 42).trans rfl
 clear hE
 obtain ⟨o74, hl2, hb⟩ := bd hb
 refine Wc.cut (fun E wv => ∃ (l12_2 : List (Int × Bool)) (v42_2 : Int) (kf11_1_2 : List Int) (qf15_2 : List ((Int × Int) × Int)) (Al12_2 : Option Addr) (ml12_2 cl12_2 : Nat) (Akf11_1_2 : Option Addr) (mkf11_1_2 ckf11_1_2 : Nat), E 1 = .slice Alist_1 list_1.length clist_1 ∧ E 2 = .slice (some ad64) passages_2.length cpassages_2 ∧ E 6 = .pointer (some ⟨g5, 0, none⟩) ∧ E 7 = .pointer (some ⟨g9, 0, none⟩) ∧ E 8 = .map (some g13) ∧ E 9 = .int .i64 v9_0 ∧ E 11 = .slice A39 x33.length c40 ∧ E 12 = .slice Al12_2 ml12_2 cl12_2 ∧ E 13 = .int .i64 v13_1 ∧ E 22 = .slice (some ad35) l_0.length cl_0 ∧ E 23 = .int .i64 (l_0.length : Int) ∧ E 24 = .int .i64 v24_0 ∧ E 25 = .bool (decide (v24_0 < (l_0.length : Int))) ∧ E 34 = .bool (decide (v13_1 < z57)) ∧ E 40 = .slice A68 x62.length c69 ∧ E 41 = .int .i64 (x62.length : Int) ∧ E 42 = .int .i64 v42_2 ∧ I64 v42_2 ∧ Cx (fun _ => False) O0 w wv [.ro (.sl (.pr (.pr (.int .i64) (.pr (.int .i64) (.int .i64))) (.pr (.pr (.int .i64) (.pr (.int .i64) (.int .i64))) (.pr (.int .i64) (.int .i64))))) [.slice Alist_1 list_1.length clist_1] list_1, .ro (.sl (.sl (.pr (.int .i64) .bool))) [.slice (some ad64) passages_2.length cpassages_2] passages_2, .box g5 77 [.slice none 0 0, .slice none 0 0, .int .i64 0], .box g9 77 [.slice Akf11_0_0 kf11_0_0.length ckf11_0_0, .slice Akf11_1_2 mkf11_1_2 ckf11_1_2, .int .i64 bf11_2_0], .own 116 (.sl (.pr (.int .i64) .bool)) (.slice Akf11_0_0 kf11_0_0.length ckf11_0_0) kf11_0_0, .own 3 (.int .i64) (.slice Akf11_1_2 mkf11_1_2 ckf11_1_2) kf11_1_2, .obj g13 (mobj qf15_2), .ro (.sl (.pr (.int .i64) (.pr (.int .i64) (.int .i64)))) [.slice A39 x33.length c40] x33, .own 119 (.pr (.int .i64) .bool) (.slice Al12_2 ml12_2 cl12_2) l12_2, .ro (.sl (.sl (.pr (.int .i64) (.pr (.int .i64) (.int .i64))))) [.slice (some ad35) l_0.length cl_0] l_0, .ro (.sl (.pr (.int .i64) .bool)) [.slice A68 x62.length c69] x62] ∧ ((chk (v13_1 + 1)).bind fun z318 => some (.inl (l12_2, z318, kf11_1_2, qf15_2)) : Option (((List (Int × Bool)) × Int × (List Int) × (List ((Int × Int) × Int))) ⊕ (((List (Int × Bool)) × Int × (List Int) × (List ((Int × Int) × Int)))))) = some o54) (fun K75 hK75 => ?_) ?_
 refine Wc.block ?_
 refine Wc.loop (fun m E wv => ∃ (l12_2 : List (Int × Bool)) (v42_2 : Int) (kf11_1_2 : List Int) (qf15_2 : List ((Int × Int) × Int)) (Al12_2 : Option Addr) (ml12_2 cl12_2 : Nat) (Akf11_1_2 : Option Addr) (mkf11_1_2 ckf11_1_2 : Nat), E 1 = .slice Alist_1 list_1.length clist_1 ∧ E 2 = .slice (some ad64) passages_2.length cpassages_2 ∧ E 6 = .pointer (some ⟨g5, 0, none⟩) ∧ E 7 = .pointer (some ⟨g9, 0, none⟩) ∧ E 8 = .map (some g13) ∧ E 9 = .int .i64 v9_0 ∧ E 11 = .slice A39 x33.length c40 ∧ E 12 = .slice Al12_2 ml12_2 cl12_2 ∧ E 13 = .int .i64 v13_1 ∧ E 22 = .slice (some ad35) l_0.length cl_0 ∧ E 23 = .int .i64 (l_0.length : Int) ∧ E 24 = .int .i64 v24_0 ∧ E 25 = .bool (decide (v24_0 < (l_0.length : Int))) ∧ E 34 = .bool (decide (v13_1 < z57)) ∧ E 40 = .slice A68 x62.length c69 ∧ E 41 = .int .i64 (x62.length : Int) ∧ E 42 = .int .i64 v42_2 ∧ I64 v42_2 ∧ Cx (fun _ => False) O0 w wv [.ro (.sl (.pr (.pr (.int .i64) (.pr (.int .i64) (.int .i64))) (.pr (.pr (.int .i64) (.pr (.int .i64) (.int .i64))) (.pr (.int .i64) (.int .i64))))) [.slice Alist_1 list_1.length clist_1] list_1, .ro (.sl (.sl (.pr (.int .i64) .bool))) [.slice (some ad64) passages_2.length cpassages_2] passages_2, .box g5 77 [.slice none 0 0, .slice none 0 0, .int .i64 0], .box g9 77 [.slice Akf11_0_0 kf11_0_0.length ckf11_0_0, .slice Akf11_1_2 mkf11_1_2 ckf11_1_2, .int .i64 bf11_2_0], .own 116 (.sl (.pr (.int .i64) .bool)) (.slice Akf11_0_0 kf11_0_0.length ckf11_0_0) kf11_0_0, .own 3 (.int .i64) (.slice Akf11_1_2 mkf11_1_2 ckf11_1_2) kf11_1_2, .obj g13 (mobj qf15_2), .ro (.sl (.pr (.int .i64) (.pr (.int .i64) (.int .i64)))) [.slice A39 x33.length c40] x33, .own 119 (.pr (.int .i64) .bool) (.slice Al12_2 ml12_2 cl12_2) l12_2, .ro (.sl (.sl (.pr (.int .i64) (.pr (.int .i64) (.int .i64))))) [.slice (some ad35) l_0.length cl_0] l_0, .ro (.sl (.pr (.int .i64) .bool)) [.slice A68 x62.length c69] x62] ∧ loopN m (F.polygon_code_b2 n list_1 v13_1 x62) (l12_2, v42_2, kf11_1_2, qf15_2) = some o74) n ⟨l12_1, 0, kf11_1_1, qf15_1, Al12_1, l12_1.length, cl12_1, Akf11_1_1, kf11_1_1.length, ckf11_1_1, e1, e2, e6, e7, e8, e9, e11, e12, e13, e22, e23, e24, e25, e34, e40, e41, e42, (show I64 0 from by unfold I64; omega), hC.sel [1, 2, 3, 4, 5, 6, 7, 8, 9, 10, 0] (by decide), hl2⟩ ?_
 have hbK2 := hb
 clear hb hC hl2
 rintro m77 E79 w78 ⟨l12_2, v42_2, kf11_1_2, qf15_2, Al12_2, ml12_2, cl12_2, Akf11_1_2, mkf11_1_2, ckf11_1_2, e1, e2, e6, e7, e8, e9, e11, e12, e13, e22, e23, e24, e25, e34, e40, e41, e42, hrv42_2, hC, hl2⟩ K76 hK76
 obtain ⟨m77', o80, rfl, hb, hl2⟩ := loopN_some hl2
 unfold F.polygon_code_b2 at hb
 obtain ⟨rfl, hll12_2, hcl12_2⟩ := (hC.ow (i := 8) rfl).sl_len
 obtain ⟨rfl, hlkf11_1_2, hckf11_1_2⟩ := (hC.ow (i := 5) rfl).sl_len
 refine Wc.seq fun K81 hK81 => ?_
 refine rg ?_
 refine lp (.bool (decide (v42_2 < (x62.length : Int)))) (pu_lss (k := .i64) (a := v42_2) (b := (x62.length : Int)) e42 e41) ?_
 refine ln ?_
 refine hK81 _ _ ?_
 refine Wc.seq fun K82 hK82 => ?_
 refine Wc.cond (t := (decide (v42_2 < (x62.length : Int)))) (rfl) (fun hq83 => ?_) (fun hq83 => ?_)
 replace hb := tt hq83 hb
 refine Wc.skip ?_
 refine hK82 _ _ ?_
 refine Wc.seq fun K84 hK84 => ?_
 refine Wc.block ?_
 refine Wc.seq fun K85 hK85 => ?_
 refine rg ?_
 obtain ⟨x86, h87, hb⟩ := bd hb
 obtain ⟨ad88, cs89, hA, hc90, hr91⟩ := hC.elr (i := 10) rfl (get_some h87).2
 subst hA
 refine lp (.pointer (some (ad88.add (v42_2.toNat * 2)))) (pu_index (a := v42_2) Try.underlying73 Try.sizeOf107 e40 e42 (get_some h87).1) ?_
 obtain ⟨k92, k93, rfl, hr94, hr95⟩ := hr91
 obtain ⟨rfl, hr94⟩ := hr94
 obtain rfl := (show _ = _ from hr95)
 refine lv (.agg #[.int .i64 x86.1, .bool x86.2]) (ld_agg Try.isAgg107 Try.sizeOf107 rfl rfl hc90) ?_
 refine lex.op (hC.alloc (cs := [.int .i64 0, .bool false]) Try.zeroValue107 rfl) ?_
 rintro _ w97 ⟨g96, rfl, hC, hF, hG⟩
 clear hG
 refine lex.sk (hC.seta (i := 0) (ds := [.int .i64 x86.1, .bool x86.2]) rfl Try.type107 rfl rfl rfl rfl rfl) ?_
 rintro w99 ⟨hC, hF⟩
 refine ln ?_
 refine hK85 _ _ ?_
 refine Wc.seq fun K100 hK100 => ?_
 refine rg ?_
 refine lp (.int .i64 v13_1) (pu_move e13) ?_
 refine lp (.pointer (some ((⟨g96, 0, none⟩ : Addr).add 0))) (pu_field (sz := 1) Try.underlying107 rfl Try.sizeOf3 (by decide) rfl rfl) ?_
 refine lv (.int .i64 x86.1) (ld_fld (hC.bx (i := 0) rfl) Try.isAgg3 rfl rfl) ?_
 refine lp (.int .i64 (min v13_1 x86.1)) (pu_min (a := v13_1) (b := x86.1) rfl rfl) ?_
 refine lp (.int .i64 v13_1) (pu_move e13) ?_
 refine lp (.pointer (some ((⟨g96, 0, none⟩ : Addr).add 0))) (pu_field (sz := 1) Try.underlying107 rfl Try.sizeOf3 (by decide) rfl rfl) ?_
 refine lv (.int .i64 x86.1) (ld_fld (hC.bx (i := 0) rfl) Try.isAgg3 rfl rfl) ?_
 refine lp (.int .i64 (max v13_1 x86.1)) (pu_max (a := v13_1) (b := x86.1) rfl rfl) ?_
 refine lp (.agg #[.int .i64 (min v13_1 x86.1), .int .i64 (max v13_1 x86.1)]) (pu_builda (pv := [(0, .int .i64 (min v13_1 x86.1)), (1, .int .i64 (max v13_1 x86.1))]) (sz := 1) Try.type117 Try.underlying117 rfl Try.type3 rfl rfl (by simp [Instr.fill, Value.cells])) ?_
 refine lex.op (hC.alloc (cs := [.int .i64 0, .int .i64 0]) Try.zeroValue117 rfl) ?_
 rintro _ w102 ⟨g101, rfl, hC, hF, hG⟩
 clear hG
 refine lex.sk (hC.seta (i := 0) (ds := [.int .i64 (min v13_1 x86.1), .int .i64 (max v13_1 x86.1)]) rfl Try.type117 rfl rfl rfl rfl rfl) ?_
 rintro w104 ⟨hC, hF⟩
 refine ln ?_
 refine hK100 _ _ ?_
 refine Wc.fresh fun E105 hE => ?_
 have e1 := (congrFun hE 1).trans e1
 have e2 := (congrFun hE 2).trans e2
 have e6 := (congrFun hE 6).trans e6
 have e7 := (congrFun hE 7).trans e7
 have e8 := (congrFun hE 8).trans e8
 have e9 := (congrFun hE 9).trans e9
 have e11 := (congrFun hE 11).trans e11
 have e12 := (congrFun hE 12).trans e12
 have e13 := (congrFun hE 13).trans e13
 have e15 : E105 15 = .pointer (some ⟨g96, 0, none⟩) := (congrFun hE 15).trans rfl
 have e16 : E105 16 = .pointer (some ⟨g101, 0, none⟩) := (congrFun hE 16).trans rfl
 have e22 := (congrFun hE 22).trans e22
 have e23 := (congrFun hE 23).trans e23
 have e24 := (congrFun hE 24).trans e24
 have e25 := (congrFun hE 25).trans e25
 have e34 := (congrFun hE 34).trans e34
 have e40 := (congrFun hE 40).trans e40
 have e41 := (congrFun hE 41).trans e41
 have e42 := (congrFun hE 42).trans e42
 have e43 : E105 43 = .bool (decide (v42_2 < (x62.length : Int))) := (congrFun hE 43).trans rfl
 clear hE
 refine Wc.seq fun K106 hK106 => ?_
 refine rg ?_
 refine lp (.map (some g13)) (pu_move e8) ?_
 refine lv (.agg #[.int .i64 (min v13_1 x86.1), .int .i64 (max v13_1 x86.1)]) (ld_blk (hC.bx (i := 0) rfl) Try.isAgg117 Try.sizeOf117 e16) ?_
 obtain ⟨z107, h108, hb⟩ := bd hb
 refine lv (.tuple #[.int .i64 z107, .bool ((mget qf15_2 ((min v13_1 x86.1), (max v13_1 x86.1))).isSome)]) (by have h9 := (chk_some h108).1; first | (rw [h9]; exact lk2 (k := ((min v13_1 x86.1), (max v13_1 x86.1))) (hC.ob (i := 8) rfl) Try.underlying115 Try.zeroValue3 Try.underlying117 Try.type3 (by kernel_rfl) Try.sizeOf3 Try.underlying3 Try.isAgg3 rfl rfl) | (rw [← h9]; exact lk2 (k := ((min v13_1 x86.1), (max v13_1 x86.1))) (hC.ob (i := 8) rfl) Try.underlying115 Try.zeroValue3 Try.underlying117 Try.type3 (by kernel_rfl) Try.sizeOf3 Try.underlying3 Try.isAgg3 rfl rfl)) ?_
 refine lp (.tuple #[.int .i64 z107, .bool ((mget qf15_2 ((min v13_1 x86.1), (max v13_1 x86.1))).isSome)]) (pu_move rfl) ?_
 refine lp (.int .i64 z107) (pu_extract rfl rfl) ?_
 refine lp (.bool ((mget qf15_2 ((min v13_1 x86.1), (max v13_1 x86.1))).isSome)) (pu_extract rfl rfl) ?_
 refine lp (.int .i64 z107) (pu_assign rfl) ?_
 refine lp (.bool ((mget qf15_2 ((min v13_1 x86.1), (max v13_1 x86.1))).isSome)) (pu_assign rfl) ?_
 refine ln ?_
 refine hK106 _ _ ?_
 refine Wc.seqJ (fun E wv => ∃ (v17_3 : Int) (v62_3 : Bool) (kf11_1_3 : List Int) (qf15_3 : List ((Int × Int) × Int)) (Akf11_1_3 : Option Addr) (mkf11_1_3 ckf11_1_3 : Nat), E 1 = .slice Alist_1 list_1.length clist_1 ∧ E 2 = .slice (some ad64) passages_2.length cpassages_2 ∧ E 6 = .pointer (some ⟨g5, 0, none⟩) ∧ E 7 = .pointer (some ⟨g9, 0, none⟩) ∧ E 8 = .map (some g13) ∧ E 9 = .int .i64 v9_0 ∧ E 11 = .slice A39 x33.length c40 ∧ E 12 = .slice Al12_2 l12_2.length cl12_2 ∧ E 13 = .int .i64 v13_1 ∧ E 15 = .pointer (some ⟨g96, 0, none⟩) ∧ E 16 = .pointer (some ⟨g101, 0, none⟩) ∧ E 17 = .int .i64 v17_3 ∧ E 18 = .bool ((mget qf15_2 ((min v13_1 x86.1), (max v13_1 x86.1))).isSome) ∧ E 22 = .slice (some ad35) l_0.length cl_0 ∧ E 23 = .int .i64 (l_0.length : Int) ∧ E 24 = .int .i64 v24_0 ∧ E 25 = .bool (decide (v24_0 < (l_0.length : Int))) ∧ E 34 = .bool (decide (v13_1 < z57)) ∧ E 40 = .slice (some ad88) x62.length c69 ∧ E 41 = .int .i64 (x62.length : Int) ∧ E 42 = .int .i64 v42_2 ∧ E 43 = .bool (decide (v42_2 < (x62.length : Int))) ∧ E 62 = .bool v62_3 ∧ I64 v17_3 ∧ Cx (fun _ => False) O0 w wv [.ro (.sl (.pr (.pr (.int .i64) (.pr (.int .i64) (.int .i64))) (.pr (.pr (.int .i64) (.pr (.int .i64) (.int .i64))) (.pr (.int .i64) (.int .i64))))) [.slice Alist_1 list_1.length clist_1] list_1, .ro (.sl (.sl (.pr (.int .i64) .bool))) [.slice (some ad64) passages_2.length cpassages_2] passages_2, .box g5 77 [.slice none 0 0, .slice none 0 0, .int .i64 0], .box g9 77 [.slice Akf11_0_0 kf11_0_0.length ckf11_0_0, .slice Akf11_1_3 mkf11_1_3 ckf11_1_3, .int .i64 bf11_2_0], .own 116 (.sl (.pr (.int .i64) .bool)) (.slice Akf11_0_0 kf11_0_0.length ckf11_0_0) kf11_0_0, .own 3 (.int .i64) (.slice Akf11_1_3 mkf11_1_3 ckf11_1_3) kf11_1_3, .obj g13 (mobj qf15_3), .ro (.sl (.pr (.int .i64) (.pr (.int .i64) (.int .i64)))) [.slice A39 x33.length c40] x33, .own 119 (.pr (.int .i64) .bool) (.slice Al12_2 l12_2.length cl12_2) l12_2, .box g96 107 [.int .i64 x86.1, .bool x86.2], .box g101 117 [.int .i64 (min v13_1 x86.1), .int .i64 (max v13_1 x86.1)], .ro (.sl (.sl (.pr (.int .i64) (.pr (.int .i64) (.int .i64))))) [.slice (some ad35) l_0.length cl_0] l_0, .ro (.sl (.pr (.int .i64) .bool)) [.slice (some ad88) x62.length c69] x62] ∧ F.polygon_code_j3 n l12_2 v42_2 x86 v17_3 v62_3 kf11_1_3 qf15_3 = some o80) (fun K109 hK109 => ?_) ?_
 refine Wc.seq fun K110 hK110 => ?_
 refine rg ?_
 refine lp (.bool ((mget qf15_2 ((min v13_1 x86.1), (max v13_1 x86.1))).isSome)) (pu_move rfl) ?_
 refine lp (.bool (!(mget qf15_2 ((min v13_1 x86.1), (max v13_1 x86.1))).isSome)) (pu_not (q := (mget qf15_2 ((min v13_1 x86.1), (max v13_1 x86.1))).isSome) rfl) ?_
 refine ln ?_
 refine hK110 _ _ ?_
 refine Wc.fresh fun E111 hE => ?_
 have e1 := (congrFun hE 1).trans e1
 have e2 := (congrFun hE 2).trans e2
 have e6 := (congrFun hE 6).trans e6
 have e7 := (congrFun hE 7).trans e7
 have e8 := (congrFun hE 8).trans e8
 have e9 := (congrFun hE 9).trans e9
 have e11 := (congrFun hE 11).trans e11
 have e12 := (congrFun hE 12).trans e12
 have e13 := (congrFun hE 13).trans e13
 have e15 := (congrFun hE 15).trans e15
 have e16 := (congrFun hE 16).trans e16
 have e17 : E111 17 = .int .i64 z107 := (congrFun hE 17).trans rfl
 have e18 : E111 18 = .bool ((mget qf15_2 ((min v13_1 x86.1), (max v13_1 x86.1))).isSome) := (congrFun hE 18).trans rfl
 have e22 := (congrFun hE 22).trans e22
 have e23 := (congrFun hE 23).trans e23
 have e24 := (congrFun hE 24).trans e24
 have e25 := (congrFun hE 25).trans e25
 have e34 := (congrFun hE 34).trans e34
 have e40 := (congrFun hE 40).trans e40
 have e41 := (congrFun hE 41).trans e41
 have e42 := (congrFun hE 42).trans e42
 have e43 := (congrFun hE 43).trans e43
 have e62 : E111 62 = .bool (!(mget qf15_2 ((min v13_1 x86.1), (max v13_1 x86.1))).isSome) := (congrFun hE 62).trans rfl
 clear hE
 refine Wc.cond (t := (!(mget qf15_2 ((min v13_1 x86.1), (max v13_1 x86.1))).isSome)) (e62) (fun hq112 => ?_) (fun hq112 => ?_)
 replace hb := tt hq112 hb
 refine Wc.seq fun K113 hK113 => ?_
 refine rg ?_
 refine lp (.pointer (some ((⟨g9, 0, none⟩ : Addr).add 1))) (pu_field (sz := 1) Try.underlying77 rfl Try.sizeOf30 (by decide) rfl e7) ?_
 refine lv (.slice Akf11_1_2 kf11_1_2.length ckf11_1_2) (ld_fld (hC.bx (i := 5) rfl) Try.isAgg30 rfl rfl) ?_
 refine lp (.int .i64 (kf11_1_2.length : Int)) (pu_len (A := Akf11_1_2) (n := kf11_1_2.length) (m := ckf11_1_2) Try.underlying30 rfl) ?_
 refine lp (.int .i64 (kf11_1_2.length : Int)) (pu_assign rfl) ?_
 refine ln ?_
 refine hK113 _ _ ?_
 refine Wc.seq fun K114 hK114 => ?_
 refine rg ?_
 refine lp (.map (some g13)) (pu_move e8) ?_
 refine lv (.agg #[.int .i64 (min v13_1 x86.1), .int .i64 (max v13_1 x86.1)]) (ld_blk (hC.bx (i := 0) rfl) Try.isAgg117 Try.sizeOf117 e16) ?_
 refine lp (.int .i64 (kf11_1_2.length : Int)) (pu_move rfl) ?_
 obtain ⟨u115, h116, hb⟩ := bd hb
 refine lex.sk (hC.mput (i := 8) (k := ((min v13_1 x86.1), (max v13_1 x86.1))) (v := (kf11_1_2.length : Int)) rfl (nok_some h116) Try.underlying115 Try.underlying117 Try.type3 (by kernel_rfl) Try.sizeOf3 Try.underlying3 Try.isAgg3 rfl rfl rfl) ?_
 rintro w117 ⟨hC, hF⟩
 clear hF
 refine ln ?_
 refine hK114 _ _ ?_
 refine Wc.seq fun K118 hK118 => ?_
 refine Wc.regionPlan [72, 75, 77] (frm [72, 75, 77] ([] : List Fact) ([] : List Fact)) (chainP [0, 1, 2, 3, 4, 5, 6, 7, 8] (.alt (chainP [9] (chainP [10, 11, 12] .done)) (chainP [10] (chainP [9, 11, 12] .done)))) (fun _ => rfl) mixed (by decide +kernel) (by decide +kernel) fun w120 hw119 => ?_
 replace hC := hC.step (Fr.of_drew hw119)
 have hM := Fr.refl (fun k => k ∈ blocks ([] : List Fact)) w120
 clear hw119
 have hS := hC
 have hD : Fr (fun k => k ∈ blocks (([] : List Fact) ++ ([] : List Fact))) w120 w120 := hM.wide
 refine mixPE_chain ?_
 refine mp (.slice Alist_1 list_1.length clist_1) (pu_move e1) ?_
 refine mp (.int .i64 v13_1) (pu_move e13) ?_
 obtain ⟨x121, h122, hb⟩ := bd hb
 obtain ⟨ad123, cs124, hA, ho127, hc125, hr126⟩ := hS.elr2 (i := 2) rfl (get_some h122).2 []
 subst hA
 refine mp (.pointer (some (ad123.add (v13_1.toNat * 8)))) (pu_index (a := v13_1) Try.underlying68 Try.sizeOf105 rfl rfl (get_some h122).1) ?_
 obtain ⟨k128, k129, rfl, hr130, hr131⟩ := hr126
 obtain ⟨k132, k133, rfl, hr134, hr135⟩ := hr130
 obtain ⟨rfl, hr134⟩ := hr134
 obtain ⟨k136, k137, rfl, hr138, hr139⟩ := hr135
 obtain ⟨rfl, hr138⟩ := hr138
 obtain ⟨rfl, hr139⟩ := hr139
 obtain ⟨k140, k141, rfl, hr142, hr143⟩ := hr131
 obtain ⟨k144, k145, rfl, hr146, hr147⟩ := hr142
 obtain ⟨rfl, hr146⟩ := hr146
 obtain ⟨k148, k149, rfl, hr150, hr151⟩ := hr147
 obtain ⟨rfl, hr150⟩ := hr150
 obtain ⟨rfl, hr151⟩ := hr151
 obtain ⟨k152, k153, rfl, hr154, hr155⟩ := hr143
 obtain ⟨rfl, hr154⟩ := hr154
 obtain ⟨rfl, hr155⟩ := hr155
 refine mixE.steady hD (v := .agg #[.int .i64 x121.1.1, .int .i64 x121.1.2.1, .int .i64 x121.1.2.2, .int .i64 x121.2.1.1, .int .i64 x121.2.1.2.1, .int .i64 x121.2.1.2.2, .int .i64 x121.2.2.1, .int .i64 x121.2.2.2]) (fun _ hF => ld_agg Try.isAgg105 Try.sizeOf105 rfl rfl (fun j u hu => hF.cell (hc125 j u hu) (off2 ho127))) ?_
 refine mp (.slice (some ad123) list_1.length clist_1) (pu_move e1) ?_
 refine mp (.pointer (some ((⟨g96, 0, none⟩ : Addr).add 0))) (pu_field (sz := 1) Try.underlying107 rfl Try.sizeOf3 (by decide) rfl e15) ?_
 refine mixE.steady hD (v := .int .i64 x86.1) (fun _ hF => ld_fld (hS.bx2 (i := 1) rfl [] (by decide) hF) Try.isAgg3 rfl rfl) ?_
 obtain ⟨x156, h157, hb⟩ := bd hb
 obtain ⟨ad158, cs159, hA, ho162, hc160, hr161⟩ := hS.elr2 (i := 2) rfl (get_some h157).2 []
 obtain rfl := Option.some.inj hA
 refine mp (.pointer (some (ad123.add (x86.1.toNat * 8)))) (pu_index (a := x86.1) Try.underlying68 Try.sizeOf105 rfl rfl (get_some h157).1) ?_
 obtain ⟨k163, k164, rfl, hr165, hr166⟩ := hr161
 obtain ⟨k167, k168, rfl, hr169, hr170⟩ := hr165
 obtain ⟨rfl, hr169⟩ := hr169
 obtain ⟨k171, k172, rfl, hr173, hr174⟩ := hr170
 obtain ⟨rfl, hr173⟩ := hr173
 obtain ⟨rfl, hr174⟩ := hr174
 obtain ⟨k175, k176, rfl, hr177, hr178⟩ := hr166
 obtain ⟨k179, k180, rfl, hr181, hr182⟩ := hr177
 obtain ⟨rfl, hr181⟩ := hr181
 obtain ⟨k183, k184, rfl, hr185, hr186⟩ := hr182
 obtain ⟨rfl, hr185⟩ := hr185
 obtain ⟨rfl, hr186⟩ := hr186
 obtain ⟨k187, k188, rfl, hr189, hr190⟩ := hr178
 obtain ⟨rfl, hr189⟩ := hr189
 obtain ⟨rfl, hr190⟩ := hr190
 refine mixE.steady hD (v := .agg #[.int .i64 x156.1.1, .int .i64 x156.1.2.1, .int .i64 x156.1.2.2, .int .i64 x156.2.1.1, .int .i64 x156.2.1.2.1, .int .i64 x156.2.1.2.2, .int .i64 x156.2.2.1, .int .i64 x156.2.2.2]) (fun _ hF => ld_agg Try.isAgg105 Try.sizeOf105 rfl rfl (fun j u hu => hF.cell (hc160 j u hu) (off2 ho162))) ?_
 refine mixE.nil ?_
 refine mixPE_alt ?_ ?_
 refine mixPE_chain ?_
 refine mixE.op hM (hC.alloc (cs := [.int .i64 0, .int .i64 0, .int .i64 0, .int .i64 0, .int .i64 0, .int .i64 0, .int .i64 0, .int .i64 0]) Try.zeroValue105 rfl) ?_
 rintro _ w192 ⟨g191, rfl, hC, hF, hG⟩
 have hUf193 : g191 < w120.heap.size → g191 ∈ blocks (([] : List Fact) ++ ([] : List Fact)) := fun h => absurd (Nat.lt_of_lt_of_le h (Nat.le_trans hM.size hG)) (Nat.lt_irrefl _)
 clear hG
 replace hM := hM.none hF
 replace hD := hM.wide (H := ([] : List Fact))
 refine ⟨hM, ?_⟩
 refine mixE.nil ?_
 refine mixPE_chain ?_
 refine mixE.op hM (hC.alloc (cs := [.int .i64 0, .int .i64 0, .int .i64 0, .int .i64 0, .int .i64 0, .int .i64 0, .int .i64 0, .int .i64 0]) Try.zeroValue105 rfl) ?_
 rintro _ w195 ⟨g194, rfl, hC, hF, hG⟩
 have hUf196 : g194 < w120.heap.size → g194 ∈ blocks (([] : List Fact) ++ ([] : List Fact)) := fun h => absurd (Nat.lt_of_lt_of_le h (Nat.le_trans hM.size hG)) (Nat.lt_irrefl _)
 clear hG
 replace hM := hM.none hF
 replace hD := hM.wide (H := ([] : List Fact))
 refine ⟨hM, ?_⟩
 refine mixE.sk hD (hC.seta (i := 1) (ds := [.int .i64 x121.1.1, .int .i64 x121.1.2.1, .int .i64 x121.1.2.2, .int .i64 x121.2.1.1, .int .i64 x121.2.1.2.1, .int .i64 x121.2.1.2.2, .int .i64 x121.2.2.1, .int .i64 x121.2.2.2]) rfl Try.type105 rfl rfl rfl rfl rfl) ?_
 rintro w197 ⟨hC, hF⟩
 replace hD := hD.besideG hUf193 hF
 clear hF
 refine ⟨hD, ?_⟩
 refine mixE.sk hD (hC.seta (i := 0) (ds := [.int .i64 x156.1.1, .int .i64 x156.1.2.1, .int .i64 x156.1.2.2, .int .i64 x156.2.1.1, .int .i64 x156.2.1.2.1, .int .i64 x156.2.1.2.2, .int .i64 x156.2.2.1, .int .i64 x156.2.2.2]) rfl Try.type105 rfl rfl rfl rfl rfl) ?_
 rintro w198 ⟨hC, hF⟩
 replace hD := hD.besideG hUf196 hF
 clear hF
 refine ⟨hD, ?_⟩
 refine mixE.nil ?_
 clear hS hM
 clear hD
 refine hK118 _ _ ?_
 refine Wc.fresh fun E199 hE => ?_
 have e1 := (congrFun hE 1).trans e1
 have e2 := (congrFun hE 2).trans e2
 have e6 := (congrFun hE 6).trans e6
 have e7 := (congrFun hE 7).trans e7
 have e8 := (congrFun hE 8).trans e8
 have e9 := (congrFun hE 9).trans e9
 have e11 := (congrFun hE 11).trans e11
 have e12 := (congrFun hE 12).trans e12
 have e13 := (congrFun hE 13).trans e13
 have e15 := (congrFun hE 15).trans e15
 have e16 := (congrFun hE 16).trans e16
 have e17 : E199 17 = .int .i64 (kf11_1_2.length : Int) := (congrFun hE 17).trans rfl
 have e18 := (congrFun hE 18).trans e18
 have e19 : E199 19 = .pointer (some ⟨g191, 0, none⟩) := (congrFun hE 19).trans rfl
 have e20 : E199 20 = .pointer (some ⟨g194, 0, none⟩) := (congrFun hE 20).trans rfl
 have e22 := (congrFun hE 22).trans e22
 have e23 := (congrFun hE 23).trans e23
 have e24 := (congrFun hE 24).trans e24
 have e25 := (congrFun hE 25).trans e25
 have e34 := (congrFun hE 34).trans e34
 have e40 := (congrFun hE 40).trans e40
 have e41 := (congrFun hE 41).trans e41
 have e42 := (congrFun hE 42).trans e42
 have e43 := (congrFun hE 43).trans e43
 have e62 := (congrFun hE 62).trans e62
 clear hE
 refine Wc.seq fun K200 hK200 => ?_
 refine Wc.seq fun K201 hK201 => ?_
 refine rg ?_
 refine lp (.pointer (some ((⟨g96, 0, none⟩ : Addr).add 1))) (pu_field (sz := 1) Try.underlying107 rfl Try.sizeOf4 (by decide) rfl e15) ?_
 refine lv (.bool x86.2) (ld_fld (hC.bx (i := 3) rfl) Try.isAgg4 rfl rfl) ?_
 refine lp (.bool (!x86.2)) (pu_not (q := x86.2) rfl) ?_
 refine ln ?_
 refine hK201 _ _ ?_
 refine Wc.cond (t := (!x86.2)) (rfl) (fun hq202 => ?_) (fun hq202 => ?_)
 replace hb := tt hq202 hb
 refine rg ?_
 refine lv (.agg #[.int .i64 x156.1.1, .int .i64 x156.1.2.1, .int .i64 x156.1.2.2, .int .i64 x156.2.1.1, .int .i64 x156.2.1.2.1, .int .i64 x156.2.1.2.2, .int .i64 x156.2.2.1, .int .i64 x156.2.2.2]) (ld_blk (hC.bx (i := 0) rfl) Try.isAgg105 Try.sizeOf105 e20) ?_
 refine lv (.agg #[.int .i64 x121.1.1, .int .i64 x121.1.2.1, .int .i64 x121.1.2.2, .int .i64 x121.2.1.1, .int .i64 x121.2.1.2.1, .int .i64 x121.2.1.2.2, .int .i64 x121.2.2.1, .int .i64 x121.2.2.2]) (ld_blk (hC.bx (i := 1) rfl) Try.isAgg105 Try.sizeOf105 e19) ?_
 refine lex.sk (hC.seta (i := 1) (ds := [.int .i64 x156.1.1, .int .i64 x156.1.2.1, .int .i64 x156.1.2.2, .int .i64 x156.2.1.1, .int .i64 x156.2.1.2.1, .int .i64 x156.2.1.2.2, .int .i64 x156.2.2.1, .int .i64 x156.2.2.2]) rfl Try.type105 rfl rfl rfl e19 rfl) ?_
 rintro w203 ⟨hC, hF⟩
 refine lex.sk (hC.seta (i := 0) (ds := [.int .i64 x121.1.1, .int .i64 x121.1.2.1, .int .i64 x121.1.2.2, .int .i64 x121.2.1.1, .int .i64 x121.2.1.2.1, .int .i64 x121.2.1.2.2, .int .i64 x121.2.2.1, .int .i64 x121.2.2.2]) rfl Try.type105 rfl rfl rfl e20 rfl) ?_
 rintro w204 ⟨hC, hF⟩
 refine ln ?_
 refine hK200 _ _ ?_
 refine Wc.regionMix [85, 86] (frm [85, 86] [.own 3 (.int .i64) (.slice Akf11_1_2 kf11_1_2.length ckf11_1_2) kf11_1_2] [.box g9 77 [.slice Akf11_0_0 kf11_0_0.length ckf11_0_0, .slice Akf11_1_2 kf11_1_2.length ckf11_1_2, .int .i64 bf11_2_0]]) (fun _ => rfl) mixed (by decide +kernel) (by decide +kernel) fun w206 hw205 => ?_
 replace hC := hC.step (Fr.of_drew hw205)
 have hM := Fr.refl (fun k => k ∈ blocks [.own 3 (.int .i64) (.slice Akf11_1_2 kf11_1_2.length ckf11_1_2) kf11_1_2]) w206
 clear hw205
 have hS := hC
 have hBFf11_1_2 : Beside [.own 3 (.int .i64) (.slice Akf11_1_2 kf11_1_2.length ckf11_1_2) kf11_1_2] w206 (.slice Akf11_1_2 kf11_1_2.length ckf11_1_2) := Beside.of (i := 0) rfl
 have hD : Fr (fun k => k ∈ blocks ([.own 3 (.int .i64) (.slice Akf11_1_2 kf11_1_2.length ckf11_1_2) kf11_1_2] ++ [.box g9 77 [.slice Akf11_0_0 kf11_0_0.length ckf11_0_0, .slice Akf11_1_2 kf11_1_2.length ckf11_1_2, .int .i64 bf11_2_0]])) w206 w206 := hM.wide
 have hUFf11_1_2 : Beside ([.own 3 (.int .i64) (.slice Akf11_1_2 kf11_1_2.length ckf11_1_2) kf11_1_2] ++ [.box g9 77 [.slice Akf11_0_0 kf11_0_0.length ckf11_0_0, .slice Akf11_1_2 kf11_1_2.length ckf11_1_2, .int .i64 bf11_2_0]]) w206 (.slice Akf11_1_2 kf11_1_2.length ckf11_1_2) := Beside.of (i := 0) rfl
 have hUf11 : g9 < w206.heap.size → g9 ∈ blocks ([.own 3 (.int .i64) (.slice Akf11_1_2 kf11_1_2.length ckf11_1_2) kf11_1_2] ++ [.box g9 77 [.slice Akf11_0_0 kf11_0_0.length ckf11_0_0, .slice Akf11_1_2 kf11_1_2.length ckf11_1_2, .int .i64 bf11_2_0]]) := fun _ => box_in (i := 1) rfl
 refine mp (.pointer (some ((⟨g9, 0, none⟩ : Addr).add 1))) (pu_field (sz := 1) Try.underlying77 rfl Try.sizeOf30 (by decide) rfl e7) ?_
 refine mixE.load hM (v := .slice Akf11_1_2 kf11_1_2.length ckf11_1_2) (fun _ hF => ld_fld (hS.bx2 (i := 7) rfl [9] (by decide) hF) Try.isAgg30 rfl rfl) ?_
 refine mixE.steady hD (v := .agg #[.int .i64 x156.1.1, .int .i64 x156.1.2.1, .int .i64 x156.1.2.2, .int .i64 x156.2.1.1, .int .i64 x156.2.1.2.1, .int .i64 x156.2.1.2.2, .int .i64 x156.2.2.1, .int .i64 x156.2.2.2]) (fun _ hF => ld_blk (hS.bx2 (i := 1) rfl [9, 7] (by decide) hF) Try.isAgg105 Try.sizeOf105 e19) ?_
 refine mixE.steady hD (v := .agg #[.int .i64 x121.1.1, .int .i64 x121.1.2.1, .int .i64 x121.1.2.2, .int .i64 x121.2.1.1, .int .i64 x121.2.1.2.1, .int .i64 x121.2.1.2.2, .int .i64 x121.2.2.1, .int .i64 x121.2.2.2]) (fun _ hF => ld_blk (hS.bx2 (i := 0) rfl [9, 7] (by decide) hF) Try.isAgg105 Try.sizeOf105 e20) ?_
 obtain ⟨y207, h208, hb⟩ := bd hb
 refine mixE.cl hM (⟨_, _, op_call (vs := [.agg #[.int .i64 x156.1.1, .int .i64 x156.1.2.1, .int .i64 x156.1.2.2, .int .i64 x156.2.1.1, .int .i64 x156.2.1.2.1, .int .i64 x156.2.1.2.2, .int .i64 x156.2.2.1, .int .i64 x156.2.2.2], .agg #[.int .i64 x121.1.1, .int .i64 x121.1.2.1, .int .i64 x121.1.2.2, .int .i64 x121.2.1.1, .int .i64 x121.2.1.2.1, .int .i64 x121.2.1.2.2, .int .i64 x121.2.2.1, .int .i64 x121.2.2.2]]) Try.call87 rfl rfl rfl, polygon_sign_ok n hC.lt (wrap_I64 hr169) (wrap_I64 hr173) (wrap_I64 hr174) (wrap_I64 hr181) (wrap_I64 hr185) (wrap_I64 hr186) (wrap_I64 hr189) (wrap_I64 hr190) (wrap_I64 hr134) (wrap_I64 hr138) (wrap_I64 hr139) (wrap_I64 hr146) (wrap_I64 hr150) (wrap_I64 hr151) (wrap_I64 hr154) (wrap_I64 hr155) h208⟩) ?_
 rintro _ w210 ⟨rfl, hr209, hK⟩
 replace hM := hM.none hK.fr
 replace hD := hM.wide (H := [.box g9 77 [.slice Akf11_0_0 kf11_0_0.length ckf11_0_0, .slice Akf11_1_2 kf11_1_2.length ckf11_1_2, .int .i64 bf11_2_0]])
 refine ⟨hM, ?_⟩
 replace hC := hC.merge hK
 clear hK
 refine mixE.op hM (hC.lit (s := (.int .i64)) (vs := [.int .i64 y207]) (xs := [y207]) Try.underlying30 Try.type3 rfl rfl (Nat.le_of_ble_eq_true rfl) rfl rfl (by simp [Value.cells, Sh.n]) rfl (show Elems _ _ (.int .i64) ([.int .i64 y207] ++ ([])) ([y207] : List Int) from Elems.cons (⟨rfl, I64.wr hr209⟩) (Elems.nil _ _ _))) ?_
 rintro _ w215 ⟨A211, c212, rfl, hl213, hc214, hC, hF, hN⟩
 have hBf216 := Beside.new hM hN
 have hUf216 := Beside.new (hM.wide (H := [.box g9 77 [.slice Akf11_0_0 kf11_0_0.length ckf11_0_0, .slice Akf11_1_2 kf11_1_2.length ckf11_1_2, .int .i64 bf11_2_0]])) hN
 replace hM := hM.none hF
 replace hD := hM.wide (H := [.box g9 77 [.slice Akf11_0_0 kf11_0_0.length ckf11_0_0, .slice Akf11_1_2 kf11_1_2.length ckf11_1_2, .int .i64 bf11_2_0]])
 refine ⟨hM, ?_⟩
 clear hF hN
 obtain ⟨u217, h218, hb⟩ := bd hb
 refine mixE.op hM (hC.app (i := 10) (s := (.int .i64)) (xs := kf11_1_2) (ys := ([y207] : List Int)) (m := ((([y207] : List Int)).length)) rfl Try.underlying30 Try.underlying30 Try.type3 rfl rfl rfl (hC.srco (i := 0) rfl) rfl rfl (by have := lim_some h218; simp at this ⊢ <;> omega) (by decide)) ?_
 rintro _ w223 ⟨A219, c220, rfl, hl221, hc222, hC, hF, hN⟩
 have hB := hBFf11_1_2
 replace hBFf11_1_2 := hB.app hM hN
 replace hM := hM.beside hB hF
 clear hB
 replace hD := hM.wide (H := [.box g9 77 [.slice Akf11_0_0 kf11_0_0.length ckf11_0_0, .slice Akf11_1_2 kf11_1_2.length ckf11_1_2, .int .i64 bf11_2_0]])
 refine ⟨hM, ?_⟩
 clear hF hN
 refine mp (.pointer (some ((⟨g9, 0, none⟩ : Addr).add 1))) (pu_field (sz := 1) Try.underlying77 rfl Try.sizeOf30 (by decide) rfl e7) ?_
 refine mixE.sk hD (hC.setf (i := 8) (k := 1) (v := .slice A219 ((kf11_1_2 ++ ([y207] : List Int)).length) c220) rfl Try.sizeOf30 rfl rfl rfl rfl) ?_
 rintro w224 ⟨hC, hF⟩
 replace hD := hD.besideG hUf11 hF
 clear hF
 refine ⟨hD, ?_⟩
 refine mixE.nil ?_
 clear hS hM
 clear hD
 exact hK109 _ _ ⟨(kf11_1_2.length : Int), (!(mget qf15_2 ((min v13_1 x86.1), (max v13_1 x86.1))).isSome), (kf11_1_2 ++ ([y207] : List Int)), (qf15_2 ++ [(((min v13_1 x86.1), (max v13_1 x86.1)), (kf11_1_2.length : Int))]), A219, (kf11_1_2 ++ ([y207] : List Int)).length, c220, e1, e2, e6, e7, e8, e9, e11, e12, e13, e15, e16, e17, e18, e22, e23, e24, e25, e34, e40, e41, e42, e43, e62, (I64.len hlkf11_1_2 hckf11_1_2), hC.sel [5, 6, 7, 8, 9, 10, 11, 12, 13, 4, 3, 14, 15] (by decide), hb⟩
 replace hb := tf hq202 hb
 refine Wc.skip ?_
 refine hK200 _ _ ?_
 refine Wc.regionMix [85, 86] (frm [85, 86] [.own 3 (.int .i64) (.slice Akf11_1_2 kf11_1_2.length ckf11_1_2) kf11_1_2] [.box g9 77 [.slice Akf11_0_0 kf11_0_0.length ckf11_0_0, .slice Akf11_1_2 kf11_1_2.length ckf11_1_2, .int .i64 bf11_2_0]]) (fun _ => rfl) mixed (by decide +kernel) (by decide +kernel) fun w226 hw225 => ?_
 replace hC := hC.step (Fr.of_drew hw225)
 have hM := Fr.refl (fun k => k ∈ blocks [.own 3 (.int .i64) (.slice Akf11_1_2 kf11_1_2.length ckf11_1_2) kf11_1_2]) w226
 clear hw225
 have hS := hC
 have hBFf11_1_2 : Beside [.own 3 (.int .i64) (.slice Akf11_1_2 kf11_1_2.length ckf11_1_2) kf11_1_2] w226 (.slice Akf11_1_2 kf11_1_2.length ckf11_1_2) := Beside.of (i := 0) rfl
 have hD : Fr (fun k => k ∈ blocks ([.own 3 (.int .i64) (.slice Akf11_1_2 kf11_1_2.length ckf11_1_2) kf11_1_2] ++ [.box g9 77 [.slice Akf11_0_0 kf11_0_0.length ckf11_0_0, .slice Akf11_1_2 kf11_1_2.length ckf11_1_2, .int .i64 bf11_2_0]])) w226 w226 := hM.wide
 have hUFf11_1_2 : Beside ([.own 3 (.int .i64) (.slice Akf11_1_2 kf11_1_2.length ckf11_1_2) kf11_1_2] ++ [.box g9 77 [.slice Akf11_0_0 kf11_0_0.length ckf11_0_0, .slice Akf11_1_2 kf11_1_2.length ckf11_1_2, .int .i64 bf11_2_0]]) w226 (.slice Akf11_1_2 kf11_1_2.length ckf11_1_2) := Beside.of (i := 0) rfl
 have hUf11 : g9 < w226.heap.size → g9 ∈ blocks ([.own 3 (.int .i64) (.slice Akf11_1_2 kf11_1_2.length ckf11_1_2) kf11_1_2] ++ [.box g9 77 [.slice Akf11_0_0 kf11_0_0.length ckf11_0_0, .slice Akf11_1_2 kf11_1_2.length ckf11_1_2, .int .i64 bf11_2_0]]) := fun _ => box_in (i := 1) rfl
 refine mp (.pointer (some ((⟨g9, 0, none⟩ : Addr).add 1))) (pu_field (sz := 1) Try.underlying77 rfl Try.sizeOf30 (by decide) rfl e7) ?_
 refine mixE.load hM (v := .slice Akf11_1_2 kf11_1_2.length ckf11_1_2) (fun _ hF => ld_fld (hS.bx2 (i := 7) rfl [9] (by decide) hF) Try.isAgg30 rfl rfl) ?_
 refine mixE.steady hD (v := .agg #[.int .i64 x121.1.1, .int .i64 x121.1.2.1, .int .i64 x121.1.2.2, .int .i64 x121.2.1.1, .int .i64 x121.2.1.2.1, .int .i64 x121.2.1.2.2, .int .i64 x121.2.2.1, .int .i64 x121.2.2.2]) (fun _ hF => ld_blk (hS.bx2 (i := 1) rfl [9, 7] (by decide) hF) Try.isAgg105 Try.sizeOf105 e19) ?_
 refine mixE.steady hD (v := .agg #[.int .i64 x156.1.1, .int .i64 x156.1.2.1, .int .i64 x156.1.2.2, .int .i64 x156.2.1.1, .int .i64 x156.2.1.2.1, .int .i64 x156.2.1.2.2, .int .i64 x156.2.2.1, .int .i64 x156.2.2.2]) (fun _ hF => ld_blk (hS.bx2 (i := 0) rfl [9, 7] (by decide) hF) Try.isAgg105 Try.sizeOf105 e20) ?_
 obtain ⟨y227, h228, hb⟩ := bd hb
 refine mixE.cl hM (⟨_, _, op_call (vs := [.agg #[.int .i64 x121.1.1, .int .i64 x121.1.2.1, .int .i64 x121.1.2.2, .int .i64 x121.2.1.1, .int .i64 x121.2.1.2.1, .int .i64 x121.2.1.2.2, .int .i64 x121.2.2.1, .int .i64 x121.2.2.2], .agg #[.int .i64 x156.1.1, .int .i64 x156.1.2.1, .int .i64 x156.1.2.2, .int .i64 x156.2.1.1, .int .i64 x156.2.1.2.1, .int .i64 x156.2.1.2.2, .int .i64 x156.2.2.1, .int .i64 x156.2.2.2]]) Try.call87 rfl rfl rfl, polygon_sign_ok n hC.lt (wrap_I64 hr134) (wrap_I64 hr138) (wrap_I64 hr139) (wrap_I64 hr146) (wrap_I64 hr150) (wrap_I64 hr151) (wrap_I64 hr154) (wrap_I64 hr155) (wrap_I64 hr169) (wrap_I64 hr173) (wrap_I64 hr174) (wrap_I64 hr181) (wrap_I64 hr185) (wrap_I64 hr186) (wrap_I64 hr189) (wrap_I64 hr190) h228⟩) ?_
 rintro _ w230 ⟨rfl, hr229, hK⟩
 replace hM := hM.none hK.fr
 replace hD := hM.wide (H := [.box g9 77 [.slice Akf11_0_0 kf11_0_0.length ckf11_0_0, .slice Akf11_1_2 kf11_1_2.length ckf11_1_2, .int .i64 bf11_2_0]])
 refine ⟨hM, ?_⟩
 replace hC := hC.merge hK
 clear hK
 refine mixE.op hM (hC.lit (s := (.int .i64)) (vs := [.int .i64 y227]) (xs := [y227]) Try.underlying30 Try.type3 rfl rfl (Nat.le_of_ble_eq_true rfl) rfl rfl (by simp [Value.cells, Sh.n]) rfl (show Elems _ _ (.int .i64) ([.int .i64 y227] ++ ([])) ([y227] : List Int) from Elems.cons (⟨rfl, I64.wr hr229⟩) (Elems.nil _ _ _))) ?_
 rintro _ w235 ⟨A231, c232, rfl, hl233, hc234, hC, hF, hN⟩
 have hBf236 := Beside.new hM hN
 have hUf236 := Beside.new (hM.wide (H := [.box g9 77 [.slice Akf11_0_0 kf11_0_0.length ckf11_0_0, .slice Akf11_1_2 kf11_1_2.length ckf11_1_2, .int .i64 bf11_2_0]])) hN
 replace hM := hM.none hF
 replace hD := hM.wide (H := [.box g9 77 [.slice Akf11_0_0 kf11_0_0.length ckf11_0_0, .slice Akf11_1_2 kf11_1_2.length ckf11_1_2, .int .i64 bf11_2_0]])
 refine ⟨hM, ?_⟩
 clear hF hN
 obtain ⟨u237, h238, hb⟩ := bd hb
 refine mixE.op hM (hC.app (i := 10) (s := (.int .i64)) (xs := kf11_1_2) (ys := ([y227] : List Int)) (m := ((([y227] : List Int)).length)) rfl Try.underlying30 Try.underlying30 Try.type3 rfl rfl rfl (hC.srco (i := 0) rfl) rfl rfl (by have := lim_some h238; simp at this ⊢ <;> omega) (by decide)) ?_
 rintro _ w243 ⟨A239, c240, rfl, hl241, hc242, hC, hF, hN⟩
 have hB := hBFf11_1_2
 replace hBFf11_1_2 := hB.app hM hN
 replace hM := hM.beside hB hF
 clear hB
 replace hD := hM.wide (H := [.box g9 77 [.slice Akf11_0_0 kf11_0_0.length ckf11_0_0, .slice Akf11_1_2 kf11_1_2.length ckf11_1_2, .int .i64 bf11_2_0]])
 refine ⟨hM, ?_⟩
 clear hF hN
 refine mp (.pointer (some ((⟨g9, 0, none⟩ : Addr).add 1))) (pu_field (sz := 1) Try.underlying77 rfl Try.sizeOf30 (by decide) rfl e7) ?_
 refine mixE.sk hD (hC.setf (i := 8) (k := 1) (v := .slice A239 ((kf11_1_2 ++ ([y227] : List Int)).length) c240) rfl Try.sizeOf30 rfl rfl rfl rfl) ?_
 rintro w244 ⟨hC, hF⟩
 replace hD := hD.besideG hUf11 hF
 clear hF
 refine ⟨hD, ?_⟩
 refine mixE.nil ?_
 clear hS hM
 clear hD
 exact hK109 _ _ ⟨(kf11_1_2.length : Int), (!(mget qf15_2 ((min v13_1 x86.1), (max v13_1 x86.1))).isSome), (kf11_1_2 ++ ([y227] : List Int)), (qf15_2 ++ [(((min v13_1 x86.1), (max v13_1 x86.1)), (kf11_1_2.length : Int))]), A239, (kf11_1_2 ++ ([y227] : List Int)).length, c240, e1, e2, e6, e7, e8, e9, e11, e12, e13, e15, e16, e17, e18, e22, e23, e24, e25, e34, e40, e41, e42, e43, e62, (I64.len hlkf11_1_2 hckf11_1_2), hC.sel [5, 6, 7, 8, 9, 10, 11, 12, 13, 4, 3, 14, 15] (by decide), hb⟩
 refine mixPE_chain ?_
 refine mixE.op hM (hC.alloc (cs := [.int .i64 0, .int .i64 0, .int .i64 0, .int .i64 0, .int .i64 0, .int .i64 0, .int .i64 0, .int .i64 0]) Try.zeroValue105 rfl) ?_
 rintro _ w246 ⟨g245, rfl, hC, hF, hG⟩
 have hUf247 : g245 < w120.heap.size → g245 ∈ blocks (([] : List Fact) ++ ([] : List Fact)) := fun h => absurd (Nat.lt_of_lt_of_le h (Nat.le_trans hM.size hG)) (Nat.lt_irrefl _)
 clear hG
 replace hM := hM.none hF
 replace hD := hM.wide (H := ([] : List Fact))
 refine ⟨hM, ?_⟩
 refine mixE.nil ?_
 refine mixPE_chain ?_
 refine mixE.op hM (hC.alloc (cs := [.int .i64 0, .int .i64 0, .int .i64 0, .int .i64 0, .int .i64 0, .int .i64 0, .int .i64 0, .int .i64 0]) Try.zeroValue105 rfl) ?_
 rintro _ w249 ⟨g248, rfl, hC, hF, hG⟩
 have hUf250 : g248 < w120.heap.size → g248 ∈ blocks (([] : List Fact) ++ ([] : List Fact)) := fun h => absurd (Nat.lt_of_lt_of_le h (Nat.le_trans hM.size hG)) (Nat.lt_irrefl _)
 clear hG
 replace hM := hM.none hF
 replace hD := hM.wide (H := ([] : List Fact))
 refine ⟨hM, ?_⟩
 refine mixE.sk hD (hC.seta (i := 0) (ds := [.int .i64 x121.1.1, .int .i64 x121.1.2.1, .int .i64 x121.1.2.2, .int .i64 x121.2.1.1, .int .i64 x121.2.1.2.1, .int .i64 x121.2.1.2.2, .int .i64 x121.2.2.1, .int .i64 x121.2.2.2]) rfl Try.type105 rfl rfl rfl rfl rfl) ?_
 rintro w251 ⟨hC, hF⟩
 replace hD := hD.besideG hUf250 hF
 clear hF
 refine ⟨hD, ?_⟩
 refine mixE.sk hD (hC.seta (i := 1) (ds := [.int .i64 x156.1.1, .int .i64 x156.1.2.1, .int .i64 x156.1.2.2, .int .i64 x156.2.1.1, .int .i64 x156.2.1.2.1, .int .i64 x156.2.1.2.2, .int .i64 x156.2.2.1, .int .i64 x156.2.2.2]) rfl Try.type105 rfl rfl rfl rfl rfl) ?_
 rintro w252 ⟨hC, hF⟩
 replace hD := hD.besideG hUf247 hF
 clear hF
 refine ⟨hD, ?_⟩
 refine mixE.nil ?_
 clear hS hM
 clear hD
 refine hK118 _ _ ?_
 refine Wc.fresh fun E253 hE => ?_
 have e1 := (congrFun hE 1).trans e1
 have e2 := (congrFun hE 2).trans e2
 have e6 := (congrFun hE 6).trans e6
 have e7 := (congrFun hE 7).trans e7
 have e8 := (congrFun hE 8).trans e8
 have e9 := (congrFun hE 9).trans e9
 have e11 := (congrFun hE 11).trans e11
 have e12 := (congrFun hE 12).trans e12
 have e13 := (congrFun hE 13).trans e13
 have e15 := (congrFun hE 15).trans e15
 have e16 := (congrFun hE 16).trans e16
 have e17 : E253 17 = .int .i64 (kf11_1_2.length : Int) := (congrFun hE 17).trans rfl
 have e18 := (congrFun hE 18).trans e18
 have e19 : E253 19 = .pointer (some ⟨g248, 0, none⟩) := (congrFun hE 19).trans rfl
 have e20 : E253 20 = .pointer (some ⟨g245, 0, none⟩) := (congrFun hE 20).trans rfl
 have e22 := (congrFun hE 22).trans e22
 have e23 := (congrFun hE 23).trans e23
 have e24 := (congrFun hE 24).trans e24
 have e25 := (congrFun hE 25).trans e25
 have e34 := (congrFun hE 34).trans e34
 have e40 := (congrFun hE 40).trans e40
 have e41 := (congrFun hE 41).trans e41
 have e42 := (congrFun hE 42).trans e42
 have e43 := (congrFun hE 43).trans e43
 have e62 := (congrFun hE 62).trans e62
 clear hE
 refine Wc.seq fun K254 hK254 => ?_
 refine Wc.seq fun K255 hK255 => ?_
 refine rg ?_
 refine lp (.pointer (some ((⟨g96, 0, none⟩ : Addr).add 1))) (pu_field (sz := 1) Try.underlying107 rfl Try.sizeOf4 (by decide) rfl e15) ?_
 refine lv (.bool x86.2) (ld_fld (hC.bx (i := 3) rfl) Try.isAgg4 rfl rfl) ?_
 refine lp (.bool (!x86.2)) (pu_not (q := x86.2) rfl) ?_
 refine ln ?_
 refine hK255 _ _ ?_
 refine Wc.cond (t := (!x86.2)) (rfl) (fun hq256 => ?_) (fun hq256 => ?_)
 replace hb := tt hq256 hb
 refine rg ?_
 refine lv (.agg #[.int .i64 x156.1.1, .int .i64 x156.1.2.1, .int .i64 x156.1.2.2, .int .i64 x156.2.1.1, .int .i64 x156.2.1.2.1, .int .i64 x156.2.1.2.2, .int .i64 x156.2.2.1, .int .i64 x156.2.2.2]) (ld_blk (hC.bx (i := 1) rfl) Try.isAgg105 Try.sizeOf105 e20) ?_
 refine lv (.agg #[.int .i64 x121.1.1, .int .i64 x121.1.2.1, .int .i64 x121.1.2.2, .int .i64 x121.2.1.1, .int .i64 x121.2.1.2.1, .int .i64 x121.2.1.2.2, .int .i64 x121.2.2.1, .int .i64 x121.2.2.2]) (ld_blk (hC.bx (i := 0) rfl) Try.isAgg105 Try.sizeOf105 e19) ?_
 refine lex.sk (hC.seta (i := 0) (ds := [.int .i64 x156.1.1, .int .i64 x156.1.2.1, .int .i64 x156.1.2.2, .int .i64 x156.2.1.1, .int .i64 x156.2.1.2.1, .int .i64 x156.2.1.2.2, .int .i64 x156.2.2.1, .int .i64 x156.2.2.2]) rfl Try.type105 rfl rfl rfl e19 rfl) ?_
 rintro w257 ⟨hC, hF⟩
 refine lex.sk (hC.seta (i := 1) (ds := [.int .i64 x121.1.1, .int .i64 x121.1.2.1, .int .i64 x121.1.2.2, .int .i64 x121.2.1.1, .int .i64 x121.2.1.2.1, .int .i64 x121.2.1.2.2, .int .i64 x121.2.2.1, .int .i64 x121.2.2.2]) rfl Try.type105 rfl rfl rfl e20 rfl) ?_
 rintro w258 ⟨hC, hF⟩
 refine ln ?_
 refine hK254 _ _ ?_
 refine Wc.regionMix [85, 86] (frm [85, 86] [.own 3 (.int .i64) (.slice Akf11_1_2 kf11_1_2.length ckf11_1_2) kf11_1_2] [.box g9 77 [.slice Akf11_0_0 kf11_0_0.length ckf11_0_0, .slice Akf11_1_2 kf11_1_2.length ckf11_1_2, .int .i64 bf11_2_0]]) (fun _ => rfl) mixed (by decide +kernel) (by decide +kernel) fun w260 hw259 => ?_
 replace hC := hC.step (Fr.of_drew hw259)
 have hM := Fr.refl (fun k => k ∈ blocks [.own 3 (.int .i64) (.slice Akf11_1_2 kf11_1_2.length ckf11_1_2) kf11_1_2]) w260
 clear hw259
 have hS := hC
 have hBFf11_1_2 : Beside [.own 3 (.int .i64) (.slice Akf11_1_2 kf11_1_2.length ckf11_1_2) kf11_1_2] w260 (.slice Akf11_1_2 kf11_1_2.length ckf11_1_2) := Beside.of (i := 0) rfl
 have hD : Fr (fun k => k ∈ blocks ([.own 3 (.int .i64) (.slice Akf11_1_2 kf11_1_2.length ckf11_1_2) kf11_1_2] ++ [.box g9 77 [.slice Akf11_0_0 kf11_0_0.length ckf11_0_0, .slice Akf11_1_2 kf11_1_2.length ckf11_1_2, .int .i64 bf11_2_0]])) w260 w260 := hM.wide
 have hUFf11_1_2 : Beside ([.own 3 (.int .i64) (.slice Akf11_1_2 kf11_1_2.length ckf11_1_2) kf11_1_2] ++ [.box g9 77 [.slice Akf11_0_0 kf11_0_0.length ckf11_0_0, .slice Akf11_1_2 kf11_1_2.length ckf11_1_2, .int .i64 bf11_2_0]]) w260 (.slice Akf11_1_2 kf11_1_2.length ckf11_1_2) := Beside.of (i := 0) rfl
 have hUf11 : g9 < w260.heap.size → g9 ∈ blocks ([.own 3 (.int .i64) (.slice Akf11_1_2 kf11_1_2.length ckf11_1_2) kf11_1_2] ++ [.box g9 77 [.slice Akf11_0_0 kf11_0_0.length ckf11_0_0, .slice Akf11_1_2 kf11_1_2.length ckf11_1_2, .int .i64 bf11_2_0]]) := fun _ => box_in (i := 1) rfl
 refine mp (.pointer (some ((⟨g9, 0, none⟩ : Addr).add 1))) (pu_field (sz := 1) Try.underlying77 rfl Try.sizeOf30 (by decide) rfl e7) ?_
 refine mixE.load hM (v := .slice Akf11_1_2 kf11_1_2.length ckf11_1_2) (fun _ hF => ld_fld (hS.bx2 (i := 7) rfl [9] (by decide) hF) Try.isAgg30 rfl rfl) ?_
 refine mixE.steady hD (v := .agg #[.int .i64 x156.1.1, .int .i64 x156.1.2.1, .int .i64 x156.1.2.2, .int .i64 x156.2.1.1, .int .i64 x156.2.1.2.1, .int .i64 x156.2.1.2.2, .int .i64 x156.2.2.1, .int .i64 x156.2.2.2]) (fun _ hF => ld_blk (hS.bx2 (i := 0) rfl [9, 7] (by decide) hF) Try.isAgg105 Try.sizeOf105 e19) ?_
 refine mixE.steady hD (v := .agg #[.int .i64 x121.1.1, .int .i64 x121.1.2.1, .int .i64 x121.1.2.2, .int .i64 x121.2.1.1, .int .i64 x121.2.1.2.1, .int .i64 x121.2.1.2.2, .int .i64 x121.2.2.1, .int .i64 x121.2.2.2]) (fun _ hF => ld_blk (hS.bx2 (i := 1) rfl [9, 7] (by decide) hF) Try.isAgg105 Try.sizeOf105 e20) ?_
 obtain ⟨y207, h262, hb⟩ := bd hb
 refine mixE.cl hM (⟨_, _, op_call (vs := [.agg #[.int .i64 x156.1.1, .int .i64 x156.1.2.1, .int .i64 x156.1.2.2, .int .i64 x156.2.1.1, .int .i64 x156.2.1.2.1, .int .i64 x156.2.1.2.2, .int .i64 x156.2.2.1, .int .i64 x156.2.2.2], .agg #[.int .i64 x121.1.1, .int .i64 x121.1.2.1, .int .i64 x121.1.2.2, .int .i64 x121.2.1.1, .int .i64 x121.2.1.2.1, .int .i64 x121.2.1.2.2, .int .i64 x121.2.2.1, .int .i64 x121.2.2.2]]) Try.call87 rfl rfl rfl, polygon_sign_ok n hC.lt (wrap_I64 hr169) (wrap_I64 hr173) (wrap_I64 hr174) (wrap_I64 hr181) (wrap_I64 hr185) (wrap_I64 hr186) (wrap_I64 hr189) (wrap_I64 hr190) (wrap_I64 hr134) (wrap_I64 hr138) (wrap_I64 hr139) (wrap_I64 hr146) (wrap_I64 hr150) (wrap_I64 hr151) (wrap_I64 hr154) (wrap_I64 hr155) h262⟩) ?_
 rintro _ w264 ⟨rfl, hr263, hK⟩
 replace hM := hM.none hK.fr
 replace hD := hM.wide (H := [.box g9 77 [.slice Akf11_0_0 kf11_0_0.length ckf11_0_0, .slice Akf11_1_2 kf11_1_2.length ckf11_1_2, .int .i64 bf11_2_0]])
 refine ⟨hM, ?_⟩
 replace hC := hC.merge hK
 clear hK
 refine mixE.op hM (hC.lit (s := (.int .i64)) (vs := [.int .i64 y207]) (xs := [y207]) Try.underlying30 Try.type3 rfl rfl (Nat.le_of_ble_eq_true rfl) rfl rfl (by simp [Value.cells, Sh.n]) rfl (show Elems _ _ (.int .i64) ([.int .i64 y207] ++ ([])) ([y207] : List Int) from Elems.cons (⟨rfl, I64.wr hr263⟩) (Elems.nil _ _ _))) ?_
 rintro _ w269 ⟨A265, c266, rfl, hl267, hc268, hC, hF, hN⟩
 have hBf270 := Beside.new hM hN
 have hUf270 := Beside.new (hM.wide (H := [.box g9 77 [.slice Akf11_0_0 kf11_0_0.length ckf11_0_0, .slice Akf11_1_2 kf11_1_2.length ckf11_1_2, .int .i64 bf11_2_0]])) hN
 replace hM := hM.none hF
 replace hD := hM.wide (H := [.box g9 77 [.slice Akf11_0_0 kf11_0_0.length ckf11_0_0, .slice Akf11_1_2 kf11_1_2.length ckf11_1_2, .int .i64 bf11_2_0]])
 refine ⟨hM, ?_⟩
 clear hF hN
 obtain ⟨u217, h272, hb⟩ := bd hb
 refine mixE.op hM (hC.app (i := 10) (s := (.int .i64)) (xs := kf11_1_2) (ys := ([y207] : List Int)) (m := ((([y207] : List Int)).length)) rfl Try.underlying30 Try.underlying30 Try.type3 rfl rfl rfl (hC.srco (i := 0) rfl) rfl rfl (by have := lim_some h272; simp at this ⊢ <;> omega) (by decide)) ?_
 rintro _ w277 ⟨A273, c274, rfl, hl275, hc276, hC, hF, hN⟩
 have hB := hBFf11_1_2
 replace hBFf11_1_2 := hB.app hM hN
 replace hM := hM.beside hB hF
 clear hB
 replace hD := hM.wide (H := [.box g9 77 [.slice Akf11_0_0 kf11_0_0.length ckf11_0_0, .slice Akf11_1_2 kf11_1_2.length ckf11_1_2, .int .i64 bf11_2_0]])
 refine ⟨hM, ?_⟩
 clear hF hN
 refine mp (.pointer (some ((⟨g9, 0, none⟩ : Addr).add 1))) (pu_field (sz := 1) Try.underlying77 rfl Try.sizeOf30 (by decide) rfl e7) ?_
 refine mixE.sk hD (hC.setf (i := 8) (k := 1) (v := .slice A273 ((kf11_1_2 ++ ([y207] : List Int)).length) c274) rfl Try.sizeOf30 rfl rfl rfl rfl) ?_
 rintro w278 ⟨hC, hF⟩
 replace hD := hD.besideG hUf11 hF
 clear hF
 refine ⟨hD, ?_⟩
 refine mixE.nil ?_
 clear hS hM
 clear hD
 exact hK109 _ _ ⟨(kf11_1_2.length : Int), (!(mget qf15_2 ((min v13_1 x86.1), (max v13_1 x86.1))).isSome), (kf11_1_2 ++ ([y207] : List Int)), (qf15_2 ++ [(((min v13_1 x86.1), (max v13_1 x86.1)), (kf11_1_2.length : Int))]), A273, (kf11_1_2 ++ ([y207] : List Int)).length, c274, e1, e2, e6, e7, e8, e9, e11, e12, e13, e15, e16, e17, e18, e22, e23, e24, e25, e34, e40, e41, e42, e43, e62, (I64.len hlkf11_1_2 hckf11_1_2), hC.sel [5, 6, 7, 8, 9, 10, 11, 12, 13, 4, 3, 14, 15] (by decide), hb⟩
 replace hb := tf hq256 hb
 refine Wc.skip ?_
 refine hK254 _ _ ?_
 refine Wc.regionMix [85, 86] (frm [85, 86] [.own 3 (.int .i64) (.slice Akf11_1_2 kf11_1_2.length ckf11_1_2) kf11_1_2] [.box g9 77 [.slice Akf11_0_0 kf11_0_0.length ckf11_0_0, .slice Akf11_1_2 kf11_1_2.length ckf11_1_2, .int .i64 bf11_2_0]]) (fun _ => rfl) mixed (by decide +kernel) (by decide +kernel) fun w280 hw279 => ?_
 replace hC := hC.step (Fr.of_drew hw279)
 have hM := Fr.refl (fun k => k ∈ blocks [.own 3 (.int .i64) (.slice Akf11_1_2 kf11_1_2.length ckf11_1_2) kf11_1_2]) w280
 clear hw279
 have hS := hC
 have hBFf11_1_2 : Beside [.own 3 (.int .i64) (.slice Akf11_1_2 kf11_1_2.length ckf11_1_2) kf11_1_2] w280 (.slice Akf11_1_2 kf11_1_2.length ckf11_1_2) := Beside.of (i := 0) rfl
 have hD : Fr (fun k => k ∈ blocks ([.own 3 (.int .i64) (.slice Akf11_1_2 kf11_1_2.length ckf11_1_2) kf11_1_2] ++ [.box g9 77 [.slice Akf11_0_0 kf11_0_0.length ckf11_0_0, .slice Akf11_1_2 kf11_1_2.length ckf11_1_2, .int .i64 bf11_2_0]])) w280 w280 := hM.wide
 have hUFf11_1_2 : Beside ([.own 3 (.int .i64) (.slice Akf11_1_2 kf11_1_2.length ckf11_1_2) kf11_1_2] ++ [.box g9 77 [.slice Akf11_0_0 kf11_0_0.length ckf11_0_0, .slice Akf11_1_2 kf11_1_2.length ckf11_1_2, .int .i64 bf11_2_0]]) w280 (.slice Akf11_1_2 kf11_1_2.length ckf11_1_2) := Beside.of (i := 0) rfl
 have hUf11 : g9 < w280.heap.size → g9 ∈ blocks ([.own 3 (.int .i64) (.slice Akf11_1_2 kf11_1_2.length ckf11_1_2) kf11_1_2] ++ [.box g9 77 [.slice Akf11_0_0 kf11_0_0.length ckf11_0_0, .slice Akf11_1_2 kf11_1_2.length ckf11_1_2, .int .i64 bf11_2_0]]) := fun _ => box_in (i := 1) rfl
 refine mp (.pointer (some ((⟨g9, 0, none⟩ : Addr).add 1))) (pu_field (sz := 1) Try.underlying77 rfl Try.sizeOf30 (by decide) rfl e7) ?_
 refine mixE.load hM (v := .slice Akf11_1_2 kf11_1_2.length ckf11_1_2) (fun _ hF => ld_fld (hS.bx2 (i := 7) rfl [9] (by decide) hF) Try.isAgg30 rfl rfl) ?_
 refine mixE.steady hD (v := .agg #[.int .i64 x121.1.1, .int .i64 x121.1.2.1, .int .i64 x121.1.2.2, .int .i64 x121.2.1.1, .int .i64 x121.2.1.2.1, .int .i64 x121.2.1.2.2, .int .i64 x121.2.2.1, .int .i64 x121.2.2.2]) (fun _ hF => ld_blk (hS.bx2 (i := 0) rfl [9, 7] (by decide) hF) Try.isAgg105 Try.sizeOf105 e19) ?_
 refine mixE.steady hD (v := .agg #[.int .i64 x156.1.1, .int .i64 x156.1.2.1, .int .i64 x156.1.2.2, .int .i64 x156.2.1.1, .int .i64 x156.2.1.2.1, .int .i64 x156.2.1.2.2, .int .i64 x156.2.2.1, .int .i64 x156.2.2.2]) (fun _ hF => ld_blk (hS.bx2 (i := 1) rfl [9, 7] (by decide) hF) Try.isAgg105 Try.sizeOf105 e20) ?_
 obtain ⟨y227, h282, hb⟩ := bd hb
 refine mixE.cl hM (⟨_, _, op_call (vs := [.agg #[.int .i64 x121.1.1, .int .i64 x121.1.2.1, .int .i64 x121.1.2.2, .int .i64 x121.2.1.1, .int .i64 x121.2.1.2.1, .int .i64 x121.2.1.2.2, .int .i64 x121.2.2.1, .int .i64 x121.2.2.2], .agg #[.int .i64 x156.1.1, .int .i64 x156.1.2.1, .int .i64 x156.1.2.2, .int .i64 x156.2.1.1, .int .i64 x156.2.1.2.1, .int .i64 x156.2.1.2.2, .int .i64 x156.2.2.1, .int .i64 x156.2.2.2]]) Try.call87 rfl rfl rfl, polygon_sign_ok n hC.lt (wrap_I64 hr134) (wrap_I64 hr138) (wrap_I64 hr139) (wrap_I64 hr146) (wrap_I64 hr150) (wrap_I64 hr151) (wrap_I64 hr154) (wrap_I64 hr155) (wrap_I64 hr169) (wrap_I64 hr173) (wrap_I64 hr174) (wrap_I64 hr181) (wrap_I64 hr185) (wrap_I64 hr186) (wrap_I64 hr189) (wrap_I64 hr190) h282⟩) ?_
 rintro _ w284 ⟨rfl, hr283, hK⟩
 replace hM := hM.none hK.fr
 replace hD := hM.wide (H := [.box g9 77 [.slice Akf11_0_0 kf11_0_0.length ckf11_0_0, .slice Akf11_1_2 kf11_1_2.length ckf11_1_2, .int .i64 bf11_2_0]])
 refine ⟨hM, ?_⟩
 replace hC := hC.merge hK
 clear hK
 refine mixE.op hM (hC.lit (s := (.int .i64)) (vs := [.int .i64 y227]) (xs := [y227]) Try.underlying30 Try.type3 rfl rfl (Nat.le_of_ble_eq_true rfl) rfl rfl (by simp [Value.cells, Sh.n]) rfl (show Elems _ _ (.int .i64) ([.int .i64 y227] ++ ([])) ([y227] : List Int) from Elems.cons (⟨rfl, I64.wr hr283⟩) (Elems.nil _ _ _))) ?_
 rintro _ w289 ⟨A285, c286, rfl, hl287, hc288, hC, hF, hN⟩
 have hBf290 := Beside.new hM hN
 have hUf290 := Beside.new (hM.wide (H := [.box g9 77 [.slice Akf11_0_0 kf11_0_0.length ckf11_0_0, .slice Akf11_1_2 kf11_1_2.length ckf11_1_2, .int .i64 bf11_2_0]])) hN
 replace hM := hM.none hF
 replace hD := hM.wide (H := [.box g9 77 [.slice Akf11_0_0 kf11_0_0.length ckf11_0_0, .slice Akf11_1_2 kf11_1_2.length ckf11_1_2, .int .i64 bf11_2_0]])
 refine ⟨hM, ?_⟩
 clear hF hN
 obtain ⟨u237, h292, hb⟩ := bd hb
 refine mixE.op hM (hC.app (i := 10) (s := (.int .i64)) (xs := kf11_1_2) (ys := ([y227] : List Int)) (m := ((([y227] : List Int)).length)) rfl Try.underlying30 Try.underlying30 Try.type3 rfl rfl rfl (hC.srco (i := 0) rfl) rfl rfl (by have := lim_some h292; simp at this ⊢ <;> omega) (by decide)) ?_
 rintro _ w297 ⟨A293, c294, rfl, hl295, hc296, hC, hF, hN⟩
 have hB := hBFf11_1_2
 replace hBFf11_1_2 := hB.app hM hN
 replace hM := hM.beside hB hF
 clear hB
 replace hD := hM.wide (H := [.box g9 77 [.slice Akf11_0_0 kf11_0_0.length ckf11_0_0, .slice Akf11_1_2 kf11_1_2.length ckf11_1_2, .int .i64 bf11_2_0]])
 refine ⟨hM, ?_⟩
 clear hF hN
 refine mp (.pointer (some ((⟨g9, 0, none⟩ : Addr).add 1))) (pu_field (sz := 1) Try.underlying77 rfl Try.sizeOf30 (by decide) rfl e7) ?_
 refine mixE.sk hD (hC.setf (i := 8) (k := 1) (v := .slice A293 ((kf11_1_2 ++ ([y227] : List Int)).length) c294) rfl Try.sizeOf30 rfl rfl rfl rfl) ?_
 rintro w298 ⟨hC, hF⟩
 replace hD := hD.besideG hUf11 hF
 clear hF
 refine ⟨hD, ?_⟩
 refine mixE.nil ?_
 clear hS hM
 clear hD
 exact hK109 _ _ ⟨(kf11_1_2.length : Int), (!(mget qf15_2 ((min v13_1 x86.1), (max v13_1 x86.1))).isSome), (kf11_1_2 ++ ([y227] : List Int)), (qf15_2 ++ [(((min v13_1 x86.1), (max v13_1 x86.1)), (kf11_1_2.length : Int))]), A293, (kf11_1_2 ++ ([y227] : List Int)).length, c294, e1, e2, e6, e7, e8, e9, e11, e12, e13, e15, e16, e17, e18, e22, e23, e24, e25, e34, e40, e41, e42, e43, e62, (I64.len hlkf11_1_2 hckf11_1_2), hC.sel [5, 6, 7, 8, 9, 10, 11, 12, 13, 4, 3, 14, 15] (by decide), hb⟩
 replace hb := tf hq112 hb
 refine Wc.skip ?_
 exact hK109 _ _ ⟨z107, (!(mget qf15_2 ((min v13_1 x86.1), (max v13_1 x86.1))).isSome), kf11_1_2, qf15_2, Akf11_1_2, kf11_1_2.length, ckf11_1_2, e1, e2, e6, e7, e8, e9, e11, e12, e13, e15, e16, e17, e18, e22, e23, e24, e25, e34, e40, e41, e42, e43, e62, (chk_rng h108), hC.sel [2, 3, 4, 5, 6, 7, 8, 9, 10, 1, 0, 11, 12] (by decide), hb⟩
 clear hb hC
 rintro E300 w299 ⟨v17_3, v62_3, kf11_1_3, qf15_3, Akf11_1_3, mkf11_1_3, ckf11_1_3, e1, e2, e6, e7, e8, e9, e11, e12, e13, e15, e16, e17, e18, e22, e23, e24, e25, e34, e40, e41, e42, e43, e62, hrv17_3, hC, hb⟩
 unfold F.polygon_code_j3 at hb
 obtain ⟨rfl, hlkf11_1_3, hckf11_1_3⟩ := (hC.ow (i := 5) rfl).sl_len
 refine rg ?_
 refine lp (.slice Al12_2 l12_2.length cl12_2) (pu_move e12) ?_
 refine lp (.int .i64 v17_3) (pu_move e17) ?_
 refine lp (.pointer (some ((⟨g96, 0, none⟩ : Addr).add 1))) (pu_field (sz := 1) Try.underlying107 rfl Try.sizeOf4 (by decide) rfl e15) ?_
 refine lv (.bool x86.2) (ld_fld (hC.bx (i := 9) rfl) Try.isAgg4 rfl rfl) ?_
 refine lp (.agg #[.int .i64 v17_3, .bool x86.2]) (pu_builds (places := [(0, 1), (1, 1)]) (pv := [(0, .int .i64 v17_3), (1, .bool x86.2)]) Try.type119 Try.underlying119 rfl (mp_cons Try.type3 (mp_cons Try.type4 mp_nil rfl rfl) rfl rfl) rfl (by simp [Instr.fill, Value.cells])) ?_
 refine lex.op (hC.lit (s := (.pr (.int .i64) .bool)) (vs := [.agg #[.int .i64 v17_3, .bool x86.2]]) (xs := [(v17_3, x86.2)]) Try.underlying116 Try.type119 rfl rfl (Nat.le_of_ble_eq_true rfl) rfl rfl (by simp [Value.cells, Sh.n]) rfl (show Elems _ _ (.pr (.int .i64) .bool) ([.int .i64 v17_3, .bool x86.2] ++ ([])) ([(v17_3, x86.2)] : List (Int × Bool)) from Elems.cons (⟨[.int .i64 v17_3], [.bool x86.2], rfl, ⟨rfl, I64.wr hrv17_3⟩, show Rep _ _ .bool _ _ from rfl⟩) (Elems.nil _ _ _))) ?_
 rintro _ w305 ⟨A301, c302, rfl, hl303, hc304, hC, hF, hN⟩
 clear hF hN
 obtain ⟨u307, h308, hb⟩ := bd hb
 refine lex.op (hC.app (i := 9) (s := (.pr (.int .i64) .bool)) (xs := l12_2) (ys := ([(v17_3, x86.2)] : List (Int × Bool))) (m := ((([(v17_3, x86.2)] : List (Int × Bool))).length)) rfl Try.underlying116 Try.underlying116 Try.type119 rfl rfl rfl (hC.srco (i := 0) rfl) rfl rfl (by have := lim_some h308; simp at this ⊢ <;> omega) (by decide)) ?_
 rintro _ w313 ⟨A309, c310, rfl, hl311, hc312, hC, hF, hN⟩
 clear hF hN
 refine lp (.slice A309 ((l12_2 ++ ([(v17_3, x86.2)] : List (Int × Bool))).length) c310) (pu_assign rfl) ?_
 refine ln ?_
 refine hK84 _ _ ?_
 refine rg ?_
 obtain ⟨z314, h315, hb⟩ := bd hb
 refine lp (.int .i64 z314) (pu_addc (a := v42_2) (b := 1) e42 rfl h315) ?_
 refine lp (.int .i64 z314) (pu_move rfl) ?_
 refine ln ?_
 obtain rfl := os hb
 exact hK76 m77' _ _ (Nat.lt_succ_self _) ⟨(l12_2 ++ ([(v17_3, x86.2)] : List (Int × Bool))), z314, kf11_1_3, qf15_3, A309, (l12_2 ++ ([(v17_3, x86.2)] : List (Int × Bool))).length, c310, Akf11_1_3, kf11_1_3.length, ckf11_1_3, e1, e2, e6, e7, e8, e9, e11, rfl, e13, e22, e23, e24, e25, e34, e40, e41, rfl, (chk_rng h315), hC.sel [1, 2, 3, 4, 5, 6, 7, 8, 9, 12, 13] (by decide), lN hl2⟩
 replace hb := tf hq83 hb
 refine Wc.exit rfl ?_
 obtain rfl := os hb
 obtain rfl := (lX hl2).symm
 exact hK75 _ _ ⟨l12_2, v42_2, kf11_1_2, qf15_2, Al12_2, l12_2.length, cl12_2, Akf11_1_2, kf11_1_2.length, ckf11_1_2, e1, e2, e6, e7, e8, e9, e11, e12, e13, e22, e23, e24, e25, e34, e40, e41, e42, hrv42_2, hC.sel [0, 1, 2, 3, 4, 5, 6, 7, 8, 9, 10] (by decide), hbK2⟩
 clear hb hC hl2
 rintro E317 w316 ⟨l12_2, v42_2, kf11_1_2, qf15_2, Al12_2, ml12_2, cl12_2, Akf11_1_2, mkf11_1_2, ckf11_1_2, e1, e2, e6, e7, e8, e9, e11, e12, e13, e22, e23, e24, e25, e34, e40, e41, e42, hrv42_2, hC, hb⟩
 obtain ⟨rfl, hll12_2, hcl12_2⟩ := (hC.ow (i := 8) rfl).sl_len
 obtain ⟨rfl, hlkf11_1_2, hckf11_1_2⟩ := (hC.ow (i := 5) rfl).sl_len
 refine hK60 _ _ ?_
 refine rg ?_
 refine lp (.int .i64 v13_1) (pu_move e13) ?_
 obtain ⟨z318, h319, hb⟩ := bd hb
 refine lp (.int .i64 z318) (pu_addc (a := v13_1) (b := 1) rfl rfl h319) ?_
 refine lp (.int .i64 z318) (pu_assign rfl) ?_
 refine ln ?_
 obtain rfl := os hb
 exact hK50 m51' _ _ (Nat.lt_succ_self _) ⟨l12_2, z318, kf11_1_2, qf15_2, Al12_2, l12_2.length, cl12_2, Akf11_1_2, kf11_1_2.length, ckf11_1_2, e1, e2, e6, e7, e8, e9, e11, e12, rfl, e22, e23, e24, e25, (chk_rng h319), hC.sel [0, 1, 2, 3, 4, 5, 6, 7, 8, 9] (by decide), lN hl1⟩
 replace hb := tf hq59 hb
 refine Wc.exit rfl ?_
 obtain rfl := os hb
 obtain rfl := (lX hl1).symm
 exact hK49 _ _ ⟨l12_1, v13_1, kf11_1_1, qf15_1, Al12_1, l12_1.length, cl12_1, Akf11_1_1, kf11_1_1.length, ckf11_1_1, e1, e2, e6, e7, e8, e9, e11, e12, e13, e22, e23, e24, e25, hrv13_1, hC.sel [0, 1, 2, 3, 4, 5, 6, 7, 8, 9] (by decide), hbK1⟩
 clear hb hC hl1
 rintro E321 w320 ⟨l12_1, v13_1, kf11_1_1, qf15_1, Al12_1, ml12_1, cl12_1, Akf11_1_1, mkf11_1_1, ckf11_1_1, e1, e2, e6, e7, e8, e9, e11, e12, e13, e22, e23, e24, e25, hrv13_1, hC, hb⟩
 obtain ⟨rfl, hll12_1, hcl12_1⟩ := (hC.ow (i := 8) rfl).sl_len
 obtain ⟨rfl, hlkf11_1_1, hckf11_1_1⟩ := (hC.ow (i := 5) rfl).sl_len
 refine hK45 _ _ ?_
 refine Wc.seq fun K322 hK322 => ?_
 refine rg ?_
 refine lp (.int .i64 v9_0) (pu_move e9) ?_
 refine lp (.slice A39 x33.length c40) (pu_move e11) ?_
 refine lp (.int .i64 (x33.length : Int)) (pu_len (A := A39) (n := x33.length) (m := c40) Try.underlying43 rfl) ?_
 obtain ⟨z323, h324, hb⟩ := bd hb
 refine lp (.int .i64 z323) (pu_addc (a := v9_0) (b := (x33.length : Int)) rfl rfl h324) ?_
 refine lp (.int .i64 z323) (pu_assign rfl) ?_
 refine ln ?_
 refine hK322 _ _ ?_
 refine Wc.seq fun K325 hK325 => ?_
 refine rg ?_
 refine lp (.slice Al12_1 l12_1.length cl12_1) (pu_move e12) ?_
 refine lp (.int .i64 (l12_1.length : Int)) (pu_len (A := Al12_1) (n := l12_1.length) (m := cl12_1) Try.underlying116 rfl) ?_
 refine lp (.bool (decide (0 < (l12_1.length : Int)))) (pu_gtr (k := .i64) (a := (l12_1.length : Int)) (b := 0) rfl rfl) ?_
 refine ln ?_
 refine hK325 _ _ ?_
 refine Wc.cond (t := (decide (0 < (l12_1.length : Int)))) (rfl) (fun hq326 => ?_) (fun hq326 => ?_)
 replace hb := tt hq326 hb
 refine rg ?_
 refine lp (.pointer (some ((⟨g9, 0, none⟩ : Addr).add 0))) (pu_field (sz := 1) Try.underlying77 rfl Try.sizeOf75 (by decide) rfl e7) ?_
 refine lv (.slice Akf11_0_0 kf11_0_0.length ckf11_0_0) (ld_fld (hC.bx (i := 3) rfl) Try.isAgg75 rfl rfl) ?_
 refine lp (.slice Al12_1 l12_1.length cl12_1) (pu_move e12) ?_
 replace hC := hC.freeze (i := 8) rfl (hC.own_new (i := 8) rfl)
 refine lex.op (hC.lit (s := (.sl (.pr (.int .i64) .bool))) (vs := [.slice Al12_1 l12_1.length cl12_1]) (xs := [l12_1]) Try.underlying75 Try.type116 rfl rfl (Nat.le_of_ble_eq_true rfl) rfl rfl (by simp [Value.cells, Sh.n]) rfl (show Elems _ _ (.sl (.pr (.int .i64) .bool)) ([.slice Al12_1 l12_1.length cl12_1] ++ ([])) ([l12_1] : List (List (Int × Bool))) from Elems.cons (hC.rd (i := 8) rfl) (Elems.nil _ _ _))) ?_
 rintro _ w331 ⟨A327, c328, rfl, hl329, hc330, hC, hF, hN⟩
 clear hF hN
 obtain ⟨u333, h334, hb⟩ := bd hb
 refine lex.op (hC.app (i := 5) (s := (.sl (.pr (.int .i64) .bool))) (xs := kf11_0_0) (ys := ([l12_1] : List (List (Int × Bool)))) (m := ((([l12_1] : List (List (Int × Bool)))).length)) rfl Try.underlying75 Try.underlying75 Try.type116 rfl rfl rfl (hC.srco (i := 0) rfl) rfl rfl (by have := lim_some h334; simp at this ⊢ <;> omega) (by decide)) ?_
 rintro _ w339 ⟨A335, c336, rfl, hl337, hc338, hC, hF, hN⟩
 clear hF hN
 refine lp (.pointer (some ((⟨g9, 0, none⟩ : Addr).add 0))) (pu_field (sz := 1) Try.underlying77 rfl Try.sizeOf75 (by decide) rfl e7) ?_
 refine lex.sk (hC.setf (i := 4) (k := 0) (v := .slice A335 ((kf11_0_0 ++ ([l12_1] : List (List (Int × Bool)))).length) c336) rfl Try.sizeOf75 rfl rfl rfl rfl) ?_
 rintro w340 ⟨hC, hF⟩
 refine ln ?_
 refine hK31 _ _ ?_
 refine rg ?_
 obtain ⟨z341, h342, hb⟩ := bd hb
 refine lp (.int .i64 z341) (pu_addc (a := v24_0) (b := 1) e24 rfl h342) ?_
 refine lp (.int .i64 z341) (pu_move rfl) ?_
 refine ln ?_
 obtain rfl := os hb
 exact hK23 m24' _ _ (Nat.lt_succ_self _) ⟨z323, z341, (kf11_0_0 ++ ([l12_1] : List (List (Int × Bool)))), kf11_1_1, bf11_2_0, qf15_1, A335, (kf11_0_0 ++ ([l12_1] : List (List (Int × Bool)))).length, c336, Akf11_1_1, kf11_1_1.length, ckf11_1_1, e1, e2, e6, e7, e8, rfl, e22, e23, rfl, (chk_rng h324), (chk_rng h342), hrbf11_2_0, hC.sel [1, 2, 3, 4, 5, 6, 7, 10] (by decide), lN hl0⟩
 replace hb := tf hq326 hb
 refine rg ?_
 refine lp (.pointer (some ((⟨g9, 0, none⟩ : Addr).add 2))) (pu_field (sz := 1) Try.underlying77 rfl Try.sizeOf3 (by decide) rfl e7) ?_
 refine lv (.int .i64 bf11_2_0) (ld_fld (hC.bx (i := 3) rfl) Try.isAgg3 rfl rfl) ?_
 obtain ⟨z343, h344, hb⟩ := bd hb
 refine lp (.int .i64 z343) (pu_addc (a := bf11_2_0) (b := 1) rfl rfl h344) ?_
 refine lp (.pointer (some ((⟨g9, 0, none⟩ : Addr).add 2))) (pu_field (sz := 1) Try.underlying77 rfl Try.sizeOf3 (by decide) rfl e7) ?_
 refine lex.sk (hC.setf (i := 3) (k := 2) (v := .int .i64 z343) rfl Try.sizeOf3 rfl rfl rfl rfl) ?_
 rintro w345 ⟨hC, hF⟩
 refine ln ?_
 refine hK31 _ _ ?_
 refine rg ?_
 obtain ⟨z346, h347, hb⟩ := bd hb
 refine lp (.int .i64 z346) (pu_addc (a := v24_0) (b := 1) e24 rfl h347) ?_
 refine lp (.int .i64 z346) (pu_move rfl) ?_
 refine ln ?_
 obtain rfl := os hb
 exact hK23 m24' _ _ (Nat.lt_succ_self _) ⟨z323, z346, kf11_0_0, kf11_1_1, z343, qf15_1, Akf11_0_0, kf11_0_0.length, ckf11_0_0, Akf11_1_1, kf11_1_1.length, ckf11_1_1, e1, e2, e6, e7, e8, rfl, e22, e23, rfl, (chk_rng h324), (chk_rng h347), (chk_rng h344), hC.sel [0, 1, 2, 3, 4, 5, 6, 9] (by decide), lN hl0⟩
 replace hb := tf hq30 hb
 refine Wc.exit rfl ?_
 obtain rfl := os hb
 obtain rfl := (lX hl0).symm
 exact hK22 _ _ ⟨v9_0, v24_0, kf11_0_0, kf11_1_0, bf11_2_0, qf15_0, Akf11_0_0, kf11_0_0.length, ckf11_0_0, Akf11_1_0, kf11_1_0.length, ckf11_1_0, e6, e7, hrv9_0, hrv24_0, hrbf11_2_0, hC.sel [2, 3, 4, 5] (by decide), hbK0⟩
 clear hb hC hl0
 rintro E349 w348 ⟨v9_0, v24_0, kf11_0_0, kf11_1_0, bf11_2_0, qf15_0, Akf11_0_0, mkf11_0_0, ckf11_0_0, Akf11_1_0, mkf11_1_0, ckf11_1_0, e6, e7, hrv9_0, hrv24_0, hrbf11_2_0, hC, hb⟩
 obtain ⟨rfl, hlkf11_0_0, hckf11_0_0⟩ := (hC.ow (i := 2) rfl).sl_len
 obtain ⟨rfl, hlkf11_1_0, hckf11_1_0⟩ := (hC.ow (i := 3) rfl).sl_len
 refine hK17 _ _ ?_
 refine Wc.seq fun K350 hK350 => ?_
 refine rg ?_
 refine lv (.agg #[.slice Akf11_0_0 kf11_0_0.length ckf11_0_0, .slice Akf11_1_0 kf11_1_0.length ckf11_1_0, .int .i64 bf11_2_0]) (ld_blk (hC.bx (i := 1) rfl) Try.isAgg77 Try.sizeOf77 e7) ?_
 refine lex.sk (hC.seta (i := 0) (ds := [.slice Akf11_0_0 kf11_0_0.length ckf11_0_0, .slice Akf11_1_0 kf11_1_0.length ckf11_1_0, .int .i64 bf11_2_0]) rfl Try.type77 rfl rfl rfl e6 rfl) ?_
 rintro w351 ⟨hC, hF⟩
 refine ln ?_
 refine hK350 _ _ ?_
 obtain rfl := os hb
 refine Wc.ret ?_
 refine hKR _ _ ?_
 refine ⟨_, res1 Try.results55 ⟨_, e6, loadVar_blk (hC.bx (i := 0) rfl) Try.isAgg77 Try.sizeOf77⟩, _, rfl, Akf11_0_0, kf11_0_0.length, ckf11_0_0, Akf11_1_0, kf11_1_0.length, ckf11_1_0, rfl, hrbf11_2_0, hC.sel [2, 3] (by decide)⟩
end Go.Proofs.Yteajmbanlohncaa
