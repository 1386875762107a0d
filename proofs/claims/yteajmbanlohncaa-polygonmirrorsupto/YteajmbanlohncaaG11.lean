/- The walks: part 11. -/
import Derived.Test.YteajmbanlohncaaS
import Derived.Test.YteajmbanlohncaaG6
import Derived.Test.YteajmbanlohncaaG7
import Derived.Test.YteajmbanlohncaaG10
set_option linter.unusedVariables false
set_option linter.unusedSimpArgs false
namespace Go.Proofs.Yteajmbanlohncaa
open Ev
set_option maxRecDepth 100000 in
set_option maxHeartbeats 4000000 in
theorem slices_Equal_Lint_int_ok (n : Nat) {w : World} {O0 : List Nat} (hO : ∀ k ∈ O0, k < w.heap.size) {As1_0 : Option Addr} {ms1_0 cs1_0 : Nat} {s1_0 : List Int} (hs1_0 : Rep O0 w (.sl (.int .i64)) [.slice As1_0 ms1_0 cs1_0] s1_0) {As2_1 : Option Addr} {ms2_1 cs2_1 : Nat} {s2_1 : List Int} (hs2_1 : Rep O0 w (.sl (.int .i64)) [.slice As2_1 ms2_1 cs2_1] s2_1) {r : Bool} (hb : F.slices_Equal_Lint_int n s1_0 s2_1 = some r) :
    Calls Try.prog 64 #[.slice As1_0 ms1_0 cs1_0, .slice As2_1 ms2_1 cs2_1] w fun e w' => ∃ v, e = .returned v ∧ v = .bool r ∧ Cx (fun _ => False) O0 w w' [] := by
 unfold F.slices_Equal_Lint_int at hb
 have hC := Cx.start hO
 replace hC := hC.arg rfl hs1_0
 replace hC := hC.arg rfl hs2_1
 clear hO
 obtain ⟨rfl, hls1_0, hcs1_0⟩ := hs1_0.sl_len
 obtain ⟨rfl, hls2_1, hcs2_1⟩ := hs2_1.sl_len
 refine calls_of_Wc Try.func64 rfl (by rw [Try.ntmps64]; exact Nat.le_of_ble_eq_true rfl) fun KR hKR => ?_
 refine Wc.seq fun K3 hK3 => ?_
 refine rg ?_
 refine lp (.bool false) (pu_assign rfl) ?_
 refine ln ?_
 refine hK3 _ _ ?_
 refine Wc.seq fun K4 hK4 => ?_
 refine Wc.seq fun K5 hK5 => ?_
 refine rg ?_
 refine lp (.slice As1_0 s1_0.length cs1_0) (pu_move rfl) ?_
 refine lp (.int .i64 (s1_0.length : Int)) (pu_len (A := As1_0) (n := s1_0.length) (m := cs1_0) Try.underlying30 rfl) ?_
 refine lp (.slice As2_1 s2_1.length cs2_1) (pu_move rfl) ?_
 refine lp (.int .i64 (s2_1.length : Int)) (pu_len (A := As2_1) (n := s2_1.length) (m := cs2_1) Try.underlying30 rfl) ?_
 refine lp (.bool (!(decide ((s1_0.length : Int) = (s2_1.length : Int))))) (pu_neq (k := .i64) (a := (s1_0.length : Int)) (b := (s2_1.length : Int)) rfl rfl) ?_
 refine ln ?_
 refine hK5 _ _ ?_
 refine Wc.cond (t := (!(decide ((s1_0.length : Int) = (s2_1.length : Int))))) (rfl) (fun hq6 => ?_) (fun hq6 => ?_)
 replace hb := tt hq6 hb
 refine Wc.seq fun K7 hK7 => ?_
 refine rg ?_
 refine lp (.bool false) (pu_assign rfl) ?_
 refine ln ?_
 refine hK7 _ _ ?_
 obtain rfl := os hb
 refine Wc.ret ?_
 refine hKR _ _ ?_
 refine ⟨_, res1 Try.results64 (show RV _ _ _ (.tmp _) (.bool false) from rfl), _, rfl, rfl, hC.sel [] (by decide)⟩
 replace hb := tf hq6 hb
 refine Wc.skip ?_
 refine hK4 _ _ ?_
 refine Wc.seq fun K8 hK8 => ?_
 refine Wc.seq fun K9 hK9 => ?_
 refine rg ?_
 refine lp (.slice As1_0 s1_0.length cs1_0) (pu_move rfl) ?_
 refine lp (.int .i64 (s1_0.length : Int)) (pu_len (A := As1_0) (n := s1_0.length) (m := cs1_0) Try.underlying30 rfl) ?_
 refine lp (.int .i64 0) (pu_move rfl) ?_
 refine ln ?_
 refine hK9 _ _ ?_
 obtain ⟨o10, hl0, hb⟩ := bd hb
 refine Wc.cut (fun E wv => ∃ (v13_0 : Int), E 4 = .bool false ∧ I64 v13_0 ∧ Cx (fun _ => False) O0 w wv [] ∧ (some true : Option (Bool)) = some r) (fun K11 hK11 => ?_) ?_
 refine Wc.block ?_
 refine Wc.loop (fun m E wv => ∃ (v13_0 : Int), E 0 = .slice As1_0 s1_0.length cs1_0 ∧ E 1 = .slice As2_1 s2_1.length cs2_1 ∧ E 4 = .bool false ∧ E 12 = .int .i64 (s1_0.length : Int) ∧ E 13 = .int .i64 v13_0 ∧ I64 v13_0 ∧ Cx (fun _ => False) O0 w wv [.ro (.sl (.int .i64)) [.slice As1_0 s1_0.length cs1_0] s1_0, .ro (.sl (.int .i64)) [.slice As2_1 s2_1.length cs2_1] s2_1] ∧ loopN m (F.slices_Equal_Lint_int_b0 n s1_0 s2_1) v13_0 = some o10) n ⟨0, rfl, rfl, rfl, rfl, rfl, (show I64 0 from by unfold I64; omega), hC.sel [1, 0] (by decide), hl0⟩ ?_
 have hbK0 := hb
 clear hb hC hl0
 rintro m13 E15 w14 ⟨v13_0, e0, e1, e4, e12, e13, hrv13_0, hC, hl0⟩ K12 hK12
 obtain ⟨m13', o16, rfl, hb, hl0⟩ := loopN_some hl0
 unfold F.slices_Equal_Lint_int_b0 at hb
 refine Wc.seq fun K17 hK17 => ?_
 refine rg ?_
 refine lp (.bool (decide (v13_0 < (s1_0.length : Int)))) (pu_lss (k := .i64) (a := v13_0) (b := (s1_0.length : Int)) e13 e12) ?_
 refine ln ?_
 refine hK17 _ _ ?_
 refine Wc.seq fun K18 hK18 => ?_
 refine Wc.cond (t := (decide (v13_0 < (s1_0.length : Int)))) (rfl) (fun hq19 => ?_) (fun hq19 => ?_)
 replace hb := tt hq19 hb
 refine Wc.skip ?_
 refine hK18 _ _ ?_
 refine Wc.seq fun K20 hK20 => ?_
 refine Wc.block ?_
 refine Wc.seq fun K21 hK21 => ?_
 refine rg ?_
 refine lp (.int .i64 v13_0) (pu_move e13) ?_
 refine lp (.int .i64 v13_0) (pu_assign rfl) ?_
 refine ln ?_
 refine hK21 _ _ ?_
 refine Wc.seq fun K22 hK22 => ?_
 refine Wc.regionMix [] (frm [] ([] : List Fact) ([] : List Fact)) (fun _ => rfl) mixed (by decide +kernel) (by decide +kernel) fun w24 hw23 => ?_
 replace hC := hC.step (Fr.of_drew hw23)
 have hM := Fr.refl (fun k => k ∈ blocks ([] : List Fact)) w24
 clear hw23
 have hS := hC
 refine mp (.slice As1_0 s1_0.length cs1_0) (pu_move e0) ?_
 refine mp (.int .i64 v13_0) (pu_move rfl) ?_
 obtain ⟨x25, h26, hb⟩ := bd hb
 obtain ⟨ad27, cs28, hA, ho31, hc29, hr30⟩ := hS.elr2 (i := 0) rfl (get_some h26).2 []
 subst hA
 refine mp (.pointer (some (ad27.add (v13_0.toNat * 1)))) (pu_index (a := v13_0) Try.underlying30 Try.sizeOf3 rfl rfl (get_some h26).1) ?_
 obtain ⟨rfl, hr30'⟩ := hr30
 refine mixE.load hM (v := .int .i64 x25) (fun _ hF => ld_one Try.isAgg3 rfl (hF.cell (hc29 0 _ rfl) (off1 ho31))) ?_
 refine mp (.slice As2_1 s2_1.length cs2_1) (pu_move e1) ?_
 refine mp (.int .i64 v13_0) (pu_move rfl) ?_
 obtain ⟨x32, h33, hb⟩ := bd hb
 obtain ⟨ad34, cs35, hA, ho38, hc36, hr37⟩ := hS.elr2 (i := 1) rfl (get_some h33).2 []
 subst hA
 refine mp (.pointer (some (ad34.add (v13_0.toNat * 1)))) (pu_index (a := v13_0) Try.underlying30 Try.sizeOf3 rfl rfl (get_some h33).1) ?_
 obtain ⟨rfl, hr37'⟩ := hr37
 refine mixE.load hM (v := .int .i64 x32) (fun _ hF => ld_one Try.isAgg3 rfl (hF.cell (hc36 0 _ rfl) (off1 ho38))) ?_
 refine mp (.bool (!(decide (x25 = x32)))) (pu_neq (k := .i64) (a := x25) (b := x32) rfl rfl) ?_
 refine mixE.nil ?_
 clear hS hM
 refine hK22 _ _ ?_
 refine Wc.cond (t := (!(decide (x25 = x32)))) (rfl) (fun hq39 => ?_) (fun hq39 => ?_)
 replace hb := tt hq39 hb
 refine Wc.seq fun K40 hK40 => ?_
 refine rg ?_
 refine lp (.bool false) (pu_assign rfl) ?_
 refine ln ?_
 refine hK40 _ _ ?_
 obtain rfl := os hb
 obtain rfl := (lX hl0).symm
 replace hb := hbK0
 obtain rfl := os hb
 refine Wc.ret ?_
 refine hKR _ _ ?_
 refine ⟨_, res1 Try.results64 (show RV _ _ _ (.tmp _) (.bool false) from rfl), _, rfl, rfl, hC.sel [] (by decide)⟩
 replace hb := tf hq39 hb
 refine Wc.skip ?_
 refine hK20 _ _ ?_
 refine rg ?_
 obtain ⟨z41, h42, hb⟩ := bd hb
 refine lp (.int .i64 z41) (pu_addc (a := v13_0) (b := 1) e13 rfl h42) ?_
 refine lp (.int .i64 z41) (pu_move rfl) ?_
 refine ln ?_
 obtain rfl := os hb
 exact hK12 m13' _ _ (Nat.lt_succ_self _) ⟨z41, e0, e1, e4, e12, rfl, (chk_rng h42), hC.sel [0, 1] (by decide), lN hl0⟩
 replace hb := tf hq19 hb
 refine Wc.exit rfl ?_
 obtain rfl := os hb
 obtain rfl := (lX hl0).symm
 exact hK11 _ _ ⟨v13_0, e4, hrv13_0, hC.sel [] (by decide), hbK0⟩
 clear hb hC hl0
 rintro E44 w43 ⟨v13_0, e4, hrv13_0, hC, hb⟩
 refine hK8 _ _ ?_
 refine Wc.seq fun K45 hK45 => ?_
 refine rg ?_
 refine lp (.bool true) (pu_assign rfl) ?_
 refine ln ?_
 refine hK45 _ _ ?_
 obtain rfl := os hb
 refine Wc.ret ?_
 refine hKR _ _ ?_
 refine ⟨_, res1 Try.results64 (show RV _ _ _ (.tmp _) (.bool true) from rfl), _, rfl, rfl, hC.sel [] (by decide)⟩

set_option maxRecDepth 100000 in
set_option maxHeartbeats 4000000 in
theorem diagram_Equal_ok (n : Nat) {w : World} {O0 : List Nat} (hO : ∀ k ∈ O0, k < w.heap.size) {Aa_0_0 : Option Addr} {ma_0_0 ca_0_0 : Nat} {a_0_0 : List Int} (ha_0_0 : Rep O0 w (.sl (.int .i64)) [.slice Aa_0_0 ma_0_0 ca_0_0] a_0_0) {Aa_0_1 : Option Addr} {ma_0_1 ca_0_1 : Nat} {a_0_1 : List Int} (ha_0_1 : Rep O0 w (.sl (.int .i64)) [.slice Aa_0_1 ma_0_1 ca_0_1] a_0_1) {a_0_2 : Int} (ha_0_2 : I64 a_0_2) {Ab_1_0 : Option Addr} {mb_1_0 cb_1_0 : Nat} {b_1_0 : List Int} (hb_1_0 : Rep O0 w (.sl (.int .i64)) [.slice Ab_1_0 mb_1_0 cb_1_0] b_1_0) {Ab_1_1 : Option Addr} {mb_1_1 cb_1_1 : Nat} {b_1_1 : List Int} (hb_1_1 : Rep O0 w (.sl (.int .i64)) [.slice Ab_1_1 mb_1_1 cb_1_1] b_1_1) {b_1_2 : Int} (hb_1_2 : I64 b_1_2) {r : Bool} (hb : F.diagram_Equal n a_0_0 a_0_1 a_0_2 b_1_0 b_1_1 b_1_2 = some r) :
    Calls Try.prog 26 #[.agg #[.slice Aa_0_0 ma_0_0 ca_0_0, .slice Aa_0_1 ma_0_1 ca_0_1, .int .i64 a_0_2], .agg #[.slice Ab_1_0 mb_1_0 cb_1_0, .slice Ab_1_1 mb_1_1 cb_1_1, .int .i64 b_1_2]] w fun e w' => ∃ v, e = .returned v ∧ v = .bool r ∧ Cx (fun _ => False) O0 w w' [] := by
 unfold F.diagram_Equal at hb
 have hC := Cx.start hO
 replace hC := hC.arg rfl ha_0_0
 replace hC := hC.arg rfl ha_0_1
 replace hC := hC.arg rfl hb_1_0
 replace hC := hC.arg rfl hb_1_1
 clear hO
 obtain ⟨rfl, hla_0_0, hca_0_0⟩ := ha_0_0.sl_len
 obtain ⟨rfl, hla_0_1, hca_0_1⟩ := ha_0_1.sl_len
 obtain ⟨rfl, hlb_1_0, hcb_1_0⟩ := hb_1_0.sl_len
 obtain ⟨rfl, hlb_1_1, hcb_1_1⟩ := hb_1_1.sl_len
 refine calls_of_Wc Try.func26 rfl (by rw [Try.ntmps26]; exact Nat.le_of_ble_eq_true rfl) fun KR hKR => ?_
 refine Wc.seq fun K5 hK5 => ?_
 refine rg ?_
 refine lex.op (hC.box (cs := [.slice Aa_0_0 a_0_0.length ca_0_0, .slice Aa_0_1 a_0_1.length ca_0_1, .int .i64 a_0_2]) rfl rfl) ?_
 rintro _ w7 ⟨g6, rfl, hC, hF, hG⟩
 clear hG
 refine lex.op (hC.box (cs := [.slice Ab_1_0 b_1_0.length cb_1_0, .slice Ab_1_1 b_1_1.length cb_1_1, .int .i64 b_1_2]) rfl rfl) ?_
 rintro _ w10 ⟨g9, rfl, hC, hF, hG⟩
 clear hG
 refine lp (.bool false) (pu_assign rfl) ?_
 refine ln ?_
 refine hK5 _ _ ?_
 refine Wc.seq fun K12 hK12 => ?_
 refine rg ?_
 refine lp (.pointer (some ((⟨g6, 0, none⟩ : Addr).add 0))) (pu_field (sz := 1) Try.underlying32 rfl Try.sizeOf30 (by decide) rfl rfl) ?_
 refine lv (.slice Aa_0_0 a_0_0.length ca_0_0) (ld_fld (hC.bx (i := 1) rfl) Try.isAgg30 rfl rfl) ?_
 refine lp (.pointer (some ((⟨g9, 0, none⟩ : Addr).add 0))) (pu_field (sz := 1) Try.underlying32 rfl Try.sizeOf30 (by decide) rfl rfl) ?_
 refine lv (.slice Ab_1_0 b_1_0.length cb_1_0) (ld_fld (hC.bx (i := 0) rfl) Try.isAgg30 rfl rfl) ?_
 obtain ⟨y13, h14, hb⟩ := bd hb
 refine lex.cl (⟨_, _, op_call (vs := [.slice Aa_0_0 a_0_0.length ca_0_0, .slice Ab_1_0 b_1_0.length cb_1_0]) Try.call64 rfl rfl rfl, slices_Equal_Lint_int_ok n hC.lt (hC.rd (i := 5) rfl) (hC.rd (i := 3) rfl) h14⟩) ?_
 rintro _ w15 ⟨rfl, hK⟩
 replace hC := hC.merge hK
 clear hK
 refine lp (.bool y13) (pu_move rfl) ?_
 rcases bS y13 with hq16 | hq16
 replace hb := tt hq16 hb
 refine gp rfl rfl y13 rfl hq16 (.pointer (some ((⟨g6, 0, none⟩ : Addr).add 1))) (pu_field (sz := 1) Try.underlying32 rfl Try.sizeOf30 (by decide) rfl rfl) ?_
 refine gv rfl rfl y13 rfl hq16 (.slice Aa_0_1 a_0_1.length ca_0_1) (ld_fld (hC.bx (i := 1) rfl) Try.isAgg30 rfl rfl) ?_
 refine gp rfl rfl y13 rfl hq16 (.pointer (some ((⟨g9, 0, none⟩ : Addr).add 1))) (pu_field (sz := 1) Try.underlying32 rfl Try.sizeOf30 (by decide) rfl rfl) ?_
 refine gv rfl rfl y13 rfl hq16 (.slice Ab_1_1 b_1_1.length cb_1_1) (ld_fld (hC.bx (i := 0) rfl) Try.isAgg30 rfl rfl) ?_
 obtain ⟨y17, h18, hb⟩ := bd hb
 refine lex.gcl (want_t rfl rfl (show _ = Value.bool y13 from rfl) hq16) (⟨_, _, op_call (vs := [.slice Aa_0_1 a_0_1.length ca_0_1, .slice Ab_1_1 b_1_1.length cb_1_1]) Try.call64 rfl rfl rfl, slices_Equal_Lint_int_ok n hC.lt (hC.rd (i := 4) rfl) (hC.rd (i := 2) rfl) h18⟩) ?_
 rintro _ w19 ⟨rfl, hK⟩
 replace hC := hC.merge hK
 clear hK
 refine lp (.bool y17) (pu_pickT (q := y13) rfl hq16 rfl) ?_
 refine lp (.bool y17) (pu_move rfl) ?_
 rcases bS y17 with hq20 | hq20
 replace hb := tt hq20 hb
 refine gp rfl rfl y17 rfl hq20 (.pointer (some ((⟨g6, 0, none⟩ : Addr).add 2))) (pu_field (sz := 1) Try.underlying32 rfl Try.sizeOf3 (by decide) rfl rfl) ?_
 refine gv rfl rfl y17 rfl hq20 (.int .i64 a_0_2) (ld_fld (hC.bx (i := 1) rfl) Try.isAgg3 rfl rfl) ?_
 refine gp rfl rfl y17 rfl hq20 (.pointer (some ((⟨g9, 0, none⟩ : Addr).add 2))) (pu_field (sz := 1) Try.underlying32 rfl Try.sizeOf3 (by decide) rfl rfl) ?_
 refine gv rfl rfl y17 rfl hq20 (.int .i64 b_1_2) (ld_fld (hC.bx (i := 0) rfl) Try.isAgg3 rfl rfl) ?_
 refine gp rfl rfl y17 rfl hq20 (.bool (decide (a_0_2 = b_1_2))) (pu_eql (k := .i64) (a := a_0_2) (b := b_1_2) rfl rfl) ?_
 refine lp (.bool (decide (a_0_2 = b_1_2))) (pu_pickT (q := y17) rfl hq20 rfl) ?_
 refine lp (.bool (decide (a_0_2 = b_1_2))) (pu_assign rfl) ?_
 refine ln ?_
 refine hK12 _ _ ?_
 obtain rfl := os hb
 refine Wc.ret ?_
 refine hKR _ _ ?_
 refine ⟨_, res1 Try.results26 (show RV _ _ _ (.tmp _) (.bool (decide (a_0_2 = b_1_2))) from rfl), _, rfl, rfl, hC.sel [] (by decide)⟩
 replace hb := tf hq20 hb
 refine gs rfl rfl y17 rfl hq20 ?_
 refine gs rfl rfl y17 rfl hq20 ?_
 refine gs rfl rfl y17 rfl hq20 ?_
 refine gs rfl rfl y17 rfl hq20 ?_
 refine gs rfl rfl y17 rfl hq20 ?_
 refine lp (.bool false) (pu_pickF (q := y17) rfl hq20 rfl) ?_
 refine lp (.bool false) (pu_assign rfl) ?_
 refine ln ?_
 refine hK12 _ _ ?_
 obtain rfl := os hb
 refine Wc.ret ?_
 refine hKR _ _ ?_
 refine ⟨_, res1 Try.results26 (show RV _ _ _ (.tmp _) (.bool false) from rfl), _, rfl, rfl, hC.sel [] (by decide)⟩
 replace hb := tf hq16 hb
 refine gs rfl rfl y13 rfl hq16 ?_
 refine gs rfl rfl y13 rfl hq16 ?_
 refine gs rfl rfl y13 rfl hq16 ?_
 refine gs rfl rfl y13 rfl hq16 ?_
 refine gs rfl rfl y13 rfl hq16 ?_
 refine lp (.bool false) (pu_pickF (q := y13) rfl hq16 rfl) ?_
 refine lp (.bool false) (pu_move rfl) ?_
 refine gs rfl rfl false rfl rfl ?_
 refine gs rfl rfl false rfl rfl ?_
 refine gs rfl rfl false rfl rfl ?_
 refine gs rfl rfl false rfl rfl ?_
 refine gs rfl rfl false rfl rfl ?_
 refine lp (.bool false) (pu_pickF (q := false) rfl rfl rfl) ?_
 refine lp (.bool false) (pu_assign rfl) ?_
 refine ln ?_
 refine hK12 _ _ ?_
 obtain rfl := os hb
 refine Wc.ret ?_
 refine hKR _ _ ?_
 refine ⟨_, res1 Try.results26 (show RV _ _ _ (.tmp _) (.bool false) from rfl), _, rfl, rfl, hC.sel [] (by decide)⟩

set_option maxRecDepth 100000 in
set_option maxHeartbeats 4000000 in
theorem law46_PolygonMirrors_ok (n : Nat) {w : World} {O0 : List Nat} (hO : ∀ k ∈ O0, k < w.heap.size) {Al_0 : Option Addr} {ml_0 cl_0 : Nat} {l_0 : List (List (Int × (Int × Int)))} (hl_0 : Rep O0 w (.sl (.sl (.pr (.int .i64) (.pr (.int .i64) (.int .i64))))) [.slice Al_0 ml_0 cl_0] l_0) {r : Bool} (hb : F.law46_PolygonMirrors n l_0 = some r) :
    Calls Try.prog 8 #[.slice Al_0 ml_0 cl_0] w fun e w' => ∃ v, e = .returned v ∧ v = .bool r ∧ Cx (fun _ => False) O0 w w' [] := by
 unfold F.law46_PolygonMirrors at hb
 have hC := Cx.start hO
 replace hC := hC.arg rfl hl_0
 clear hO
 obtain ⟨rfl, hll_0, hcl_0⟩ := hl_0.sl_len
 refine calls_of_Wc Try.func8 rfl (by rw [Try.ntmps8]; exact Nat.le_of_ble_eq_true rfl) fun KR hKR => ?_
 refine Wc.seq fun K2 hK2 => ?_
 refine rg ?_
 refine lp (.bool false) (pu_assign rfl) ?_
 refine ln ?_
 refine hK2 _ _ ?_
 refine Wc.seq fun K3 hK3 => ?_
 refine Wc.seq fun K4 hK4 => ?_
 refine rg ?_
 obtain ⟨y5, h6, hb⟩ := bd hb
 refine lex.cl (⟨_, _, op_call (vs := []) Try.call11 rfl rfl rfl, law46_awake_ok n hC.lt  h6⟩) ?_
 rintro _ w7 ⟨rfl, hK⟩
 replace hC := hC.merge hK
 clear hK
 refine lp (.bool (!y5)) (pu_not (q := y5) rfl) ?_
 refine ln ?_
 refine hK4 _ _ ?_
 refine Wc.cond (t := (!y5)) (rfl) (fun hq8 => ?_) (fun hq8 => ?_)
 replace hb := tt hq8 hb
 refine Wc.seq fun K9 hK9 => ?_
 refine rg ?_
 refine lp (.bool false) (pu_assign rfl) ?_
 refine ln ?_
 refine hK9 _ _ ?_
 obtain rfl := os hb
 refine Wc.ret ?_
 refine hKR _ _ ?_
 refine ⟨_, res1 Try.results8 (show RV _ _ _ (.tmp _) (.bool false) from rfl), _, rfl, rfl, hC.sel [] (by decide)⟩
 replace hb := tf hq8 hb
 refine Wc.skip ?_
 refine hK3 _ _ ?_
 refine Wc.seq fun K10 hK10 => ?_
 refine rg ?_
 refine lp (.slice Al_0 l_0.length cl_0) (pu_move rfl) ?_
 obtain ⟨y11, h12, hb⟩ := bd hb
 refine lex.cl (⟨_, _, op_call (vs := [.slice Al_0 l_0.length cl_0]) Try.call23 rfl rfl rfl, law46_generic_ok n hC.lt (hC.rd (i := 0) rfl) h12⟩) ?_
 rintro _ w22 ⟨A13, m14, c15, A17, m18, c19, rfl, hr21, hK⟩
 replace hC := hC.merge hK
 clear hK
 obtain ⟨rfl, hl23, hc24⟩ := (hC.ow (i := 0) rfl).sl_len
 obtain ⟨rfl, hl25, hc26⟩ := (hC.ow (i := 1) rfl).sl_len
 refine lp (.tuple #[.agg #[.slice A13 y11.1.length c15, .slice A17 y11.2.1.length c19, .int .i64 y11.2.2.1], .bool y11.2.2.2]) (pu_move rfl) ?_
 refine lp (.agg #[.slice A13 y11.1.length c15, .slice A17 y11.2.1.length c19, .int .i64 y11.2.2.1]) (pu_extract rfl rfl) ?_
 refine lp (.bool y11.2.2.2) (pu_extract rfl rfl) ?_
 refine lex.op (hC.alloc (cs := [.slice none 0 0, .slice none 0 0, .int .i64 0]) Try.zeroValue32 rfl) ?_
 rintro _ w28 ⟨g27, rfl, hC, hF, hG⟩
 clear hG
 refine lex.sk (hC.seta (i := 0) (ds := [.slice A13 y11.1.length c15, .slice A17 y11.2.1.length c19, .int .i64 y11.2.2.1]) rfl Try.type32 rfl rfl rfl rfl rfl) ?_
 rintro w30 ⟨hC, hF⟩
 refine lp (.bool y11.2.2.2) (pu_assign rfl) ?_
 refine ln ?_
 refine hK10 _ _ ?_
 refine Wc.fresh fun E31 hE => ?_
 have e0 : E31 0 = .slice Al_0 l_0.length cl_0 := (congrFun hE 0).trans rfl
 have e2 : E31 2 = .bool false := (congrFun hE 2).trans rfl
 have e3 : E31 3 = .pointer (some ⟨g27, 0, none⟩) := (congrFun hE 3).trans rfl
 have e4 : E31 4 = .bool y11.2.2.2 := (congrFun hE 4).trans rfl
 clear hE
 refine Wc.seq fun K32 hK32 => ?_
 refine Wc.seq fun K33 hK33 => ?_
 refine rg ?_
 refine lp (.bool y11.2.2.2) (pu_move e4) ?_
 refine lp (.bool (!y11.2.2.2)) (pu_not (q := y11.2.2.2) rfl) ?_
 refine ln ?_
 refine hK33 _ _ ?_
 refine Wc.cond (t := (!y11.2.2.2)) (rfl) (fun hq34 => ?_) (fun hq34 => ?_)
 replace hb := tt hq34 hb
 refine Wc.seq fun K35 hK35 => ?_
 refine rg ?_
 refine lp (.bool true) (pu_assign rfl) ?_
 refine ln ?_
 refine hK35 _ _ ?_
 obtain rfl := os hb
 refine Wc.ret ?_
 refine hKR _ _ ?_
 refine ⟨_, res1 Try.results8 (show RV _ _ _ (.tmp _) (.bool true) from rfl), _, rfl, rfl, hC.sel [] (by decide)⟩
 replace hb := tf hq34 hb
 refine Wc.skip ?_
 refine hK32 _ _ ?_
 refine Wc.seq fun K36 hK36 => ?_
 refine rg ?_
 refine lp (.slice Al_0 l_0.length cl_0) (pu_move e0) ?_
 obtain ⟨y37, h38, hb⟩ := bd hb
 refine lex.cl (⟨_, _, op_call (vs := [.slice Al_0 l_0.length cl_0, .func (.func 29) #[] #[]]) Try.call24 rfl rfl rfl, law46_moved_law46_PolygonMirrors_c1_ok n hC.lt (hC.rd (i := 3) rfl) h38⟩) ?_
 rintro _ w43 ⟨A39, m40, c41, rfl, hK⟩
 replace hC := hC.merge hK
 clear hK
 obtain ⟨rfl, hl44, hc45⟩ := (hC.ow (i := 0) rfl).sl_len
 obtain ⟨y46, h47, hb⟩ := bd hb
 refine lex.cl (⟨_, _, op_call (vs := [.slice A39 y37.length c41]) Try.call15 rfl rfl rfl, polygon_Project_ok n (hC.lentLt [.slice A39 y37.length c41]) ((hC.ow (i := 0) rfl).lend (vs := [.slice A39 y37.length c41]) (by simp)) h47⟩) ?_
 rintro _ w58 ⟨A48, m49, c50, A52, m53, c54, rfl, hr56, hr57, hK⟩
 replace hC := hC.mergeF hK rfl
 clear hK
 obtain ⟨rfl, hl59, hc60⟩ := (hC.ow (i := 0) rfl).sl_len
 obtain ⟨rfl, hl61, hc62⟩ := (hC.ow (i := 1) rfl).sl_len
 refine lp (.tuple #[.agg #[.slice A48 y46.1.length c50, .slice A52 y46.2.1.length c54, .int .i64 y46.2.2.1], .int .i64 y46.2.2.2]) (pu_move rfl) ?_
 refine lp (.agg #[.slice A48 y46.1.length c50, .slice A52 y46.2.1.length c54, .int .i64 y46.2.2.1]) (pu_extract rfl rfl) ?_
 refine lp (.int .i64 y46.2.2.2) (pu_extract rfl rfl) ?_
 refine lex.op (hC.alloc (cs := [.slice none 0 0, .slice none 0 0, .int .i64 0]) Try.zeroValue32 rfl) ?_
 rintro _ w64 ⟨g63, rfl, hC, hF, hG⟩
 clear hG
 refine lex.sk (hC.seta (i := 0) (ds := [.slice A48 y46.1.length c50, .slice A52 y46.2.1.length c54, .int .i64 y46.2.2.1]) rfl Try.type32 rfl rfl rfl rfl rfl) ?_
 rintro w66 ⟨hC, hF⟩
 refine lp (.int .i64 y46.2.2.2) (pu_assign rfl) ?_
 refine ln ?_
 refine hK36 _ _ ?_
 refine Wc.fresh fun E67 hE => ?_
 have e0 := (congrFun hE 0).trans e0
 have e2 := (congrFun hE 2).trans e2
 have e3 := (congrFun hE 3).trans e3
 have e5 : E67 5 = .pointer (some ⟨g63, 0, none⟩) := (congrFun hE 5).trans rfl
 have e6 : E67 6 = .int .i64 y46.2.2.2 := (congrFun hE 6).trans rfl
 clear hE
 refine Wc.seq fun K68 hK68 => ?_
 refine rg ?_
 refine lp (.slice Al_0 l_0.length cl_0) (pu_move e0) ?_
 obtain ⟨y69, h70, hb⟩ := bd hb
 refine lex.cl (⟨_, _, op_call (vs := [.slice Al_0 l_0.length cl_0, .func (.func 30) #[] #[]]) Try.call24 rfl rfl rfl, law46_moved_law46_PolygonMirrors_c2_ok n hC.lt (hC.rd (i := 7) rfl) h70⟩) ?_
 rintro _ w75 ⟨A71, m72, c73, rfl, hK⟩
 replace hC := hC.merge hK
 clear hK
 obtain ⟨rfl, hl76, hc77⟩ := (hC.ow (i := 0) rfl).sl_len
 obtain ⟨y78, h79, hb⟩ := bd hb
 refine lex.cl (⟨_, _, op_call (vs := [.slice A71 y69.length c73]) Try.call15 rfl rfl rfl, polygon_Project_ok n (hC.lentLt [.slice A71 y69.length c73]) ((hC.ow (i := 0) rfl).lend (vs := [.slice A71 y69.length c73]) (by simp)) h79⟩) ?_
 rintro _ w90 ⟨A80, m81, c82, A84, m85, c86, rfl, hr88, hr89, hK⟩
 replace hC := hC.mergeF hK rfl
 clear hK
 obtain ⟨rfl, hl91, hc92⟩ := (hC.ow (i := 0) rfl).sl_len
 obtain ⟨rfl, hl93, hc94⟩ := (hC.ow (i := 1) rfl).sl_len
 refine lp (.tuple #[.agg #[.slice A80 y78.1.length c82, .slice A84 y78.2.1.length c86, .int .i64 y78.2.2.1], .int .i64 y78.2.2.2]) (pu_move rfl) ?_
 refine lp (.agg #[.slice A80 y78.1.length c82, .slice A84 y78.2.1.length c86, .int .i64 y78.2.2.1]) (pu_extract rfl rfl) ?_
 refine lp (.int .i64 y78.2.2.2) (pu_extract rfl rfl) ?_
 refine lex.op (hC.alloc (cs := [.slice none 0 0, .slice none 0 0, .int .i64 0]) Try.zeroValue32 rfl) ?_
 rintro _ w96 ⟨g95, rfl, hC, hF, hG⟩
 clear hG
 refine lex.sk (hC.seta (i := 0) (ds := [.slice A80 y78.1.length c82, .slice A84 y78.2.1.length c86, .int .i64 y78.2.2.1]) rfl Try.type32 rfl rfl rfl rfl rfl) ?_
 rintro w98 ⟨hC, hF⟩
 refine lp (.int .i64 y78.2.2.2) (pu_assign rfl) ?_
 refine ln ?_
 refine hK68 _ _ ?_
 refine Wc.seq fun K99 hK99 => ?_
 refine rg ?_
 refine lv (.agg #[.slice A13 y11.1.length c15, .slice A17 y11.2.1.length c19, .int .i64 y11.2.2.1]) (ld_blk (hC.bx (i := 8) rfl) Try.isAgg32 Try.sizeOf32 e3) ?_
 obtain ⟨y100, h101, hb⟩ := bd hb
 refine lex.cl (⟨_, _, op_call (vs := [.agg #[.slice A13 y11.1.length c15, .slice A17 y11.2.1.length c19, .int .i64 y11.2.2.1]]) Try.call31 rfl rfl rfl, mirror_Mirror_ok n (hC.lentLt [.slice A13 y11.1.length c15, .slice A17 y11.2.1.length c19]) ((hC.ow (i := 9) rfl).lend (vs := [.slice A13 y11.1.length c15, .slice A17 y11.2.1.length c19]) (by simp)) ((hC.ow (i := 10) rfl).lend (vs := [.slice A13 y11.1.length c15, .slice A17 y11.2.1.length c19]) (by simp)) hr21 h101⟩) ?_
 rintro _ w112 ⟨A102, m103, c104, A106, m107, c108, rfl, hr110, hr111, hK⟩
 replace hC := hC.mergeF hK rfl
 clear hK
 obtain ⟨rfl, hl113, hc114⟩ := (hC.ow (i := 0) rfl).sl_len
 obtain ⟨rfl, hl115, hc116⟩ := (hC.ow (i := 1) rfl).sl_len
 refine lp (.tuple #[.agg #[.slice A102 y100.1.length c104, .slice A106 y100.2.1.length c108, .int .i64 y100.2.2.1], .int .i64 y100.2.2.2]) (pu_move rfl) ?_
 refine lp (.agg #[.slice A102 y100.1.length c104, .slice A106 y100.2.1.length c108, .int .i64 y100.2.2.1]) (pu_extract rfl rfl) ?_
 refine lp (.int .i64 y100.2.2.2) (pu_extract rfl rfl) ?_
 refine lex.op (hC.alloc (cs := [.slice none 0 0, .slice none 0 0, .int .i64 0]) Try.zeroValue32 rfl) ?_
 rintro _ w118 ⟨g117, rfl, hC, hF, hG⟩
 clear hG
 refine lex.sk (hC.seta (i := 0) (ds := [.slice A102 y100.1.length c104, .slice A106 y100.2.1.length c108, .int .i64 y100.2.2.1]) rfl Try.type32 rfl rfl rfl rfl rfl) ?_
 rintro w120 ⟨hC, hF⟩
 refine lp (.int .i64 y100.2.2.2) (pu_assign rfl) ?_
 refine ln ?_
 refine hK99 _ _ ?_
 refine Wc.fresh fun E121 hE => ?_
 have e2 := (congrFun hE 2).trans e2
 have e3 := (congrFun hE 3).trans e3
 have e5 := (congrFun hE 5).trans e5
 have e6 := (congrFun hE 6).trans e6
 have e7 : E121 7 = .pointer (some ⟨g95, 0, none⟩) := (congrFun hE 7).trans rfl
 have e8 : E121 8 = .int .i64 y78.2.2.2 := (congrFun hE 8).trans rfl
 have e9 : E121 9 = .pointer (some ⟨g117, 0, none⟩) := (congrFun hE 9).trans rfl
 have e10 : E121 10 = .int .i64 y100.2.2.2 := (congrFun hE 10).trans rfl
 clear hE
 refine Wc.seq fun K122 hK122 => ?_
 refine rg ?_
 refine lv (.agg #[.slice A13 y11.1.length c15, .slice A17 y11.2.1.length c19, .int .i64 y11.2.2.1]) (ld_blk (hC.bx (i := 11) rfl) Try.isAgg32 Try.sizeOf32 e3) ?_
 obtain ⟨y123, h124, hb⟩ := bd hb
 refine lex.cl (⟨_, _, op_call (vs := [.agg #[.slice A13 y11.1.length c15, .slice A17 y11.2.1.length c19, .int .i64 y11.2.2.1]]) Try.call32 rfl rfl rfl, mirror_Reflect_ok n (hC.lentLt [.slice A13 y11.1.length c15, .slice A17 y11.2.1.length c19]) ((hC.ow (i := 12) rfl).lend (vs := [.slice A13 y11.1.length c15, .slice A17 y11.2.1.length c19]) (by simp)) ((hC.ow (i := 13) rfl).lend (vs := [.slice A13 y11.1.length c15, .slice A17 y11.2.1.length c19]) (by simp)) hr21 h124⟩) ?_
 rintro _ w135 ⟨A125, m126, c127, A129, m130, c131, rfl, hr133, hr134, hK⟩
 replace hC := hC.mergeF hK rfl
 clear hK
 obtain ⟨rfl, hl136, hc137⟩ := (hC.ow (i := 0) rfl).sl_len
 obtain ⟨rfl, hl138, hc139⟩ := (hC.ow (i := 1) rfl).sl_len
 refine lp (.tuple #[.agg #[.slice A125 y123.1.length c127, .slice A129 y123.2.1.length c131, .int .i64 y123.2.2.1], .int .i64 y123.2.2.2]) (pu_move rfl) ?_
 refine lp (.agg #[.slice A125 y123.1.length c127, .slice A129 y123.2.1.length c131, .int .i64 y123.2.2.1]) (pu_extract rfl rfl) ?_
 refine lp (.int .i64 y123.2.2.2) (pu_extract rfl rfl) ?_
 refine lex.op (hC.alloc (cs := [.slice none 0 0, .slice none 0 0, .int .i64 0]) Try.zeroValue32 rfl) ?_
 rintro _ w141 ⟨g140, rfl, hC, hF, hG⟩
 clear hG
 refine lex.sk (hC.seta (i := 0) (ds := [.slice A125 y123.1.length c127, .slice A129 y123.2.1.length c131, .int .i64 y123.2.2.1]) rfl Try.type32 rfl rfl rfl rfl rfl) ?_
 rintro w143 ⟨hC, hF⟩
 refine lp (.int .i64 y123.2.2.2) (pu_assign rfl) ?_
 refine ln ?_
 refine hK122 _ _ ?_
 refine Wc.seq fun K144 hK144 => ?_
 refine rg ?_
 refine lp (.int .i64 y46.2.2.2) (pu_move e6) ?_
 refine lp (.bool (decide (y46.2.2.2 = 0))) (pu_eql (k := .i64) (a := y46.2.2.2) (b := 0) rfl rfl) ?_
 refine lp (.bool (decide (y46.2.2.2 = 0))) (pu_move rfl) ?_
 rcases bS (decide (y46.2.2.2 = 0)) with hq145 | hq145
 replace hb := tt hq145 hb
 refine gp rfl rfl (decide (y46.2.2.2 = 0)) rfl hq145 (.int .i64 y78.2.2.2) (pu_move e8) ?_
 refine gp rfl rfl (decide (y46.2.2.2 = 0)) rfl hq145 (.bool (decide (y78.2.2.2 = 0))) (pu_eql (k := .i64) (a := y78.2.2.2) (b := 0) rfl rfl) ?_
 refine lp (.bool (decide (y78.2.2.2 = 0))) (pu_pickT (q := (decide (y46.2.2.2 = 0))) rfl hq145 rfl) ?_
 refine lp (.bool (decide (y78.2.2.2 = 0))) (pu_move rfl) ?_
 rcases bS (decide (y78.2.2.2 = 0)) with hq146 | hq146
 replace hb := tt hq146 hb
 refine gp rfl rfl (decide (y78.2.2.2 = 0)) rfl hq146 (.int .i64 y100.2.2.2) (pu_move e10) ?_
 refine gp rfl rfl (decide (y78.2.2.2 = 0)) rfl hq146 (.bool (decide (y100.2.2.2 = 0))) (pu_eql (k := .i64) (a := y100.2.2.2) (b := 0) rfl rfl) ?_
 refine lp (.bool (decide (y100.2.2.2 = 0))) (pu_pickT (q := (decide (y78.2.2.2 = 0))) rfl hq146 rfl) ?_
 refine lp (.bool (decide (y100.2.2.2 = 0))) (pu_move rfl) ?_
 rcases bS (decide (y100.2.2.2 = 0)) with hq147 | hq147
 replace hb := tt hq147 hb
 refine gp rfl rfl (decide (y100.2.2.2 = 0)) rfl hq147 (.int .i64 y123.2.2.2) (pu_move rfl) ?_
 refine gp rfl rfl (decide (y100.2.2.2 = 0)) rfl hq147 (.bool (decide (y123.2.2.2 = 0))) (pu_eql (k := .i64) (a := y123.2.2.2) (b := 0) rfl rfl) ?_
 refine lp (.bool (decide (y123.2.2.2 = 0))) (pu_pickT (q := (decide (y100.2.2.2 = 0))) rfl hq147 rfl) ?_
 refine lp (.bool (decide (y123.2.2.2 = 0))) (pu_move rfl) ?_
 rcases bS (decide (y123.2.2.2 = 0)) with hq148 | hq148
 replace hb := tt hq148 hb
 refine gv rfl rfl (decide (y123.2.2.2 = 0)) rfl hq148 (.agg #[.slice A48 y46.1.length c50, .slice A52 y46.2.1.length c54, .int .i64 y46.2.2.1]) (ld_blk (hC.bx (i := 10) rfl) Try.isAgg32 Try.sizeOf32 e5) ?_
 refine gv rfl rfl (decide (y123.2.2.2 = 0)) rfl hq148 (.agg #[.slice A102 y100.1.length c104, .slice A106 y100.2.1.length c108, .int .i64 y100.2.2.1]) (ld_blk (hC.bx (i := 3) rfl) Try.isAgg32 Try.sizeOf32 e9) ?_
 obtain ⟨y149, h150, hb⟩ := bd hb
 refine lex.gcl (want_t rfl rfl (show _ = Value.bool (decide (y123.2.2.2 = 0)) from rfl) hq148) (⟨_, _, op_call (vs := [.agg #[.slice A48 y46.1.length c50, .slice A52 y46.2.1.length c54, .int .i64 y46.2.2.1], .agg #[.slice A102 y100.1.length c104, .slice A106 y100.2.1.length c108, .int .i64 y100.2.2.1]]) Try.call26 rfl rfl rfl, diagram_Equal_ok n (hC.lentLt [.slice A102 y100.1.length c104, .slice A106 y100.2.1.length c108, .slice A48 y46.1.length c50, .slice A52 y46.2.1.length c54]) ((hC.ow (i := 11) rfl).lend (vs := [.slice A102 y100.1.length c104, .slice A106 y100.2.1.length c108, .slice A48 y46.1.length c50, .slice A52 y46.2.1.length c54]) (by simp)) ((hC.ow (i := 12) rfl).lend (vs := [.slice A102 y100.1.length c104, .slice A106 y100.2.1.length c108, .slice A48 y46.1.length c50, .slice A52 y46.2.1.length c54]) (by simp)) hr56 ((hC.ow (i := 4) rfl).lend (vs := [.slice A102 y100.1.length c104, .slice A106 y100.2.1.length c108, .slice A48 y46.1.length c50, .slice A52 y46.2.1.length c54]) (by simp)) ((hC.ow (i := 5) rfl).lend (vs := [.slice A102 y100.1.length c104, .slice A106 y100.2.1.length c108, .slice A48 y46.1.length c50, .slice A52 y46.2.1.length c54]) (by simp)) hr110 h150⟩) ?_
 rintro _ w151 ⟨rfl, hK⟩
 replace hC := hC.mergeF hK rfl
 clear hK
 refine lp (.bool y149) (pu_pickT (q := (decide (y123.2.2.2 = 0))) rfl hq148 rfl) ?_
 refine lp (.bool y149) (pu_move rfl) ?_
 rcases bS y149 with hq152 | hq152
 replace hb := tt hq152 hb
 refine gv rfl rfl y149 rfl hq152 (.agg #[.slice A80 y78.1.length c82, .slice A84 y78.2.1.length c86, .int .i64 y78.2.2.1]) (ld_blk (hC.bx (i := 6) rfl) Try.isAgg32 Try.sizeOf32 e7) ?_
 refine gv rfl rfl y149 rfl hq152 (.agg #[.slice A125 y123.1.length c127, .slice A129 y123.2.1.length c131, .int .i64 y123.2.2.1]) (ld_blk (hC.bx (i := 0) rfl) Try.isAgg32 Try.sizeOf32 rfl) ?_
 obtain ⟨y153, h154, hb⟩ := bd hb
 refine lex.gcl (want_t rfl rfl (show _ = Value.bool y149 from rfl) hq152) (⟨_, _, op_call (vs := [.agg #[.slice A80 y78.1.length c82, .slice A84 y78.2.1.length c86, .int .i64 y78.2.2.1], .agg #[.slice A125 y123.1.length c127, .slice A129 y123.2.1.length c131, .int .i64 y123.2.2.1]]) Try.call26 rfl rfl rfl, diagram_Equal_ok n (hC.lentLt [.slice A125 y123.1.length c127, .slice A129 y123.2.1.length c131, .slice A80 y78.1.length c82, .slice A84 y78.2.1.length c86]) ((hC.ow (i := 7) rfl).lend (vs := [.slice A125 y123.1.length c127, .slice A129 y123.2.1.length c131, .slice A80 y78.1.length c82, .slice A84 y78.2.1.length c86]) (by simp)) ((hC.ow (i := 8) rfl).lend (vs := [.slice A125 y123.1.length c127, .slice A129 y123.2.1.length c131, .slice A80 y78.1.length c82, .slice A84 y78.2.1.length c86]) (by simp)) hr88 ((hC.ow (i := 1) rfl).lend (vs := [.slice A125 y123.1.length c127, .slice A129 y123.2.1.length c131, .slice A80 y78.1.length c82, .slice A84 y78.2.1.length c86]) (by simp)) ((hC.ow (i := 2) rfl).lend (vs := [.slice A125 y123.1.length c127, .slice A129 y123.2.1.length c131, .slice A80 y78.1.length c82, .slice A84 y78.2.1.length c86]) (by simp)) hr133 h154⟩) ?_
 rintro _ w155 ⟨rfl, hK⟩
 replace hC := hC.mergeF hK rfl
 clear hK
 refine lp (.bool y153) (pu_pickT (q := y149) rfl hq152 rfl) ?_
 refine lp (.bool y153) (pu_assign rfl) ?_
 refine ln ?_
 refine hK144 _ _ ?_
 obtain rfl := os hb
 refine Wc.ret ?_
 refine hKR _ _ ?_
 refine ⟨_, res1 Try.results8 (show RV _ _ _ (.tmp _) (.bool y153) from rfl), _, rfl, rfl, hC.sel [] (by decide)⟩
 replace hb := tf hq152 hb
 refine gs rfl rfl y149 rfl hq152 ?_
 refine gs rfl rfl y149 rfl hq152 ?_
 refine gs rfl rfl y149 rfl hq152 ?_
 refine lp (.bool false) (pu_pickF (q := y149) rfl hq152 rfl) ?_
 refine lp (.bool false) (pu_assign rfl) ?_
 refine ln ?_
 refine hK144 _ _ ?_
 obtain rfl := os hb
 refine Wc.ret ?_
 refine hKR _ _ ?_
 refine ⟨_, res1 Try.results8 (show RV _ _ _ (.tmp _) (.bool false) from rfl), _, rfl, rfl, hC.sel [] (by decide)⟩
 replace hb := tf hq148 hb
 refine gs rfl rfl (decide (y123.2.2.2 = 0)) rfl hq148 ?_
 refine gs rfl rfl (decide (y123.2.2.2 = 0)) rfl hq148 ?_
 refine gs rfl rfl (decide (y123.2.2.2 = 0)) rfl hq148 ?_
 refine lp (.bool false) (pu_pickF (q := (decide (y123.2.2.2 = 0))) rfl hq148 rfl) ?_
 refine lp (.bool false) (pu_move rfl) ?_
 refine gs rfl rfl false rfl rfl ?_
 refine gs rfl rfl false rfl rfl ?_
 refine gs rfl rfl false rfl rfl ?_
 refine lp (.bool false) (pu_pickF (q := false) rfl rfl rfl) ?_
 refine lp (.bool false) (pu_assign rfl) ?_
 refine ln ?_
 refine hK144 _ _ ?_
 obtain rfl := os hb
 refine Wc.ret ?_
 refine hKR _ _ ?_
 refine ⟨_, res1 Try.results8 (show RV _ _ _ (.tmp _) (.bool false) from rfl), _, rfl, rfl, hC.sel [] (by decide)⟩
 replace hb := tf hq147 hb
 refine gs rfl rfl (decide (y100.2.2.2 = 0)) rfl hq147 ?_
 refine gs rfl rfl (decide (y100.2.2.2 = 0)) rfl hq147 ?_
 refine lp (.bool false) (pu_pickF (q := (decide (y100.2.2.2 = 0))) rfl hq147 rfl) ?_
 refine lp (.bool false) (pu_move rfl) ?_
 refine gs rfl rfl false rfl rfl ?_
 refine gs rfl rfl false rfl rfl ?_
 refine gs rfl rfl false rfl rfl ?_
 refine lp (.bool false) (pu_pickF (q := false) rfl rfl rfl) ?_
 refine lp (.bool false) (pu_move rfl) ?_
 refine gs rfl rfl false rfl rfl ?_
 refine gs rfl rfl false rfl rfl ?_
 refine gs rfl rfl false rfl rfl ?_
 refine lp (.bool false) (pu_pickF (q := false) rfl rfl rfl) ?_
 refine lp (.bool false) (pu_assign rfl) ?_
 refine ln ?_
 refine hK144 _ _ ?_
 obtain rfl := os hb
 refine Wc.ret ?_
 refine hKR _ _ ?_
 refine ⟨_, res1 Try.results8 (show RV _ _ _ (.tmp _) (.bool false) from rfl), _, rfl, rfl, hC.sel [] (by decide)⟩
 replace hb := tf hq146 hb
 refine gs rfl rfl (decide (y78.2.2.2 = 0)) rfl hq146 ?_
 refine gs rfl rfl (decide (y78.2.2.2 = 0)) rfl hq146 ?_
 refine lp (.bool false) (pu_pickF (q := (decide (y78.2.2.2 = 0))) rfl hq146 rfl) ?_
 refine lp (.bool false) (pu_move rfl) ?_
 refine gs rfl rfl false rfl rfl ?_
 refine gs rfl rfl false rfl rfl ?_
 refine lp (.bool false) (pu_pickF (q := false) rfl rfl rfl) ?_
 refine lp (.bool false) (pu_move rfl) ?_
 refine gs rfl rfl false rfl rfl ?_
 refine gs rfl rfl false rfl rfl ?_
 refine gs rfl rfl false rfl rfl ?_
 refine lp (.bool false) (pu_pickF (q := false) rfl rfl rfl) ?_
 refine lp (.bool false) (pu_move rfl) ?_
 refine gs rfl rfl false rfl rfl ?_
 refine gs rfl rfl false rfl rfl ?_
 refine gs rfl rfl false rfl rfl ?_
 refine lp (.bool false) (pu_pickF (q := false) rfl rfl rfl) ?_
 refine lp (.bool false) (pu_assign rfl) ?_
 refine ln ?_
 refine hK144 _ _ ?_
 obtain rfl := os hb
 refine Wc.ret ?_
 refine hKR _ _ ?_
 refine ⟨_, res1 Try.results8 (show RV _ _ _ (.tmp _) (.bool false) from rfl), _, rfl, rfl, hC.sel [] (by decide)⟩
 replace hb := tf hq145 hb
 refine gs rfl rfl (decide (y46.2.2.2 = 0)) rfl hq145 ?_
 refine gs rfl rfl (decide (y46.2.2.2 = 0)) rfl hq145 ?_
 refine lp (.bool false) (pu_pickF (q := (decide (y46.2.2.2 = 0))) rfl hq145 rfl) ?_
 refine lp (.bool false) (pu_move rfl) ?_
 refine gs rfl rfl false rfl rfl ?_
 refine gs rfl rfl false rfl rfl ?_
 refine lp (.bool false) (pu_pickF (q := false) rfl rfl rfl) ?_
 refine lp (.bool false) (pu_move rfl) ?_
 refine gs rfl rfl false rfl rfl ?_
 refine gs rfl rfl false rfl rfl ?_
 refine lp (.bool false) (pu_pickF (q := false) rfl rfl rfl) ?_
 refine lp (.bool false) (pu_move rfl) ?_
 refine gs rfl rfl false rfl rfl ?_
 refine gs rfl rfl false rfl rfl ?_
 refine gs rfl rfl false rfl rfl ?_
 refine lp (.bool false) (pu_pickF (q := false) rfl rfl rfl) ?_
 refine lp (.bool false) (pu_move rfl) ?_
 refine gs rfl rfl false rfl rfl ?_
 refine gs rfl rfl false rfl rfl ?_
 refine gs rfl rfl false rfl rfl ?_
 refine lp (.bool false) (pu_pickF (q := false) rfl rfl rfl) ?_
 refine lp (.bool false) (pu_assign rfl) ?_
 refine ln ?_
 refine hK144 _ _ ?_
 obtain rfl := os hb
 refine Wc.ret ?_
 refine hKR _ _ ?_
 refine ⟨_, res1 Try.results8 (show RV _ _ _ (.tmp _) (.bool false) from rfl), _, rfl, rfl, hC.sel [] (by decide)⟩
end Go.Proofs.Yteajmbanlohncaa
