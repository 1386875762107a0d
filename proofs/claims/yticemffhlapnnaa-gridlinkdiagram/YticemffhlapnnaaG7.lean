/- The walks: part 7. -/
import Derived.Test.YticemffhlapnnaaS
import Derived.Test.YticemffhlapnnaaG4
set_option linter.unusedVariables false
set_option linter.unusedSimpArgs false
namespace Go.Proofs.Yticemffhlapnnaa
open Ev
set_option maxRecDepth 100000 in
set_option maxHeartbeats 4000000 in
theorem ref44_number_ok (n : Nat) {w : World} {O0 : List Nat} (hO : ∀ k ∈ O0, k < w.heap.size) {Al_0 : Option Addr} {ml_0 cl_0 : Nat} {l_0 : List (Int × Int)} (hl_0 : Rep O0 w (.sl (.pr (.int .i64) (.int .i64))) [.slice Al_0 ml_0 cl_0] l_0) {col_1 : Int} (hcol_1 : I64 col_1) {row_2 : Int} (hrow_2 : I64 row_2) {r : Int} (hb : F.ref44_number n l_0 col_1 row_2 = some r) :
    Calls Try.prog 45 #[.slice Al_0 ml_0 cl_0, .int .i64 col_1, .int .i64 row_2] w fun e w' => ∃ v, e = .returned v ∧ v = .int .i64 r ∧ I64 r ∧ Cx (fun _ => False) O0 w w' [] := by
 unfold F.ref44_number at hb
 have hC := Cx.start hO
 replace hC := hC.arg rfl hl_0
 clear hO
 obtain ⟨rfl, hll_0, hcl_0⟩ := hl_0.sl_len
 refine calls_of_Wc Try.func45 rfl (by rw [Try.ntmps45]; exact Nat.le_of_ble_eq_true rfl) fun KR hKR => ?_
 refine Wc.seq fun K2 hK2 => ?_
 refine rg ?_
 refine lp (.int .i64 0) (pu_assign rfl) ?_
 refine ln ?_
 refine hK2 _ _ ?_
 refine Wc.seq fun K3 hK3 => ?_
 refine Wc.seq fun K4 hK4 => ?_
 refine rg ?_
 refine lp (.int .i64 0) (pu_assign rfl) ?_
 refine ln ?_
 refine hK4 _ _ ?_
 obtain ⟨o5, hl0, hb⟩ := bd hb
 refine Wc.cut (fun E wv => ∃ (v7_0 : Int), E 6 = .int .i64 0 ∧ I64 v7_0 ∧ Cx (fun _ => False) O0 w wv [] ∧ (some (-1) : Option (Int)) = some r) (fun K6 hK6 => ?_) ?_
 refine Wc.block ?_
 refine Wc.loop (fun m E wv => ∃ (v7_0 : Int), E 0 = .slice Al_0 l_0.length cl_0 ∧ E 1 = .int .i64 col_1 ∧ E 2 = .int .i64 row_2 ∧ E 6 = .int .i64 0 ∧ E 7 = .int .i64 v7_0 ∧ I64 v7_0 ∧ Cx (fun _ => False) O0 w wv [.ro (.sl (.pr (.int .i64) (.int .i64))) [.slice Al_0 l_0.length cl_0] l_0] ∧ loopN m (F.ref44_number_b0 n l_0 col_1 row_2) v7_0 = some o5) n ⟨0, rfl, rfl, rfl, rfl, rfl, (show I64 0 from by unfold I64; omega), hC.sel [0] (by decide), hl0⟩ ?_
 have hbK0 := hb
 clear hb hC hl0
 rintro m8 E10 w9 ⟨v7_0, e0, e1, e2, e6, e7, hrv7_0, hC, hl0⟩ K7 hK7
 obtain ⟨m8', o11, rfl, hb, hl0⟩ := loopN_some hl0
 unfold F.ref44_number_b0 at hb
 refine Wc.seq fun K12 hK12 => ?_
 refine Wc.seq fun K13 hK13 => ?_
 refine rg ?_
 refine lp (.int .i64 v7_0) (pu_move e7) ?_
 refine lp (.slice Al_0 l_0.length cl_0) (pu_move e0) ?_
 refine lp (.int .i64 (l_0.length : Int)) (pu_len (A := Al_0) (n := l_0.length) (m := cl_0) Try.underlying33 rfl) ?_
 refine lp (.bool (decide (v7_0 < (l_0.length : Int)))) (pu_lss (k := .i64) (a := v7_0) (b := (l_0.length : Int)) rfl rfl) ?_
 refine ln ?_
 refine hK13 _ _ ?_
 refine Wc.cond (t := (decide (v7_0 < (l_0.length : Int)))) (rfl) (fun hq14 => ?_) (fun hq14 => ?_)
 replace hb := tt hq14 hb
 refine Wc.skip ?_
 refine hK12 _ _ ?_
 refine Wc.seq fun K15 hK15 => ?_
 refine Wc.block ?_
 refine Wc.seq fun K16 hK16 => ?_
 refine rg ?_
 refine lp (.slice Al_0 l_0.length cl_0) (pu_move e0) ?_
 refine lp (.int .i64 v7_0) (pu_move e7) ?_
 obtain ⟨x17, h18, hb⟩ := bd hb
 obtain ⟨ad19, cs20, hA, hc21, hr22⟩ := hC.elr (i := 0) rfl (get_some h18).2
 subst hA
 refine lp (.pointer (some (ad19.add (v7_0.toNat * 2)))) (pu_index (a := v7_0) Try.underlying33 Try.sizeOf67 rfl rfl (get_some h18).1) ?_
 obtain ⟨k23, k24, rfl, hr25, hr26⟩ := hr22
 obtain ⟨rfl, hr25⟩ := hr25
 obtain ⟨rfl, hr26⟩ := hr26
 refine lv (.agg #[.int .i64 x17.1, .int .i64 x17.2]) (ld_agg Try.isAgg67 Try.sizeOf67 rfl rfl hc21) ?_
 refine lp (.int .i64 col_1) (pu_move e1) ?_
 refine lp (.int .i64 row_2) (pu_move e2) ?_
 refine lp (.agg #[.int .i64 col_1, .int .i64 row_2]) (pu_builda (pv := [(0, .int .i64 col_1), (1, .int .i64 row_2)]) (sz := 1) Try.type67 Try.underlying67 rfl Try.type3 rfl rfl (by simp [Instr.fill, Value.cells])) ?_
 refine lp (.bool (decide (x17.1 = col_1) && (decide (x17.2 = row_2) && true))) (pu_eqla (c := 1) (js := [0, 1]) Try.underlying67 Try.type3 (by kernel_rfl) (by kernel_rfl) (by decide) rfl rfl (eqI_cons Try.underlying3 Try.isAgg3 rfl rfl (eqI_cons Try.underlying3 Try.isAgg3 rfl rfl eqI_nil))) ?_
 refine ln ?_
 refine hK16 _ _ ?_
 refine Wc.fresh fun E27 hE => ?_
 have e0 := (congrFun hE 0).trans e0
 have e1 := (congrFun hE 1).trans e1
 have e2 := (congrFun hE 2).trans e2
 have e6 := (congrFun hE 6).trans e6
 have e7 := (congrFun hE 7).trans e7
 have e11 : E27 11 = .bool (decide (v7_0 < (l_0.length : Int))) := (congrFun hE 11).trans rfl
 have e21 : E27 21 = .bool (decide (x17.1 = col_1) && (decide (x17.2 = row_2) && true)) := (congrFun hE 21).trans rfl
 clear hE
 refine Wc.cond (t := (decide (x17.1 = col_1) && (decide (x17.2 = row_2) && true))) (e21) (fun hq28 => ?_) (fun hq28 => ?_)
 replace hb := tt hq28 hb
 refine Wc.seq fun K29 hK29 => ?_
 refine rg ?_
 refine lp (.int .i64 v7_0) (pu_move e7) ?_
 refine lp (.int .i64 v7_0) (pu_assign rfl) ?_
 refine ln ?_
 refine hK29 _ _ ?_
 obtain rfl := os hb
 obtain rfl := (lX hl0).symm
 replace hb := hbK0
 obtain rfl := os hb
 refine Wc.ret ?_
 refine hKR _ _ ?_
 refine ⟨_, res1 Try.results45 (show RV _ _ _ (.tmp _) (.int .i64 v7_0) from rfl), _, rfl, rfl, hrv7_0, hC.sel [] (by decide)⟩
 replace hb := tf hq28 hb
 refine Wc.skip ?_
 refine hK15 _ _ ?_
 refine rg ?_
 refine lp (.int .i64 v7_0) (pu_move e7) ?_
 obtain ⟨z30, h31, hb⟩ := bd hb
 refine lp (.int .i64 z30) (pu_addc (a := v7_0) (b := 1) rfl rfl h31) ?_
 refine lp (.int .i64 z30) (pu_assign rfl) ?_
 refine ln ?_
 obtain rfl := os hb
 exact hK7 m8' _ _ (Nat.lt_succ_self _) ⟨z30, e0, e1, e2, e6, rfl, (chk_rng h31), hC.sel [0] (by decide), lN hl0⟩
 replace hb := tf hq14 hb
 refine Wc.exit rfl ?_
 obtain rfl := os hb
 obtain rfl := (lX hl0).symm
 exact hK6 _ _ ⟨v7_0, e6, hrv7_0, hC.sel [] (by decide), hbK0⟩
 clear hb hC hl0
 rintro E33 w32 ⟨v7_0, e6, hrv7_0, hC, hb⟩
 refine hK3 _ _ ?_
 refine Wc.seq fun K34 hK34 => ?_
 refine rg ?_
 refine lp (.int .i64 (-1)) (pu_assign rfl) ?_
 refine ln ?_
 refine hK34 _ _ ?_
 obtain rfl := os hb
 refine Wc.ret ?_
 refine hKR _ _ ?_
 refine ⟨_, res1 Try.results45 (show RV _ _ _ (.tmp _) (.int .i64 (-1)) from rfl), _, rfl, rfl, (show I64 (-1) from by unfold I64; omega), hC.sel [] (by decide)⟩

set_option maxRecDepth 100000 in
set_option maxHeartbeats 4000000 in
theorem ref01_Equal_ok (n : Nat) {w : World} {O0 : List Nat} (hO : ∀ k ∈ O0, k < w.heap.size) {Aa_0_0 : Option Addr} {ma_0_0 ca_0_0 : Nat} {a_0_0 : List Int} (ha_0_0 : Rep O0 w (.sl (.int .i64)) [.slice Aa_0_0 ma_0_0 ca_0_0] a_0_0) {Aa_0_1 : Option Addr} {ma_0_1 ca_0_1 : Nat} {a_0_1 : List Int} (ha_0_1 : Rep O0 w (.sl (.int .i64)) [.slice Aa_0_1 ma_0_1 ca_0_1] a_0_1) {a_0_2 : Int} (ha_0_2 : I64 a_0_2) {Ab_1_0 : Option Addr} {mb_1_0 cb_1_0 : Nat} {b_1_0 : List Int} (hb_1_0 : Rep O0 w (.sl (.int .i64)) [.slice Ab_1_0 mb_1_0 cb_1_0] b_1_0) {Ab_1_1 : Option Addr} {mb_1_1 cb_1_1 : Nat} {b_1_1 : List Int} (hb_1_1 : Rep O0 w (.sl (.int .i64)) [.slice Ab_1_1 mb_1_1 cb_1_1] b_1_1) {b_1_2 : Int} (hb_1_2 : I64 b_1_2) {r : Bool} (hb : F.ref01_Equal n a_0_0 a_0_1 a_0_2 b_1_0 b_1_1 b_1_2 = some r) :
    Calls Try.prog 16 #[.agg #[.slice Aa_0_0 ma_0_0 ca_0_0, .slice Aa_0_1 ma_0_1 ca_0_1, .int .i64 a_0_2], .agg #[.slice Ab_1_0 mb_1_0 cb_1_0, .slice Ab_1_1 mb_1_1 cb_1_1, .int .i64 b_1_2]] w fun e w' => ∃ v, e = .returned v ∧ v = .bool r ∧ Cx (fun _ => False) O0 w w' [] := by
 unfold F.ref01_Equal at hb
 have hC := Cx.start hO
 replace hC := hC.arg rfl ha_0_0
 replace hC := hC.arg rfl ha_0_1
 replace hC := hC.arg rfl hb_1_0
 replace hC := hC.arg rfl hb_1_1
 clear hO
 obtain ⟨rfl, hla_0_0, hca_0_0⟩ := ha_0_0.sl_len
 obtain ⟨rfl, hla_0_1, hca_0_1⟩ := ha_0_1.sl_len
 obtain ⟨rfl, hlb_1_0, hcb_1_0⟩ := hb_1_0.sl_len
 obtain ⟨rfl, hlb_1_1, hcb_1_1⟩ := hb_1_1.sl_len
 refine calls_of_Wc Try.func16 rfl (by rw [Try.ntmps16]; exact Nat.le_of_ble_eq_true rfl) fun KR hKR => ?_
 refine Wc.seq fun K5 hK5 => ?_
 refine rg ?_
 refine lex.op (hC.box (cs := [.slice Aa_0_0 a_0_0.length ca_0_0, .slice Aa_0_1 a_0_1.length ca_0_1, .int .i64 a_0_2]) rfl rfl) ?_
 rintro _ w7 ⟨g6, rfl, hC, hF, hG⟩
 clear hG
 refine lex.op (hC.box (cs := [.slice Ab_1_0 b_1_0.length cb_1_0, .slice Ab_1_1 b_1_1.length cb_1_1, .int .i64 b_1_2]) rfl rfl) ?_
 rintro _ w10 ⟨g9, rfl, hC, hF, hG⟩
 clear hG
 refine lp (.bool false) (pu_assign rfl) ?_
 refine ln ?_
 refine hK5 _ _ ?_
 refine Wc.seq fun K12 hK12 => ?_
 refine rg ?_
 refine lp (.pointer (some ((⟨g6, 0, none⟩ : Addr).add 0))) (pu_field (sz := 1) Try.underlying28 rfl Try.sizeOf22 (by decide) rfl rfl) ?_
 refine lv (.slice Aa_0_0 a_0_0.length ca_0_0) (ld_fld (hC.bx (i := 1) rfl) Try.isAgg22 rfl rfl) ?_
 refine lp (.pointer (some ((⟨g9, 0, none⟩ : Addr).add 0))) (pu_field (sz := 1) Try.underlying28 rfl Try.sizeOf22 (by decide) rfl rfl) ?_
 refine lv (.slice Ab_1_0 b_1_0.length cb_1_0) (ld_fld (hC.bx (i := 0) rfl) Try.isAgg22 rfl rfl) ?_
 obtain ⟨y13, h14, hb⟩ := bd hb
 refine lex.cl (⟨_, _, op_call (vs := [.slice Aa_0_0 a_0_0.length ca_0_0, .slice Ab_1_0 b_1_0.length cb_1_0]) Try.call25 rfl rfl rfl, ref01_Ints_ok n hC.lt (hC.rd (i := 5) rfl) (hC.rd (i := 3) rfl) h14⟩) ?_
 rintro _ w15 ⟨rfl, hK⟩
 replace hC := hC.merge hK
 clear hK
 refine lp (.bool y13) (pu_move rfl) ?_
 rcases bS y13 with hq16 | hq16
 replace hb := tt hq16 hb
 refine gp rfl rfl y13 rfl hq16 (.pointer (some ((⟨g6, 0, none⟩ : Addr).add 1))) (pu_field (sz := 1) Try.underlying28 rfl Try.sizeOf22 (by decide) rfl rfl) ?_
 refine gv rfl rfl y13 rfl hq16 (.slice Aa_0_1 a_0_1.length ca_0_1) (ld_fld (hC.bx (i := 1) rfl) Try.isAgg22 rfl rfl) ?_
 refine gp rfl rfl y13 rfl hq16 (.pointer (some ((⟨g9, 0, none⟩ : Addr).add 1))) (pu_field (sz := 1) Try.underlying28 rfl Try.sizeOf22 (by decide) rfl rfl) ?_
 refine gv rfl rfl y13 rfl hq16 (.slice Ab_1_1 b_1_1.length cb_1_1) (ld_fld (hC.bx (i := 0) rfl) Try.isAgg22 rfl rfl) ?_
 obtain ⟨y17, h18, hb⟩ := bd hb
 refine lex.gcl (want_t rfl rfl (show _ = Value.bool y13 from rfl) hq16) (⟨_, _, op_call (vs := [.slice Aa_0_1 a_0_1.length ca_0_1, .slice Ab_1_1 b_1_1.length cb_1_1]) Try.call25 rfl rfl rfl, ref01_Ints_ok n hC.lt (hC.rd (i := 4) rfl) (hC.rd (i := 2) rfl) h18⟩) ?_
 rintro _ w19 ⟨rfl, hK⟩
 replace hC := hC.merge hK
 clear hK
 refine lp (.bool y17) (pu_pickT (q := y13) rfl hq16 rfl) ?_
 refine lp (.bool y17) (pu_move rfl) ?_
 rcases bS y17 with hq20 | hq20
 replace hb := tt hq20 hb
 refine gp rfl rfl y17 rfl hq20 (.pointer (some ((⟨g6, 0, none⟩ : Addr).add 2))) (pu_field (sz := 1) Try.underlying28 rfl Try.sizeOf3 (by decide) rfl rfl) ?_
 refine gv rfl rfl y17 rfl hq20 (.int .i64 a_0_2) (ld_fld (hC.bx (i := 1) rfl) Try.isAgg3 rfl rfl) ?_
 refine gp rfl rfl y17 rfl hq20 (.pointer (some ((⟨g9, 0, none⟩ : Addr).add 2))) (pu_field (sz := 1) Try.underlying28 rfl Try.sizeOf3 (by decide) rfl rfl) ?_
 refine gv rfl rfl y17 rfl hq20 (.int .i64 b_1_2) (ld_fld (hC.bx (i := 0) rfl) Try.isAgg3 rfl rfl) ?_
 refine gp rfl rfl y17 rfl hq20 (.bool (decide (a_0_2 = b_1_2))) (pu_eql (k := .i64) (a := a_0_2) (b := b_1_2) rfl rfl) ?_
 refine lp (.bool (decide (a_0_2 = b_1_2))) (pu_pickT (q := y17) rfl hq20 rfl) ?_
 refine lp (.bool (decide (a_0_2 = b_1_2))) (pu_assign rfl) ?_
 refine ln ?_
 refine hK12 _ _ ?_
 obtain rfl := os hb
 refine Wc.ret ?_
 refine hKR _ _ ?_
 refine ⟨_, res1 Try.results16 (show RV _ _ _ (.tmp _) (.bool (decide (a_0_2 = b_1_2))) from rfl), _, rfl, rfl, hC.sel [] (by decide)⟩
 replace hb := tf hq20 hb
 refine gs rfl rfl y17 rfl hq20 ?_
 refine gs rfl rfl y17 rfl hq20 ?_
 refine gs rfl rfl y17 rfl hq20 ?_
 refine gs rfl rfl y17 rfl hq20 ?_
 refine gs rfl rfl y17 rfl hq20 ?_
 refine lp (.bool false) (pu_pickF (q := y17) rfl hq20 rfl) ?_
 refine lp (.bool false) (pu_assign rfl) ?_
 refine ln ?_
 refine hK12 _ _ ?_
 obtain rfl := os hb
 refine Wc.ret ?_
 refine hKR _ _ ?_
 refine ⟨_, res1 Try.results16 (show RV _ _ _ (.tmp _) (.bool false) from rfl), _, rfl, rfl, hC.sel [] (by decide)⟩
 replace hb := tf hq16 hb
 refine gs rfl rfl y13 rfl hq16 ?_
 refine gs rfl rfl y13 rfl hq16 ?_
 refine gs rfl rfl y13 rfl hq16 ?_
 refine gs rfl rfl y13 rfl hq16 ?_
 refine gs rfl rfl y13 rfl hq16 ?_
 refine lp (.bool false) (pu_pickF (q := y13) rfl hq16 rfl) ?_
 refine lp (.bool false) (pu_move rfl) ?_
 refine gs rfl rfl false rfl rfl ?_
 refine gs rfl rfl false rfl rfl ?_
 refine gs rfl rfl false rfl rfl ?_
 refine gs rfl rfl false rfl rfl ?_
 refine gs rfl rfl false rfl rfl ?_
 refine lp (.bool false) (pu_pickF (q := false) rfl rfl rfl) ?_
 refine lp (.bool false) (pu_assign rfl) ?_
 refine ln ?_
 refine hK12 _ _ ?_
 obtain rfl := os hb
 refine Wc.ret ?_
 refine hKR _ _ ?_
 refine ⟨_, res1 Try.results16 (show RV _ _ _ (.tmp _) (.bool false) from rfl), _, rfl, rfl, hC.sel [] (by decide)⟩
end Go.Proofs.Yticemffhlapnnaa
