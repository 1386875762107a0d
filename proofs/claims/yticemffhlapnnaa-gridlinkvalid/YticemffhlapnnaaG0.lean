/- The walks: part 0. -/
import Derived.Test.YticemffhlapnnaaS
set_option linter.unusedVariables false
set_option linter.unusedSimpArgs false
namespace Go.Proofs.Yticemffhlapnnaa
open Ev
set_option maxRecDepth 100000 in
set_option maxHeartbeats 4000000 in
theorem grid_permutation_ok (n : Nat) {w : World} {O0 : List Nat} (hO : ∀ k ∈ O0, k < w.heap.size) {Al_0 : Option Addr} {ml_0 cl_0 : Nat} {l_0 : List Int} (hl_0 : Rep O0 w (.sl (.int .i64)) [.slice Al_0 ml_0 cl_0] l_0) {r : Bool} (hb : F.grid_permutation n l_0 = some r) :
    Calls Try.prog 50 #[.slice Al_0 ml_0 cl_0] w fun e w' => ∃ v, e = .returned v ∧ v = .bool r ∧ Cx (fun _ => False) O0 w w' [] := by
 unfold F.grid_permutation at hb
 have hC := Cx.start hO
 replace hC := hC.arg rfl hl_0
 clear hO
 obtain ⟨rfl, hll_0, hcl_0⟩ := hl_0.sl_len
 refine calls_of_Wc Try.func50 rfl (by rw [Try.ntmps50]; exact Nat.le_of_ble_eq_true rfl) fun KR hKR => ?_
 refine Wc.seq fun K2 hK2 => ?_
 refine rg ?_
 refine lp (.bool false) (pu_assign rfl) ?_
 refine ln ?_
 refine hK2 _ _ ?_
 refine Wc.seq fun K3 hK3 => ?_
 refine rg ?_
 refine lp (.slice Al_0 l_0.length cl_0) (pu_move rfl) ?_
 refine lp (.int .i64 (l_0.length : Int)) (pu_len (A := Al_0) (n := l_0.length) (m := cl_0) Try.underlying22 rfl) ?_
 obtain ⟨u4, h5, hb⟩ := bd hb
 refine lex.op (hC.make (s := .bool) (n := (l_0.length : Int)) Try.underlying55 Try.type4 rfl rfl rfl rfl rfl (pos_some h5).1 (pos_some h5).2 (by decide)) ?_
 rintro _ w10 ⟨A6, c7, rfl, hl8, hc9, hC, hF, hN⟩
 clear hF hN
 refine lp (.slice A6 (((List.replicate (l_0.length : Int).toNat false)).length) c7) (pu_assign rfl) ?_
 refine ln ?_
 refine hK3 _ _ ?_
 refine Wc.seq fun K12 hK12 => ?_
 refine Wc.seq fun K13 hK13 => ?_
 refine rg ?_
 refine lp (.slice Al_0 l_0.length cl_0) (pu_move rfl) ?_
 refine lp (.int .i64 (l_0.length : Int)) (pu_len (A := Al_0) (n := l_0.length) (m := cl_0) Try.underlying22 rfl) ?_
 refine lp (.int .i64 0) (pu_move rfl) ?_
 refine ln ?_
 refine hK13 _ _ ?_
 obtain ⟨o14, hl0, hb⟩ := bd hb
 refine Wc.cut (fun E wv => ∃ (v11_0 : Int) (qf11_0 : List Bool), E 2 = .bool false ∧ I64 v11_0 ∧ Cx (fun _ => False) O0 w wv [] ∧ (some true : Option (Bool)) = some r) (fun K15 hK15 => ?_) ?_
 refine Wc.block ?_
 refine Wc.loop (fun m E wv => ∃ (v11_0 : Int) (qf11_0 : List Bool), E 0 = .slice Al_0 l_0.length cl_0 ∧ E 2 = .bool false ∧ E 3 = .slice A6 (((List.replicate (l_0.length : Int).toNat false)).length) c7 ∧ E 9 = .slice Al_0 l_0.length cl_0 ∧ E 10 = .int .i64 (l_0.length : Int) ∧ E 11 = .int .i64 v11_0 ∧ I64 v11_0 ∧ Cx (fun _ => False) O0 w wv [.ro (.sl (.int .i64)) [.slice Al_0 l_0.length cl_0] l_0, .own 4 .bool (.slice A6 (((List.replicate (l_0.length : Int).toNat false)).length) c7) qf11_0] ∧ loopN m (F.grid_permutation_b0 n l_0) (v11_0, qf11_0) = some o14) n ⟨0, (List.replicate (l_0.length : Int).toNat false), rfl, rfl, rfl, rfl, rfl, rfl, (show I64 0 from by unfold I64; omega), hC.sel [1, 0] (by decide), hl0⟩ ?_
 have hbK0 := hb
 clear hb hC hl0
 rintro m17 E19 w18 ⟨v11_0, qf11_0, e0, e2, e3, e9, e10, e11, hrv11_0, hC, hl0⟩ K16 hK16
 obtain ⟨m17', o20, rfl, hb, hl0⟩ := loopN_some hl0
 unfold F.grid_permutation_b0 at hb
 refine Wc.seq fun K21 hK21 => ?_
 refine rg ?_
 refine lp (.bool (decide (v11_0 < (l_0.length : Int)))) (pu_lss (k := .i64) (a := v11_0) (b := (l_0.length : Int)) e11 e10) ?_
 refine ln ?_
 refine hK21 _ _ ?_
 refine Wc.seq fun K22 hK22 => ?_
 refine Wc.cond (t := (decide (v11_0 < (l_0.length : Int)))) (rfl) (fun hq23 => ?_) (fun hq23 => ?_)
 replace hb := tt hq23 hb
 refine Wc.skip ?_
 refine hK22 _ _ ?_
 refine Wc.seq fun K24 hK24 => ?_
 refine Wc.block ?_
 refine Wc.seq fun K25 hK25 => ?_
 refine rg ?_
 obtain ⟨x26, h27, hb⟩ := bd hb
 obtain ⟨ad28, cs29, hA, hc30, hr31⟩ := hC.elr (i := 0) rfl (get_some h27).2
 subst hA
 refine lp (.pointer (some (ad28.add (v11_0.toNat * 1)))) (pu_index (a := v11_0) Try.underlying22 Try.sizeOf3 e9 e11 (get_some h27).1) ?_
 obtain ⟨rfl, hr31'⟩ := hr31
 refine lv (.int .i64 x26) (ld_one Try.isAgg3 rfl (hc30 0 _ rfl)) ?_
 refine lp (.int .i64 x26) (pu_assign rfl) ?_
 refine ln ?_
 refine hK25 _ _ ?_
 refine Wc.seq fun K32 hK32 => ?_
 refine Wc.seq fun K33 hK33 => ?_
 refine rg ?_
 refine lp (.int .i64 x26) (pu_move rfl) ?_
 refine lp (.bool (decide (x26 < 0))) (pu_lss (k := .i64) (a := x26) (b := 0) rfl rfl) ?_
 refine lp (.bool (decide (x26 < 0))) (pu_move rfl) ?_
 rcases bS (decide (x26 < 0)) with hq34 | hq34
 replace hb := tt hq34 hb
 refine gs rfl rfl (decide (x26 < 0)) rfl hq34 ?_
 refine gs rfl rfl (decide (x26 < 0)) rfl hq34 ?_
 refine gs rfl rfl (decide (x26 < 0)) rfl hq34 ?_
 refine gs rfl rfl (decide (x26 < 0)) rfl hq34 ?_
 refine lp (.bool true) (pu_pickT (q := (decide (x26 < 0))) rfl hq34 rfl) ?_
 refine lp (.bool true) (pu_move rfl) ?_
 refine gs rfl rfl true rfl rfl ?_
 refine gs rfl rfl true rfl rfl ?_
 refine gs rfl rfl true rfl rfl ?_
 refine gs rfl rfl true rfl rfl ?_
 refine lp (.bool true) (pu_pickT (q := true) rfl rfl rfl) ?_
 refine ln ?_
 refine hK33 _ _ ?_
 refine Wc.cond_true (rfl) ?_
 refine Wc.seq fun K35 hK35 => ?_
 refine rg ?_
 refine lp (.bool false) (pu_assign rfl) ?_
 refine ln ?_
 refine hK35 _ _ ?_
 obtain rfl := os hb
 obtain rfl := (lX hl0).symm
 replace hb := hbK0
 obtain rfl := os hb
 refine Wc.ret ?_
 refine hKR _ _ ?_
 refine ⟨_, res1 Try.results50 (show RV _ _ _ (.tmp _) (.bool false) from rfl), _, rfl, rfl, hC.sel [] (by decide)⟩
 replace hb := tf hq34 hb
 refine gp rfl rfl (decide (x26 < 0)) rfl hq34 (.int .i64 x26) (pu_move rfl) ?_
 refine gp rfl rfl (decide (x26 < 0)) rfl hq34 (.slice (some ad28) l_0.length cl_0) (pu_move e0) ?_
 refine gp rfl rfl (decide (x26 < 0)) rfl hq34 (.int .i64 (l_0.length : Int)) (pu_len (A := (some ad28)) (n := l_0.length) (m := cl_0) Try.underlying22 rfl) ?_
 refine gp rfl rfl (decide (x26 < 0)) rfl hq34 (.bool (decide ((l_0.length : Int) ≤ x26))) (pu_geq (k := .i64) (a := x26) (b := (l_0.length : Int)) rfl rfl) ?_
 refine lp (.bool (decide ((l_0.length : Int) ≤ x26))) (pu_pickF (q := (decide (x26 < 0))) rfl hq34 rfl) ?_
 refine lp (.bool (decide ((l_0.length : Int) ≤ x26))) (pu_move rfl) ?_
 rcases bS (decide ((l_0.length : Int) ≤ x26)) with hq36 | hq36
 replace hb := tt hq36 hb
 refine gs rfl rfl (decide ((l_0.length : Int) ≤ x26)) rfl hq36 ?_
 refine gs rfl rfl (decide ((l_0.length : Int) ≤ x26)) rfl hq36 ?_
 refine gs rfl rfl (decide ((l_0.length : Int) ≤ x26)) rfl hq36 ?_
 refine gs rfl rfl (decide ((l_0.length : Int) ≤ x26)) rfl hq36 ?_
 refine lp (.bool true) (pu_pickT (q := (decide ((l_0.length : Int) ≤ x26))) rfl hq36 rfl) ?_
 refine ln ?_
 refine hK33 _ _ ?_
 refine Wc.cond_true (rfl) ?_
 refine Wc.seq fun K37 hK37 => ?_
 refine rg ?_
 refine lp (.bool false) (pu_assign rfl) ?_
 refine ln ?_
 refine hK37 _ _ ?_
 obtain rfl := os hb
 obtain rfl := (lX hl0).symm
 replace hb := hbK0
 obtain rfl := os hb
 refine Wc.ret ?_
 refine hKR _ _ ?_
 refine ⟨_, res1 Try.results50 (show RV _ _ _ (.tmp _) (.bool false) from rfl), _, rfl, rfl, hC.sel [] (by decide)⟩
 replace hb := tf hq36 hb
 refine gp rfl rfl (decide ((l_0.length : Int) ≤ x26)) rfl hq36 (.slice A6 (((List.replicate (l_0.length : Int).toNat false)).length) c7) (pu_move e3) ?_
 refine gp rfl rfl (decide ((l_0.length : Int) ≤ x26)) rfl hq36 (.int .i64 x26) (pu_move rfl) ?_
 obtain ⟨x38, h39, hb⟩ := bd hb
 obtain ⟨ad40, cs41, hA, hc42, hr43⟩ := hC.elo (i := 1) rfl (get_some h39).2
 subst hA
 refine gp rfl rfl (decide ((l_0.length : Int) ≤ x26)) rfl hq36 (.pointer (some (ad40.add (x26.toNat * 1)))) (pu_index (a := x26) Try.underlying55 Try.sizeOf4 rfl rfl (by rw [(hC.ow (i := 1) rfl).sl_len.1]; exact (get_some h39).1)) ?_
 obtain rfl := (show _ = _ from hr43)
 refine gv rfl rfl (decide ((l_0.length : Int) ≤ x26)) rfl hq36 (.bool x38) (ld_one Try.isAgg4 rfl (hc42 0 _ rfl)) ?_
 refine lp (.bool x38) (pu_pickF (q := (decide ((l_0.length : Int) ≤ x26))) rfl hq36 rfl) ?_
 refine ln ?_
 refine hK33 _ _ ?_
 refine Wc.cond (t := x38) (rfl) (fun hq44 => ?_) (fun hq44 => ?_)
 replace hb := tt hq44 hb
 refine Wc.seq fun K45 hK45 => ?_
 refine rg ?_
 refine lp (.bool false) (pu_assign rfl) ?_
 refine ln ?_
 refine hK45 _ _ ?_
 obtain rfl := os hb
 obtain rfl := (lX hl0).symm
 replace hb := hbK0
 obtain rfl := os hb
 refine Wc.ret ?_
 refine hKR _ _ ?_
 refine ⟨_, res1 Try.results50 (show RV _ _ _ (.tmp _) (.bool false) from rfl), _, rfl, rfl, hC.sel [] (by decide)⟩
 replace hb := tf hq44 hb
 refine Wc.skip ?_
 refine hK32 _ _ ?_
 refine Wc.fresh fun E46 hE => ?_
 have e0 := (congrFun hE 0).trans e0
 have e2 := (congrFun hE 2).trans e2
 have e3 := (congrFun hE 3).trans e3
 have e5 : E46 5 = .int .i64 x26 := (congrFun hE 5).trans rfl
 have e9 := (congrFun hE 9).trans e9
 have e10 := (congrFun hE 10).trans e10
 have e11 := (congrFun hE 11).trans e11
 have e12 : E46 12 = .bool (decide (v11_0 < (l_0.length : Int))) := (congrFun hE 12).trans rfl
 have e28 : E46 28 = .bool x38 := (congrFun hE 28).trans rfl
 clear hE
 refine rg ?_
 refine lp (.slice (some ad40) (((List.replicate (l_0.length : Int).toNat false)).length) c7) (pu_move e3) ?_
 refine lp (.int .i64 x26) (pu_move e5) ?_
 obtain ⟨x47, h48, hb⟩ := bd hb
 obtain ⟨ad49, cs50, hA, hc51, hr52⟩ := hC.elo (i := 1) rfl (get_some h48).2
 obtain rfl := Option.some.inj hA
 refine lp (.pointer (some (ad40.add (x26.toNat * 1)))) (pu_index (a := x26) Try.underlying55 Try.sizeOf4 rfl rfl (by rw [(hC.ow (i := 1) rfl).sl_len.1]; exact (get_some h48).1)) ?_
 refine lex.sk (hC.put (i := 1) rfl rfl Try.sizeOf4 (k := x26.toNat) (a := true) (by have := (get_some h48).1; simp at this ⊢; omega) (show Rep _ _ .bool _ _ from rfl) rfl rfl rfl) ?_
 rintro w53 ⟨hC, hF⟩
 refine ln ?_
 refine hK24 _ _ ?_
 refine rg ?_
 obtain ⟨z54, h55, hb⟩ := bd hb
 refine lp (.int .i64 z54) (pu_addc (a := v11_0) (b := 1) e11 rfl h55) ?_
 refine lp (.int .i64 z54) (pu_move rfl) ?_
 refine ln ?_
 obtain rfl := os hb
 exact hK16 m17' _ _ (Nat.lt_succ_self _) ⟨z54, (qf11_0.set x26.toNat true), e0, e2, e3, e9, e10, rfl, (chk_rng h55), hC.sel [0, 1] (by decide), lN hl0⟩
 replace hb := tf hq23 hb
 refine Wc.exit rfl ?_
 obtain rfl := os hb
 obtain rfl := (lX hl0).symm
 exact hK15 _ _ ⟨v11_0, qf11_0, e2, hrv11_0, hC.sel [] (by decide), hbK0⟩
 clear hb hC hl0
 rintro E57 w56 ⟨v11_0, qf11_0, e2, hrv11_0, hC, hb⟩
 refine hK12 _ _ ?_
 refine Wc.seq fun K58 hK58 => ?_
 refine rg ?_
 refine lp (.bool true) (pu_assign rfl) ?_
 refine ln ?_
 refine hK58 _ _ ?_
 obtain rfl := os hb
 refine Wc.ret ?_
 refine hKR _ _ ?_
 refine ⟨_, res1 Try.results50 (show RV _ _ _ (.tmp _) (.bool true) from rfl), _, rfl, rfl, hC.sel [] (by decide)⟩

set_option maxRecDepth 100000 in
set_option maxHeartbeats 4000000 in
theorem grid_Valid_ok (n : Nat) {w : World} {O0 : List Nat} (hO : ∀ k ∈ O0, k < w.heap.size) {Ag_0_0 : Option Addr} {mg_0_0 cg_0_0 : Nat} {g_0_0 : List Int} (hg_0_0 : Rep O0 w (.sl (.int .i64)) [.slice Ag_0_0 mg_0_0 cg_0_0] g_0_0) {Ag_0_1 : Option Addr} {mg_0_1 cg_0_1 : Nat} {g_0_1 : List Int} (hg_0_1 : Rep O0 w (.sl (.int .i64)) [.slice Ag_0_1 mg_0_1 cg_0_1] g_0_1) {r : Bool} (hb : F.grid_Valid n g_0_0 g_0_1 = some r) :
    Calls Try.prog 26 #[.agg #[.slice Ag_0_0 mg_0_0 cg_0_0, .slice Ag_0_1 mg_0_1 cg_0_1]] w fun e w' => ∃ v, e = .returned v ∧ v = .bool r ∧ Cx (fun _ => False) O0 w w' [] := by
 unfold F.grid_Valid at hb
 have hC := Cx.start hO
 replace hC := hC.arg rfl hg_0_0
 replace hC := hC.arg rfl hg_0_1
 clear hO
 obtain ⟨rfl, hlg_0_0, hcg_0_0⟩ := hg_0_0.sl_len
 obtain ⟨rfl, hlg_0_1, hcg_0_1⟩ := hg_0_1.sl_len
 refine calls_of_Wc Try.func26 rfl (by rw [Try.ntmps26]; exact Nat.le_of_ble_eq_true rfl) fun KR hKR => ?_
 refine Wc.seq fun K3 hK3 => ?_
 refine rg ?_
 refine lex.op (hC.box (cs := [.slice Ag_0_0 g_0_0.length cg_0_0, .slice Ag_0_1 g_0_1.length cg_0_1]) rfl rfl) ?_
 rintro _ w5 ⟨g4, rfl, hC, hF, hG⟩
 clear hG
 refine lp (.bool false) (pu_assign rfl) ?_
 refine ln ?_
 refine hK3 _ _ ?_
 refine Wc.seq fun K7 hK7 => ?_
 refine rg ?_
 refine lp (.pointer (some ((⟨g4, 0, none⟩ : Addr).add 0))) (pu_field (sz := 1) Try.underlying24 rfl Try.sizeOf22 (by decide) rfl rfl) ?_
 refine lv (.slice Ag_0_0 g_0_0.length cg_0_0) (ld_fld (hC.bx (i := 0) rfl) Try.isAgg22 rfl rfl) ?_
 refine lp (.int .i64 (g_0_0.length : Int)) (pu_len (A := Ag_0_0) (n := g_0_0.length) (m := cg_0_0) Try.underlying22 rfl) ?_
 refine lp (.int .i64 (g_0_0.length : Int)) (pu_assign rfl) ?_
 refine ln ?_
 refine hK7 _ _ ?_
 refine Wc.seq fun K8 hK8 => ?_
 refine Wc.seq fun K9 hK9 => ?_
 refine rg ?_
 refine lp (.int .i64 (g_0_0.length : Int)) (pu_move rfl) ?_
 refine lp (.bool (decide ((g_0_0.length : Int) < 2))) (pu_lss (k := .i64) (a := (g_0_0.length : Int)) (b := 2) rfl rfl) ?_
 refine lp (.bool (decide ((g_0_0.length : Int) < 2))) (pu_move rfl) ?_
 rcases bS (decide ((g_0_0.length : Int) < 2)) with hq10 | hq10
 replace hb := tt hq10 hb
 refine gs rfl rfl (decide ((g_0_0.length : Int) < 2)) rfl hq10 ?_
 refine gs rfl rfl (decide ((g_0_0.length : Int) < 2)) rfl hq10 ?_
 refine lp (.bool true) (pu_pickT (q := (decide ((g_0_0.length : Int) < 2))) rfl hq10 rfl) ?_
 refine lp (.bool true) (pu_move rfl) ?_
 refine gs rfl rfl true rfl rfl ?_
 refine gs rfl rfl true rfl rfl ?_
 refine gs rfl rfl true rfl rfl ?_
 refine gs rfl rfl true rfl rfl ?_
 refine gs rfl rfl true rfl rfl ?_
 refine lp (.bool true) (pu_pickT (q := true) rfl rfl rfl) ?_
 refine ln ?_
 refine hK9 _ _ ?_
 refine Wc.cond_true (rfl) ?_
 refine Wc.seq fun K11 hK11 => ?_
 refine rg ?_
 refine lp (.bool false) (pu_assign rfl) ?_
 refine ln ?_
 refine hK11 _ _ ?_
 obtain rfl := os hb
 refine Wc.ret ?_
 refine hKR _ _ ?_
 refine ⟨_, res1 Try.results26 (show RV _ _ _ (.tmp _) (.bool false) from rfl), _, rfl, rfl, hC.sel [] (by decide)⟩
 replace hb := tf hq10 hb
 refine gp rfl rfl (decide ((g_0_0.length : Int) < 2)) rfl hq10 (.int .i64 (g_0_0.length : Int)) (pu_move rfl) ?_
 refine gp rfl rfl (decide ((g_0_0.length : Int) < 2)) rfl hq10 (.bool (decide (40 < (g_0_0.length : Int)))) (pu_gtr (k := .i64) (a := (g_0_0.length : Int)) (b := 40) rfl rfl) ?_
 refine lp (.bool (decide (40 < (g_0_0.length : Int)))) (pu_pickF (q := (decide ((g_0_0.length : Int) < 2))) rfl hq10 rfl) ?_
 refine lp (.bool (decide (40 < (g_0_0.length : Int)))) (pu_move rfl) ?_
 rcases bS (decide (40 < (g_0_0.length : Int))) with hq12 | hq12
 replace hb := tt hq12 hb
 refine gs rfl rfl (decide (40 < (g_0_0.length : Int))) rfl hq12 ?_
 refine gs rfl rfl (decide (40 < (g_0_0.length : Int))) rfl hq12 ?_
 refine gs rfl rfl (decide (40 < (g_0_0.length : Int))) rfl hq12 ?_
 refine gs rfl rfl (decide (40 < (g_0_0.length : Int))) rfl hq12 ?_
 refine gs rfl rfl (decide (40 < (g_0_0.length : Int))) rfl hq12 ?_
 refine lp (.bool true) (pu_pickT (q := (decide (40 < (g_0_0.length : Int)))) rfl hq12 rfl) ?_
 refine ln ?_
 refine hK9 _ _ ?_
 refine Wc.cond_true (rfl) ?_
 refine Wc.seq fun K13 hK13 => ?_
 refine rg ?_
 refine lp (.bool false) (pu_assign rfl) ?_
 refine ln ?_
 refine hK13 _ _ ?_
 obtain rfl := os hb
 refine Wc.ret ?_
 refine hKR _ _ ?_
 refine ⟨_, res1 Try.results26 (show RV _ _ _ (.tmp _) (.bool false) from rfl), _, rfl, rfl, hC.sel [] (by decide)⟩
 replace hb := tf hq12 hb
 refine gp rfl rfl (decide (40 < (g_0_0.length : Int))) rfl hq12 (.pointer (some ((⟨g4, 0, none⟩ : Addr).add 1))) (pu_field (sz := 1) Try.underlying24 rfl Try.sizeOf22 (by decide) rfl rfl) ?_
 refine gv rfl rfl (decide (40 < (g_0_0.length : Int))) rfl hq12 (.slice Ag_0_1 g_0_1.length cg_0_1) (ld_fld (hC.bx (i := 0) rfl) Try.isAgg22 rfl rfl) ?_
 refine gp rfl rfl (decide (40 < (g_0_0.length : Int))) rfl hq12 (.int .i64 (g_0_1.length : Int)) (pu_len (A := Ag_0_1) (n := g_0_1.length) (m := cg_0_1) Try.underlying22 rfl) ?_
 refine gp rfl rfl (decide (40 < (g_0_0.length : Int))) rfl hq12 (.int .i64 (g_0_0.length : Int)) (pu_move rfl) ?_
 refine gp rfl rfl (decide (40 < (g_0_0.length : Int))) rfl hq12 (.bool (!(decide ((g_0_1.length : Int) = (g_0_0.length : Int))))) (pu_neq (k := .i64) (a := (g_0_1.length : Int)) (b := (g_0_0.length : Int)) rfl rfl) ?_
 refine lp (.bool (!(decide ((g_0_1.length : Int) = (g_0_0.length : Int))))) (pu_pickF (q := (decide (40 < (g_0_0.length : Int)))) rfl hq12 rfl) ?_
 refine ln ?_
 refine hK9 _ _ ?_
 refine Wc.cond (t := (!(decide ((g_0_1.length : Int) = (g_0_0.length : Int))))) (rfl) (fun hq14 => ?_) (fun hq14 => ?_)
 replace hb := tt hq14 hb
 refine Wc.seq fun K15 hK15 => ?_
 refine rg ?_
 refine lp (.bool false) (pu_assign rfl) ?_
 refine ln ?_
 refine hK15 _ _ ?_
 obtain rfl := os hb
 refine Wc.ret ?_
 refine hKR _ _ ?_
 refine ⟨_, res1 Try.results26 (show RV _ _ _ (.tmp _) (.bool false) from rfl), _, rfl, rfl, hC.sel [] (by decide)⟩
 replace hb := tf hq14 hb
 refine Wc.skip ?_
 refine hK8 _ _ ?_
 refine Wc.fresh fun E16 hE => ?_
 have e1 : E16 1 = .pointer (some ⟨g4, 0, none⟩) := (congrFun hE 1).trans rfl
 have e2 : E16 2 = .bool false := (congrFun hE 2).trans rfl
 have e3 : E16 3 = .int .i64 (g_0_0.length : Int) := (congrFun hE 3).trans rfl
 clear hE
 refine Wc.seq fun K17 hK17 => ?_
 refine Wc.seq fun K18 hK18 => ?_
 refine rg ?_
 refine lp (.int .i64 (g_0_0.length : Int)) (pu_move e3) ?_
 refine lp (.int .i64 0) (pu_move rfl) ?_
 refine ln ?_
 refine hK18 _ _ ?_
 obtain ⟨o19, hl0, hb⟩ := bd hb
 refine Wc.cut (fun E wv => ∃ (v22_0 : Int), E 1 = .pointer (some ⟨g4, 0, none⟩) ∧ E 2 = .bool false ∧ I64 v22_0 ∧ Cx (fun _ => False) O0 w wv [.box g4 24 [.slice Ag_0_0 g_0_0.length cg_0_0, .slice Ag_0_1 g_0_1.length cg_0_1], .ro (.sl (.int .i64)) [.slice Ag_0_0 g_0_0.length cg_0_0] g_0_0, .ro (.sl (.int .i64)) [.slice Ag_0_1 g_0_1.length cg_0_1] g_0_1] ∧ ((F.grid_permutation n g_0_0).bind fun y55 => cond y55 ((F.grid_permutation n g_0_1).bind fun y59 => some y59) (some false) : Option (Bool)) = some r) (fun K20 hK20 => ?_) ?_
 refine Wc.block ?_
 refine Wc.loop (fun m E wv => ∃ (v22_0 : Int), E 1 = .pointer (some ⟨g4, 0, none⟩) ∧ E 2 = .bool false ∧ E 21 = .int .i64 (g_0_0.length : Int) ∧ E 22 = .int .i64 v22_0 ∧ I64 v22_0 ∧ Cx (fun _ => False) O0 w wv [.box g4 24 [.slice Ag_0_0 g_0_0.length cg_0_0, .slice Ag_0_1 g_0_1.length cg_0_1], .ro (.sl (.int .i64)) [.slice Ag_0_0 g_0_0.length cg_0_0] g_0_0, .ro (.sl (.int .i64)) [.slice Ag_0_1 g_0_1.length cg_0_1] g_0_1] ∧ loopN m (F.grid_Valid_b0 n g_0_0 g_0_1) v22_0 = some o19) n ⟨0, e1, e2, rfl, rfl, (show I64 0 from by unfold I64; omega), hC.sel [0, 2, 1] (by decide), hl0⟩ ?_
 have hbK0 := hb
 clear hb hC hl0
 rintro m22 E24 w23 ⟨v22_0, e1, e2, e21, e22, hrv22_0, hC, hl0⟩ K21 hK21
 obtain ⟨m22', o25, rfl, hb, hl0⟩ := loopN_some hl0
 unfold F.grid_Valid_b0 at hb
 refine Wc.seq fun K26 hK26 => ?_
 refine rg ?_
 refine lp (.bool (decide (v22_0 < (g_0_0.length : Int)))) (pu_lss (k := .i64) (a := v22_0) (b := (g_0_0.length : Int)) e22 e21) ?_
 refine ln ?_
 refine hK26 _ _ ?_
 refine Wc.seq fun K27 hK27 => ?_
 refine Wc.cond (t := (decide (v22_0 < (g_0_0.length : Int)))) (rfl) (fun hq28 => ?_) (fun hq28 => ?_)
 replace hb := tt hq28 hb
 refine Wc.skip ?_
 refine hK27 _ _ ?_
 refine Wc.seq fun K29 hK29 => ?_
 refine Wc.block ?_
 refine Wc.seq fun K30 hK30 => ?_
 refine rg ?_
 refine lp (.int .i64 v22_0) (pu_move e22) ?_
 refine lp (.int .i64 v22_0) (pu_assign rfl) ?_
 refine ln ?_
 refine hK30 _ _ ?_
 refine Wc.seq fun K31 hK31 => ?_
 refine Wc.regionMix [] (frm [] ([] : List Fact) ([] : List Fact)) (fun _ => rfl) mixed (by decide +kernel) (by decide +kernel) fun w33 hw32 => ?_
 replace hC := hC.step (Fr.of_drew hw32)
 have hM := Fr.refl (fun k => k ∈ blocks ([] : List Fact)) w33
 clear hw32
 have hS := hC
 refine mp (.pointer (some ((⟨g4, 0, none⟩ : Addr).add 0))) (pu_field (sz := 1) Try.underlying24 rfl Try.sizeOf22 (by decide) rfl e1) ?_
 refine mixE.load hM (v := .slice Ag_0_0 g_0_0.length cg_0_0) (fun _ hF => ld_fld (hS.bx2 (i := 0) rfl [] (by decide) hF) Try.isAgg22 rfl rfl) ?_
 refine mp (.int .i64 v22_0) (pu_move rfl) ?_
 obtain ⟨x34, h35, hb⟩ := bd hb
 obtain ⟨ad36, cs37, hA, ho40, hc38, hr39⟩ := hS.elr2 (i := 1) rfl (get_some h35).2 []
 subst hA
 refine mp (.pointer (some (ad36.add (v22_0.toNat * 1)))) (pu_index (a := v22_0) Try.underlying22 Try.sizeOf3 rfl rfl (get_some h35).1) ?_
 obtain ⟨rfl, hr39'⟩ := hr39
 refine mixE.load hM (v := .int .i64 x34) (fun _ hF => ld_one Try.isAgg3 rfl (hF.cell (hc38 0 _ rfl) (off1 ho40))) ?_
 refine mp (.pointer (some ((⟨g4, 0, none⟩ : Addr).add 1))) (pu_field (sz := 1) Try.underlying24 rfl Try.sizeOf22 (by decide) rfl e1) ?_
 refine mixE.load hM (v := .slice Ag_0_1 g_0_1.length cg_0_1) (fun _ hF => ld_fld (hS.bx2 (i := 0) rfl [] (by decide) hF) Try.isAgg22 rfl rfl) ?_
 refine mp (.int .i64 v22_0) (pu_move rfl) ?_
 obtain ⟨x41, h42, hb⟩ := bd hb
 obtain ⟨ad43, cs44, hA, ho47, hc45, hr46⟩ := hS.elr2 (i := 2) rfl (get_some h42).2 []
 subst hA
 refine mp (.pointer (some (ad43.add (v22_0.toNat * 1)))) (pu_index (a := v22_0) Try.underlying22 Try.sizeOf3 rfl rfl (get_some h42).1) ?_
 obtain ⟨rfl, hr46'⟩ := hr46
 refine mixE.load hM (v := .int .i64 x41) (fun _ hF => ld_one Try.isAgg3 rfl (hF.cell (hc45 0 _ rfl) (off1 ho47))) ?_
 refine mp (.bool (decide (x34 = x41))) (pu_eql (k := .i64) (a := x34) (b := x41) rfl rfl) ?_
 refine mixE.nil ?_
 clear hS hM
 refine hK31 _ _ ?_
 refine Wc.cond (t := (decide (x34 = x41))) (rfl) (fun hq48 => ?_) (fun hq48 => ?_)
 replace hb := tt hq48 hb
 refine Wc.seq fun K49 hK49 => ?_
 refine rg ?_
 refine lp (.bool false) (pu_assign rfl) ?_
 refine ln ?_
 refine hK49 _ _ ?_
 obtain rfl := os hb
 obtain rfl := (lX hl0).symm
 replace hb := hbK0
 obtain rfl := os hb
 refine Wc.ret ?_
 refine hKR _ _ ?_
 refine ⟨_, res1 Try.results26 (show RV _ _ _ (.tmp _) (.bool false) from rfl), _, rfl, rfl, hC.sel [] (by decide)⟩
 replace hb := tf hq48 hb
 refine Wc.skip ?_
 refine hK29 _ _ ?_
 refine rg ?_
 obtain ⟨z50, h51, hb⟩ := bd hb
 refine lp (.int .i64 z50) (pu_addc (a := v22_0) (b := 1) e22 rfl h51) ?_
 refine lp (.int .i64 z50) (pu_move rfl) ?_
 refine ln ?_
 obtain rfl := os hb
 exact hK21 m22' _ _ (Nat.lt_succ_self _) ⟨z50, e1, e2, e21, rfl, (chk_rng h51), hC.sel [0, 1, 2] (by decide), lN hl0⟩
 replace hb := tf hq28 hb
 refine Wc.exit rfl ?_
 obtain rfl := os hb
 obtain rfl := (lX hl0).symm
 exact hK20 _ _ ⟨v22_0, e1, e2, hrv22_0, hC.sel [0, 1, 2] (by decide), hbK0⟩
 clear hb hC hl0
 rintro E53 w52 ⟨v22_0, e1, e2, hrv22_0, hC, hb⟩
 refine hK17 _ _ ?_
 refine Wc.seq fun K54 hK54 => ?_
 refine rg ?_
 refine lp (.pointer (some ((⟨g4, 0, none⟩ : Addr).add 0))) (pu_field (sz := 1) Try.underlying24 rfl Try.sizeOf22 (by decide) rfl e1) ?_
 refine lv (.slice Ag_0_0 g_0_0.length cg_0_0) (ld_fld (hC.bx (i := 0) rfl) Try.isAgg22 rfl rfl) ?_
 obtain ⟨y55, h56, hb⟩ := bd hb
 refine lex.cl (⟨_, _, op_call (vs := [.slice Ag_0_0 g_0_0.length cg_0_0]) Try.call50 rfl rfl rfl, grid_permutation_ok n hC.lt (hC.rd (i := 1) rfl) h56⟩) ?_
 rintro _ w57 ⟨rfl, hK⟩
 replace hC := hC.merge hK
 clear hK
 refine lp (.bool y55) (pu_move rfl) ?_
 rcases bS y55 with hq58 | hq58
 replace hb := tt hq58 hb
 refine gp rfl rfl y55 rfl hq58 (.pointer (some ((⟨g4, 0, none⟩ : Addr).add 1))) (pu_field (sz := 1) Try.underlying24 rfl Try.sizeOf22 (by decide) rfl e1) ?_
 refine gv rfl rfl y55 rfl hq58 (.slice Ag_0_1 g_0_1.length cg_0_1) (ld_fld (hC.bx (i := 0) rfl) Try.isAgg22 rfl rfl) ?_
 obtain ⟨y59, h60, hb⟩ := bd hb
 refine lex.gcl (want_t rfl rfl (show _ = Value.bool y55 from rfl) hq58) (⟨_, _, op_call (vs := [.slice Ag_0_1 g_0_1.length cg_0_1]) Try.call50 rfl rfl rfl, grid_permutation_ok n hC.lt (hC.rd (i := 2) rfl) h60⟩) ?_
 rintro _ w61 ⟨rfl, hK⟩
 replace hC := hC.merge hK
 clear hK
 refine lp (.bool y59) (pu_pickT (q := y55) rfl hq58 rfl) ?_
 refine lp (.bool y59) (pu_assign rfl) ?_
 refine ln ?_
 refine hK54 _ _ ?_
 obtain rfl := os hb
 refine Wc.ret ?_
 refine hKR _ _ ?_
 refine ⟨_, res1 Try.results26 (show RV _ _ _ (.tmp _) (.bool y59) from rfl), _, rfl, rfl, hC.sel [] (by decide)⟩
 replace hb := tf hq58 hb
 refine gs rfl rfl y55 rfl hq58 ?_
 refine gs rfl rfl y55 rfl hq58 ?_
 refine gs rfl rfl y55 rfl hq58 ?_
 refine lp (.bool false) (pu_pickF (q := y55) rfl hq58 rfl) ?_
 refine lp (.bool false) (pu_assign rfl) ?_
 refine ln ?_
 refine hK54 _ _ ?_
 obtain rfl := os hb
 refine Wc.ret ?_
 refine hKR _ _ ?_
 refine ⟨_, res1 Try.results26 (show RV _ _ _ (.tmp _) (.bool false) from rfl), _, rfl, rfl, hC.sel [] (by decide)⟩

set_option maxRecDepth 100000 in
set_option maxHeartbeats 4000000 in
theorem grid_columns_ok (n : Nat) {w : World} {O0 : List Nat} (hO : ∀ k ∈ O0, k < w.heap.size) {Arows_0 : Option Addr} {mrows_0 crows_0 : Nat} {rows_0 : List Int} (hrows_0 : Rep O0 w (.sl (.int .i64)) [.slice Arows_0 mrows_0 crows_0] rows_0) {r : (List Int)} (hb : F.grid_columns n rows_0 = some r) :
    Calls Try.prog 51 #[.slice Arows_0 mrows_0 crows_0] w fun e w' => ∃ v, e = .returned v ∧ ∃ (A0 : Option Addr) (m0 c0 : Nat) (gr0_0 : Nat), v = .func (.func 73) #[] #[.pointer (some ⟨gr0_0, 0, none⟩)] ∧ Cx (fun _ => False) O0 w w' [.own 3 (.int .i64) (.slice A0 m0 c0) r, .box gr0_0 22 [.slice A0 m0 c0]] := by
 unfold F.grid_columns at hb
 have hC := Cx.start hO
 replace hC := hC.arg rfl hrows_0
 clear hO
 obtain ⟨rfl, hlrows_0, hcrows_0⟩ := hrows_0.sl_len
 refine calls_of_Wc Try.func51 rfl (by rw [Try.ntmps51]; exact Nat.le_of_ble_eq_true rfl) fun KR hKR => ?_
 refine Wc.seq fun K2 hK2 => ?_
 refine rg ?_
 refine lp (.nilFunc) (pu_assign rfl) ?_
 refine ln ?_
 refine hK2 _ _ ?_
 refine Wc.seq fun K3 hK3 => ?_
 refine rg ?_
 refine lp (.slice Arows_0 rows_0.length crows_0) (pu_move rfl) ?_
 refine lp (.int .i64 (rows_0.length : Int)) (pu_len (A := Arows_0) (n := rows_0.length) (m := crows_0) Try.underlying22 rfl) ?_
 obtain ⟨u4, h5, hb⟩ := bd hb
 refine lex.op (hC.make (s := (.int .i64)) (n := (rows_0.length : Int)) Try.underlying22 Try.type3 rfl rfl rfl rfl rfl (pos_some h5).1 (pos_some h5).2 (by decide)) ?_
 rintro _ w10 ⟨A6, c7, rfl, hl8, hc9, hC, hF, hN⟩
 clear hF hN
 refine lex.op (hC.alloc (cs := [.slice none 0 0]) Try.zeroValue22 rfl) ?_
 rintro _ w13 ⟨g12, rfl, hC, hF, hG⟩
 clear hG
 refine lex.sk (hC.setf (i := 0) (k := 0) (v := .slice A6 (((List.replicate (rows_0.length : Int).toNat (0 : Int))).length) c7) rfl Try.sizeOf22 rfl (by rw [Addr.add_zero']; exact rfl) rfl rfl) ?_
 rintro w15 ⟨hC, hF⟩
 refine ln ?_
 refine hK3 _ _ ?_
 refine Wc.seq fun K16 hK16 => ?_
 refine Wc.seq fun K17 hK17 => ?_
 refine rg ?_
 refine lp (.slice Arows_0 rows_0.length crows_0) (pu_move rfl) ?_
 refine lp (.int .i64 (rows_0.length : Int)) (pu_len (A := Arows_0) (n := rows_0.length) (m := crows_0) Try.underlying22 rfl) ?_
 refine lp (.int .i64 0) (pu_move rfl) ?_
 refine ln ?_
 refine hK17 _ _ ?_
 obtain ⟨o18, hl0, hb⟩ := bd hb
 refine Wc.cut (fun E wv => ∃ (v11_0 : Int) (qf11_0 : List Int), E 2 = .nilFunc ∧ E 3 = .pointer (some ⟨g12, 0, none⟩) ∧ I64 v11_0 ∧ Cx (fun _ => False) O0 w wv [.box g12 22 [.slice A6 (((List.replicate (rows_0.length : Int).toNat (0 : Int))).length) c7], .own 3 (.int .i64) (.slice A6 (((List.replicate (rows_0.length : Int).toNat (0 : Int))).length) c7) qf11_0] ∧ (some qf11_0 : Option ((List Int))) = some r) (fun K19 hK19 => ?_) ?_
 refine Wc.block ?_
 refine Wc.loop (fun m E wv => ∃ (v11_0 : Int) (qf11_0 : List Int), E 2 = .nilFunc ∧ E 3 = .pointer (some ⟨g12, 0, none⟩) ∧ E 9 = .slice Arows_0 rows_0.length crows_0 ∧ E 10 = .int .i64 (rows_0.length : Int) ∧ E 11 = .int .i64 v11_0 ∧ I64 v11_0 ∧ Cx (fun _ => False) O0 w wv [.box g12 22 [.slice A6 (((List.replicate (rows_0.length : Int).toNat (0 : Int))).length) c7], .own 3 (.int .i64) (.slice A6 (((List.replicate (rows_0.length : Int).toNat (0 : Int))).length) c7) qf11_0, .ro (.sl (.int .i64)) [.slice Arows_0 rows_0.length crows_0] rows_0] ∧ loopN m (F.grid_columns_b0 n rows_0) (v11_0, qf11_0) = some o18) n ⟨0, (List.replicate (rows_0.length : Int).toNat (0 : Int)), rfl, rfl, rfl, rfl, rfl, (show I64 0 from by unfold I64; omega), hC.sel [0, 1, 2] (by decide), hl0⟩ ?_
 have hbK0 := hb
 clear hb hC hl0
 rintro m21 E23 w22 ⟨v11_0, qf11_0, e2, e3, e9, e10, e11, hrv11_0, hC, hl0⟩ K20 hK20
 obtain ⟨m21', o24, rfl, hb, hl0⟩ := loopN_some hl0
 unfold F.grid_columns_b0 at hb
 refine Wc.seq fun K25 hK25 => ?_
 refine rg ?_
 refine lp (.bool (decide (v11_0 < (rows_0.length : Int)))) (pu_lss (k := .i64) (a := v11_0) (b := (rows_0.length : Int)) e11 e10) ?_
 refine ln ?_
 refine hK25 _ _ ?_
 refine Wc.seq fun K26 hK26 => ?_
 refine Wc.cond (t := (decide (v11_0 < (rows_0.length : Int)))) (rfl) (fun hq27 => ?_) (fun hq27 => ?_)
 replace hb := tt hq27 hb
 refine Wc.skip ?_
 refine hK26 _ _ ?_
 refine Wc.seq fun K28 hK28 => ?_
 refine Wc.block ?_
 refine Wc.seq fun K29 hK29 => ?_
 refine rg ?_
 refine lp (.int .i64 v11_0) (pu_move e11) ?_
 obtain ⟨x30, h31, hb⟩ := bd hb
 obtain ⟨ad32, cs33, hA, hc34, hr35⟩ := hC.elr (i := 2) rfl (get_some h31).2
 subst hA
 refine lp (.pointer (some (ad32.add (v11_0.toNat * 1)))) (pu_index (a := v11_0) Try.underlying22 Try.sizeOf3 e9 e11 (get_some h31).1) ?_
 obtain ⟨rfl, hr35'⟩ := hr35
 refine lv (.int .i64 x30) (ld_one Try.isAgg3 rfl (hc34 0 _ rfl)) ?_
 refine lp (.int .i64 v11_0) (pu_assign rfl) ?_
 refine lp (.int .i64 x30) (pu_assign rfl) ?_
 refine ln ?_
 refine hK29 _ _ ?_
 refine rg ?_
 refine lv (.slice A6 (((List.replicate (rows_0.length : Int).toNat (0 : Int))).length) c7) (ld_one Try.isAgg22 e3 ((hC.bx (i := 0) rfl).cell (j := 0) rfl)) ?_
 refine lp (.int .i64 x30) (pu_move rfl) ?_
 refine lp (.int .i64 v11_0) (pu_move rfl) ?_
 obtain ⟨x36, h37, hb⟩ := bd hb
 obtain ⟨ad38, cs39, hA, hc40, hr41⟩ := hC.elo (i := 1) rfl (get_some h37).2
 subst hA
 refine lp (.pointer (some (ad38.add (x30.toNat * 1)))) (pu_index (a := x30) Try.underlying22 Try.sizeOf3 rfl rfl (by rw [(hC.ow (i := 1) rfl).sl_len.1]; exact (get_some h37).1)) ?_
 refine lex.sk (hC.put (i := 1) rfl rfl Try.sizeOf3 (k := x30.toNat) (a := v11_0) (by have := (get_some h37).1; simp at this ⊢; omega) (⟨rfl, I64.wr hrv11_0⟩) rfl rfl rfl) ?_
 rintro w42 ⟨hC, hF⟩
 refine ln ?_
 refine hK28 _ _ ?_
 refine rg ?_
 obtain ⟨z43, h44, hb⟩ := bd hb
 refine lp (.int .i64 z43) (pu_addc (a := v11_0) (b := 1) e11 rfl h44) ?_
 refine lp (.int .i64 z43) (pu_move rfl) ?_
 refine ln ?_
 obtain rfl := os hb
 exact hK20 m21' _ _ (Nat.lt_succ_self _) ⟨z43, (qf11_0.set x30.toNat v11_0), e2, e3, e9, e10, rfl, (chk_rng h44), hC.sel [0, 1, 2] (by decide), lN hl0⟩
 replace hb := tf hq27 hb
 refine Wc.exit rfl ?_
 obtain rfl := os hb
 obtain rfl := (lX hl0).symm
 exact hK19 _ _ ⟨v11_0, qf11_0, e2, e3, hrv11_0, hC.sel [0, 1] (by decide), hbK0⟩
 clear hb hC hl0
 rintro E46 w45 ⟨v11_0, qf11_0, e2, e3, hrv11_0, hC, hb⟩
 refine hK16 _ _ ?_
 refine Wc.seq fun K47 hK47 => ?_
 refine rg ?_
 refine lp (.func (.func 73) #[] #[.pointer (some ⟨g12, 0, none⟩)]) (pu_funcc (map_of (m2_cons e3 m2_nil))) ?_
 refine lp (.func (.func 73) #[] #[.pointer (some ⟨g12, 0, none⟩)]) (pu_assign rfl) ?_
 refine ln ?_
 refine hK47 _ _ ?_
 obtain rfl := os hb
 refine Wc.ret ?_
 refine hKR _ _ ?_
 refine ⟨_, res1 Try.results51 (show RV _ _ _ (.tmp _) (.func (.func 73) #[] #[.pointer (some ⟨g12, 0, none⟩)]) from rfl), _, rfl, A6, ((List.replicate (rows_0.length : Int).toNat (0 : Int))).length, c7, g12, rfl, hC.sel [1, 0] (by decide)⟩

set_option maxRecDepth 100000 in
set_option maxHeartbeats 4000000 in
theorem grid_columns_c1_ok (n : Nat) {w : World} {O0 : List Nat} (hO : ∀ k ∈ O0, k < w.heap.size) {row_0 : Int} (hrow_0 : I64 row_0) {gu_1 : Nat} {Au_1_0 : Option Addr} {mu_1_0 cu_1_0 : Nat} {u_1_0 : List Int} (hu_1_0 : Rep O0 w (.sl (.int .i64)) [.slice Au_1_0 mu_1_0 cu_1_0] u_1_0) (hio : Tk O0 w [.box gu_1 22 [.slice Au_1_0 mu_1_0 cu_1_0]]) {r : Int} (hb : F.grid_columns_c1 n row_0 u_1_0 = some r) :
    Calls Try.prog 73 #[.int .i64 row_0, .pointer (some ⟨gu_1, 0, none⟩)] w fun e w' => ∃ v, e = .returned v ∧ v = .int .i64 r ∧ I64 r ∧ Cx (fun k => k ∈ blocks [.box gu_1 22 [.slice Au_1_0 mu_1_0 cu_1_0]]) O0 w w' [.box gu_1 22 [.slice Au_1_0 mu_1_0 cu_1_0]] := by
 unfold F.grid_columns_c1 at hb
 have hC := Cx.startTk hO hio
 have hsub := hio.2.2
 replace hC := hC.argTk (by first | exact hsub | exact fun k hk => hsub k (by simpa [blocks, Fact.blk] using hk)) hu_1_0
 clear hO
 obtain ⟨rfl, hlu_1_0, hcu_1_0⟩ := hu_1_0.sl_len
 clear hio hsub
 obtain ⟨I, hI, hC⟩ : ∃ I : Nat → Prop, I = (fun k => k ∈ blocks [.box gu_1 22 [.slice Au_1_0 u_1_0.length cu_1_0]]) ∧ Cx I O0 w w ([.ro (.sl (.int .i64)) [.slice Au_1_0 u_1_0.length cu_1_0] u_1_0, .box gu_1 22 [.slice Au_1_0 u_1_0.length cu_1_0]]) := ⟨_, rfl, hC⟩
 refine calls_of_Wc Try.func73 rfl (by rw [Try.ntmps73]; exact Nat.le_of_ble_eq_true rfl) fun KR hKR => ?_
 refine Wc.seq fun K3 hK3 => ?_
 refine rg ?_
 refine lp (.int .i64 0) (pu_assign rfl) ?_
 refine ln ?_
 refine hK3 _ _ ?_
 refine Wc.seq fun K4 hK4 => ?_
 refine rg ?_
 refine lv (.slice Au_1_0 u_1_0.length cu_1_0) (ld_one Try.isAgg22 rfl ((hC.bx (i := 1) rfl).cell (j := 0) rfl)) ?_
 refine lp (.int .i64 row_0) (pu_move rfl) ?_
 obtain ⟨x5, h6, hb⟩ := bd hb
 obtain ⟨ad7, cs8, hA, hc9, hr10⟩ := hC.elr (i := 0) rfl (get_some h6).2
 subst hA
 refine lp (.pointer (some (ad7.add (row_0.toNat * 1)))) (pu_index (a := row_0) Try.underlying22 Try.sizeOf3 rfl rfl (get_some h6).1) ?_
 obtain ⟨rfl, hr10'⟩ := hr10
 refine lv (.int .i64 x5) (ld_one Try.isAgg3 rfl (hc9 0 _ rfl)) ?_
 refine lp (.int .i64 x5) (pu_assign rfl) ?_
 refine ln ?_
 refine hK4 _ _ ?_
 obtain rfl := os hb
 subst hI
 refine Wc.ret ?_
 refine hKR _ _ ?_
 refine ⟨_, res1 Try.results73 (show RV _ _ _ (.tmp _) (.int .i64 x5) from rfl), _, rfl, rfl, (wrap_I64 hr10'), hC.sel [1] (by decide)⟩

set_option maxRecDepth 100000 in
set_option maxHeartbeats 4000000 in
theorem grid_Crossings_ok (n : Nat) {w : World} {O0 : List Nat} (hO : ∀ k ∈ O0, k < w.heap.size) {Ag_0_0 : Option Addr} {mg_0_0 cg_0_0 : Nat} {g_0_0 : List Int} (hg_0_0 : Rep O0 w (.sl (.int .i64)) [.slice Ag_0_0 mg_0_0 cg_0_0] g_0_0) {Ag_0_1 : Option Addr} {mg_0_1 cg_0_1 : Nat} {g_0_1 : List Int} (hg_0_1 : Rep O0 w (.sl (.int .i64)) [.slice Ag_0_1 mg_0_1 cg_0_1] g_0_1) {r : (List (Int × Int))} (hb : F.grid_Crossings n g_0_0 g_0_1 = some r) :
    Calls Try.prog 27 #[.agg #[.slice Ag_0_0 mg_0_0 cg_0_0, .slice Ag_0_1 mg_0_1 cg_0_1]] w fun e w' => ∃ v, e = .returned v ∧ ∃ (A0 : Option Addr) (m0 c0 : Nat), v = .slice A0 m0 c0 ∧ Cx (fun _ => False) O0 w w' [.own 67 (.pr (.int .i64) (.int .i64)) (.slice A0 m0 c0) r] := by
 unfold F.grid_Crossings at hb
 have hC := Cx.start hO
 replace hC := hC.arg rfl hg_0_0
 replace hC := hC.arg rfl hg_0_1
 clear hO
 obtain ⟨rfl, hlg_0_0, hcg_0_0⟩ := hg_0_0.sl_len
 obtain ⟨rfl, hlg_0_1, hcg_0_1⟩ := hg_0_1.sl_len
 refine calls_of_Wc Try.func27 rfl (by rw [Try.ntmps27]; exact Nat.le_of_ble_eq_true rfl) fun KR hKR => ?_
 refine Wc.seq fun K3 hK3 => ?_
 refine rg ?_
 refine lex.op (hC.box (cs := [.slice Ag_0_0 g_0_0.length cg_0_0, .slice Ag_0_1 g_0_1.length cg_0_1]) rfl rfl) ?_
 rintro _ w5 ⟨g4, rfl, hC, hF, hG⟩
 clear hG
 refine lp (.slice none 0 0) (pu_assign rfl) ?_
 refine ln ?_
 refine hK3 _ _ ?_
 refine Wc.seq fun K7 hK7 => ?_
 refine Wc.seq fun K8 hK8 => ?_
 refine rg ?_
 refine lv (.agg #[.slice Ag_0_0 g_0_0.length cg_0_0, .slice Ag_0_1 g_0_1.length cg_0_1]) (ld_blk (hC.bx (i := 0) rfl) Try.isAgg24 Try.sizeOf24 rfl) ?_
 obtain ⟨y9, h10, hb⟩ := bd hb
 refine lex.cl (⟨_, _, op_call (vs := [.agg #[.slice Ag_0_0 g_0_0.length cg_0_0, .slice Ag_0_1 g_0_1.length cg_0_1]]) Try.call26 rfl rfl rfl, grid_Valid_ok n hC.lt (hC.rd (i := 2) rfl) (hC.rd (i := 1) rfl) h10⟩) ?_
 rintro _ w11 ⟨rfl, hK⟩
 replace hC := hC.merge hK
 clear hK
 refine lp (.bool (!y9)) (pu_not (q := y9) rfl) ?_
 refine ln ?_
 refine hK8 _ _ ?_
 refine Wc.cond (t := (!y9)) (rfl) (fun hq12 => ?_) (fun hq12 => ?_)
 replace hb := tt hq12 hb
 refine Wc.seq fun K13 hK13 => ?_
 refine rg ?_
 refine lp (.slice none 0 0) (pu_assign rfl) ?_
 refine ln ?_
 refine hK13 _ _ ?_
 replace hC := hC.nil 67 (.pr (.int .i64) (.int .i64))
 obtain rfl := os hb
 refine Wc.ret ?_
 refine hKR _ _ ?_
 refine ⟨_, res1 Try.results27 (show RV _ _ _ (.tmp _) (.slice none 0 0) from rfl), _, rfl, none, 0, 0, rfl, hC.sel [0] (by decide)⟩
 replace hb := tf hq12 hb
 refine Wc.skip ?_
 refine hK7 _ _ ?_
 refine Wc.seq fun K15 hK15 => ?_
 refine Wc.regionMix [] (frm [] ([] : List Fact) ([] : List Fact)) (fun _ => rfl) mixed (by decide +kernel) (by decide +kernel) fun w17 hw16 => ?_
 replace hC := hC.step (Fr.of_drew hw16)
 have hM := Fr.refl (fun k => k ∈ blocks ([] : List Fact)) w17
 clear hw16
 have hS := hC
 refine mp (.pointer (some ((⟨g4, 0, none⟩ : Addr).add 0))) (pu_field (sz := 1) Try.underlying24 rfl Try.sizeOf22 (by decide) rfl rfl) ?_
 refine mixE.load hM (v := .slice Ag_0_0 g_0_0.length cg_0_0) (fun _ hF => ld_fld (hS.bx2 (i := 0) rfl [] (by decide) hF) Try.isAgg22 rfl rfl) ?_
 obtain ⟨y18, h19, hb⟩ := bd hb
 refine mixE.cl hM (⟨_, _, op_call (vs := [.slice Ag_0_0 g_0_0.length cg_0_0]) Try.call51 rfl rfl rfl, grid_columns_ok n hC.lt (hC.rd (i := 2) rfl) h19⟩) ?_
 rintro _ w26 ⟨A20, m21, c22, gr24, rfl, hK⟩
 have hBf23 := Beside.cl (i := 0) hM hK rfl
 replace hM := hM.none hK.fr
 refine ⟨hM, ?_⟩
 replace hC := hC.merge hK
 clear hK
 obtain ⟨rfl, hl27, hc28⟩ := (hC.ow (i := 0) rfl).sl_len
 refine mp (.pointer (some ((⟨g4, 0, none⟩ : Addr).add 1))) (pu_field (sz := 1) Try.underlying24 rfl Try.sizeOf22 (by decide) rfl rfl) ?_
 refine mixE.load hM (v := .slice Ag_0_1 g_0_1.length cg_0_1) (fun _ hF => ld_fld (hS.bx2 (i := 0) rfl [] (by decide) hF) Try.isAgg22 rfl rfl) ?_
 obtain ⟨y29, h30, hb⟩ := bd hb
 refine mixE.cl hM (⟨_, _, op_call (vs := [.slice Ag_0_1 g_0_1.length cg_0_1]) Try.call51 rfl rfl rfl, grid_columns_ok n hC.lt (hC.rd (i := 3) rfl) h30⟩) ?_
 rintro _ w37 ⟨A31, m32, c33, gr35, rfl, hK⟩
 have hBf34 := Beside.cl (i := 0) hM hK rfl
 replace hM := hM.none hK.fr
 refine ⟨hM, ?_⟩
 replace hC := hC.merge hK
 clear hK
 obtain ⟨rfl, hl38, hc39⟩ := (hC.ow (i := 0) rfl).sl_len
 refine mp (.func (.func 73) #[] #[.pointer (some ⟨gr24, 0, none⟩)]) (pu_assign rfl) ?_
 refine mp (.func (.func 73) #[] #[.pointer (some ⟨gr35, 0, none⟩)]) (pu_assign rfl) ?_
 refine mixE.nil ?_
 clear hS hM
 refine hK15 _ _ ?_
 refine Wc.fresh fun E40 hE => ?_
 have e1 : E40 1 = .pointer (some ⟨g4, 0, none⟩) := (congrFun hE 1).trans rfl
 have e2 : E40 2 = .slice none 0 0 := (congrFun hE 2).trans rfl
 have e3 : E40 3 = .func (.func 73) #[] #[.pointer (some ⟨gr24, 0, none⟩)] := (congrFun hE 3).trans rfl
 have e4 : E40 4 = .func (.func 73) #[] #[.pointer (some ⟨gr35, 0, none⟩)] := (congrFun hE 4).trans rfl
 clear hE
 refine Wc.seq fun K41 hK41 => ?_
 refine rg ?_
 refine lp (.slice none 0 0) (pu_assign rfl) ?_
 refine ln ?_
 refine hK41 _ _ ?_
 refine Wc.seq fun K42 hK42 => ?_
 refine Wc.seq fun K43 hK43 => ?_
 refine rg ?_
 refine lp (.pointer (some ((⟨g4, 0, none⟩ : Addr).add 0))) (pu_field (sz := 1) Try.underlying24 rfl Try.sizeOf22 (by decide) rfl e1) ?_
 refine lv (.slice Ag_0_0 g_0_0.length cg_0_0) (ld_fld (hC.bx (i := 4) rfl) Try.isAgg22 rfl rfl) ?_
 refine lp (.int .i64 (g_0_0.length : Int)) (pu_len (A := Ag_0_0) (n := g_0_0.length) (m := cg_0_0) Try.underlying22 rfl) ?_
 refine lp (.int .i64 0) (pu_move rfl) ?_
 refine ln ?_
 refine hK43 _ _ ?_
 replace hC := hC.nil 67 (.pr (.int .i64) (.int .i64))
 obtain ⟨o45, hl0, hb⟩ := bd hb
 refine Wc.cut (fun E wv => ∃ (l5_0 : List (Int × Int)) (v22_0 : Int) (Al5_0 : Option Addr) (ml5_0 cl5_0 : Nat), E 2 = .slice none 0 0 ∧ E 5 = .slice Al5_0 ml5_0 cl5_0 ∧ I64 v22_0 ∧ Cx (fun _ => False) O0 w wv [.own 67 (.pr (.int .i64) (.int .i64)) (.slice Al5_0 ml5_0 cl5_0) l5_0] ∧ (some l5_0 : Option ((List (Int × Int)))) = some r) (fun K46 hK46 => ?_) ?_
 refine Wc.block ?_
 refine Wc.loop (fun m E wv => ∃ (l5_0 : List (Int × Int)) (v22_0 : Int) (Al5_0 : Option Addr) (ml5_0 cl5_0 : Nat), E 1 = .pointer (some ⟨g4, 0, none⟩) ∧ E 2 = .slice none 0 0 ∧ E 3 = .func (.func 73) #[] #[.pointer (some ⟨gr24, 0, none⟩)] ∧ E 4 = .func (.func 73) #[] #[.pointer (some ⟨gr35, 0, none⟩)] ∧ E 5 = .slice Al5_0 ml5_0 cl5_0 ∧ E 21 = .int .i64 (g_0_0.length : Int) ∧ E 22 = .int .i64 v22_0 ∧ I64 v22_0 ∧ Cx (fun _ => False) O0 w wv [.box g4 24 [.slice Ag_0_0 g_0_0.length cg_0_0, .slice Ag_0_1 g_0_1.length cg_0_1], .ro (.sl (.int .i64)) [.slice Ag_0_0 g_0_0.length cg_0_0] g_0_0, .ro (.sl (.int .i64)) [.slice Ag_0_1 g_0_1.length cg_0_1] g_0_1, .box gr24 22 [.slice A20 y18.length c22], .own 3 (.int .i64) (.slice A20 y18.length c22) y18, .box gr35 22 [.slice A31 y29.length c33], .own 3 (.int .i64) (.slice A31 y29.length c33) y29, .own 67 (.pr (.int .i64) (.int .i64)) (.slice Al5_0 ml5_0 cl5_0) l5_0] ∧ loopN m (F.grid_Crossings_b0 n g_0_0 g_0_1 y18 y29) (l5_0, v22_0) = some o45) n ⟨([] : List (Int × Int)), 0, none, 0, 0, e1, e2, e3, e4, rfl, rfl, rfl, (show I64 0 from by unfold I64; omega), hC.sel [5, 7, 6, 4, 3, 2, 1, 0] (by decide), hl0⟩ ?_
 have hbK0 := hb
 clear hb hC hl0
 rintro m48 E50 w49 ⟨l5_0, v22_0, Al5_0, ml5_0, cl5_0, e1, e2, e3, e4, e5, e21, e22, hrv22_0, hC, hl0⟩ K47 hK47
 obtain ⟨m48', o51, rfl, hb, hl0⟩ := loopN_some hl0
 unfold F.grid_Crossings_b0 at hb
 obtain ⟨rfl, hll5_0, hcl5_0⟩ := (hC.ow (i := 7) rfl).sl_len
 refine Wc.seq fun K52 hK52 => ?_
 refine rg ?_
 refine lp (.bool (decide (v22_0 < (g_0_0.length : Int)))) (pu_lss (k := .i64) (a := v22_0) (b := (g_0_0.length : Int)) e22 e21) ?_
 refine ln ?_
 refine hK52 _ _ ?_
 refine Wc.seq fun K53 hK53 => ?_
 refine Wc.cond (t := (decide (v22_0 < (g_0_0.length : Int)))) (rfl) (fun hq54 => ?_) (fun hq54 => ?_)
 replace hb := tt hq54 hb
 refine Wc.skip ?_
 refine hK53 _ _ ?_
 refine Wc.seq fun K55 hK55 => ?_
 refine Wc.block ?_
 refine Wc.seq fun K56 hK56 => ?_
 refine rg ?_
 refine lp (.int .i64 v22_0) (pu_move e22) ?_
 refine lp (.int .i64 v22_0) (pu_assign rfl) ?_
 refine ln ?_
 refine hK56 _ _ ?_
 refine Wc.seq fun K57 hK57 => ?_
 refine Wc.regionMix [] (frm [] ([] : List Fact) ([] : List Fact)) (fun _ => rfl) mixed (by decide +kernel) (by decide +kernel) fun w59 hw58 => ?_
 replace hC := hC.step (Fr.of_drew hw58)
 have hM := Fr.refl (fun k => k ∈ blocks ([] : List Fact)) w59
 clear hw58
 have hS := hC
 refine mp (.pointer (some ((⟨g4, 0, none⟩ : Addr).add 0))) (pu_field (sz := 1) Try.underlying24 rfl Try.sizeOf22 (by decide) rfl e1) ?_
 refine mixE.load hM (v := .slice Ag_0_0 g_0_0.length cg_0_0) (fun _ hF => ld_fld (hS.bx2 (i := 0) rfl [] (by decide) hF) Try.isAgg22 rfl rfl) ?_
 refine mp (.int .i64 v22_0) (pu_move rfl) ?_
 obtain ⟨x60, h61, hb⟩ := bd hb
 obtain ⟨ad62, cs63, hA, ho66, hc64, hr65⟩ := hS.elr2 (i := 1) rfl (get_some h61).2 []
 subst hA
 refine mp (.pointer (some (ad62.add (v22_0.toNat * 1)))) (pu_index (a := v22_0) Try.underlying22 Try.sizeOf3 rfl rfl (get_some h61).1) ?_
 obtain ⟨rfl, hr65'⟩ := hr65
 refine mixE.load hM (v := .int .i64 x60) (fun _ hF => ld_one Try.isAgg3 rfl (hF.cell (hc64 0 _ rfl) (off1 ho66))) ?_
 refine mp (.pointer (some ((⟨g4, 0, none⟩ : Addr).add 1))) (pu_field (sz := 1) Try.underlying24 rfl Try.sizeOf22 (by decide) rfl e1) ?_
 refine mixE.load hM (v := .slice Ag_0_1 g_0_1.length cg_0_1) (fun _ hF => ld_fld (hS.bx2 (i := 0) rfl [] (by decide) hF) Try.isAgg22 rfl rfl) ?_
 refine mp (.int .i64 v22_0) (pu_move rfl) ?_
 obtain ⟨x67, h68, hb⟩ := bd hb
 obtain ⟨ad69, cs70, hA, ho73, hc71, hr72⟩ := hS.elr2 (i := 2) rfl (get_some h68).2 []
 subst hA
 refine mp (.pointer (some (ad69.add (v22_0.toNat * 1)))) (pu_index (a := v22_0) Try.underlying22 Try.sizeOf3 rfl rfl (get_some h68).1) ?_
 obtain ⟨rfl, hr72'⟩ := hr72
 refine mixE.load hM (v := .int .i64 x67) (fun _ hF => ld_one Try.isAgg3 rfl (hF.cell (hc71 0 _ rfl) (off1 ho73))) ?_
 refine mp (.int .i64 (min x60 x67)) (pu_min (a := x60) (b := x67) rfl rfl) ?_
 obtain ⟨z74, h75, hb⟩ := bd hb
 refine mp (.int .i64 z74) (pu_addc (a := (min x60 x67)) (b := 1) rfl rfl h75) ?_
 refine mp (.int .i64 z74) (pu_assign rfl) ?_
 refine mixE.nil ?_
 clear hS hM
 refine hK57 _ _ ?_
 refine Wc.fresh fun E76 hE => ?_
 have e1 := (congrFun hE 1).trans e1
 have e2 := (congrFun hE 2).trans e2
 have e3 := (congrFun hE 3).trans e3
 have e4 := (congrFun hE 4).trans e4
 have e5 := (congrFun hE 5).trans e5
 have e6 : E76 6 = .int .i64 v22_0 := (congrFun hE 6).trans rfl
 have e7 : E76 7 = .int .i64 z74 := (congrFun hE 7).trans rfl
 have e21 := (congrFun hE 21).trans e21
 have e22 := (congrFun hE 22).trans e22
 have e23 : E76 23 = .bool (decide (v22_0 < (g_0_0.length : Int))) := (congrFun hE 23).trans rfl
 clear hE
 obtain ⟨o77, hl1, hb⟩ := bd hb
 refine Wc.cut (fun E wv => ∃ (l5_1 : List (Int × Int)) (v7_1 : Int) (Al5_1 : Option Addr) (ml5_1 cl5_1 : Nat), E 1 = .pointer (some ⟨g4, 0, none⟩) ∧ E 2 = .slice none 0 0 ∧ E 3 = .func (.func 73) #[] #[.pointer (some ⟨gr24, 0, none⟩)] ∧ E 4 = .func (.func 73) #[] #[.pointer (some ⟨gr35, 0, none⟩)] ∧ E 5 = .slice Al5_1 ml5_1 cl5_1 ∧ E 6 = .int .i64 v22_0 ∧ E 7 = .int .i64 v7_1 ∧ E 21 = .int .i64 (g_0_0.length : Int) ∧ E 22 = .int .i64 v22_0 ∧ E 23 = .bool (decide (v22_0 < (g_0_0.length : Int))) ∧ I64 v7_1 ∧ Cx (fun _ => False) O0 w wv [.box g4 24 [.slice (some ad62) g_0_0.length cg_0_0, .slice (some ad69) g_0_1.length cg_0_1], .ro (.sl (.int .i64)) [.slice (some ad62) g_0_0.length cg_0_0] g_0_0, .ro (.sl (.int .i64)) [.slice (some ad69) g_0_1.length cg_0_1] g_0_1, .box gr24 22 [.slice A20 y18.length c22], .own 3 (.int .i64) (.slice A20 y18.length c22) y18, .box gr35 22 [.slice A31 y29.length c33], .own 3 (.int .i64) (.slice A31 y29.length c33) y29, .own 67 (.pr (.int .i64) (.int .i64)) (.slice Al5_1 ml5_1 cl5_1) l5_1] ∧ ((chk (v22_0 + 1)).bind fun z140 => some (.inl (l5_1, z140)) : Option (((List (Int × Int)) × Int) ⊕ (((List (Int × Int)) × Int)))) = some o51) (fun K78 hK78 => ?_) ?_
 refine Wc.block ?_
 refine Wc.loop (fun m E wv => ∃ (l5_1 : List (Int × Int)) (v7_1 : Int) (Al5_1 : Option Addr) (ml5_1 cl5_1 : Nat), E 1 = .pointer (some ⟨g4, 0, none⟩) ∧ E 2 = .slice none 0 0 ∧ E 3 = .func (.func 73) #[] #[.pointer (some ⟨gr24, 0, none⟩)] ∧ E 4 = .func (.func 73) #[] #[.pointer (some ⟨gr35, 0, none⟩)] ∧ E 5 = .slice Al5_1 ml5_1 cl5_1 ∧ E 6 = .int .i64 v22_0 ∧ E 7 = .int .i64 v7_1 ∧ E 21 = .int .i64 (g_0_0.length : Int) ∧ E 22 = .int .i64 v22_0 ∧ E 23 = .bool (decide (v22_0 < (g_0_0.length : Int))) ∧ I64 v7_1 ∧ Cx (fun _ => False) O0 w wv [.box g4 24 [.slice (some ad62) g_0_0.length cg_0_0, .slice (some ad69) g_0_1.length cg_0_1], .ro (.sl (.int .i64)) [.slice (some ad62) g_0_0.length cg_0_0] g_0_0, .ro (.sl (.int .i64)) [.slice (some ad69) g_0_1.length cg_0_1] g_0_1, .box gr24 22 [.slice A20 y18.length c22], .own 3 (.int .i64) (.slice A20 y18.length c22) y18, .box gr35 22 [.slice A31 y29.length c33], .own 3 (.int .i64) (.slice A31 y29.length c33) y29, .own 67 (.pr (.int .i64) (.int .i64)) (.slice Al5_1 ml5_1 cl5_1) l5_1] ∧ loopN m (F.grid_Crossings_b1 n g_0_0 g_0_1 y18 y29 v22_0) (l5_1, v7_1) = some o77) n ⟨l5_0, z74, Al5_0, l5_0.length, cl5_0, e1, e2, e3, e4, e5, e6, e7, e21, e22, e23, (chk_rng h75), hC.sel [0, 1, 2, 3, 4, 5, 6, 7] (by decide), hl1⟩ ?_
 have hbK1 := hb
 clear hb hC hl1
 rintro m80 E82 w81 ⟨l5_1, v7_1, Al5_1, ml5_1, cl5_1, e1, e2, e3, e4, e5, e6, e7, e21, e22, e23, hrv7_1, hC, hl1⟩ K79 hK79
 obtain ⟨m80', o83, rfl, hb, hl1⟩ := loopN_some hl1
 unfold F.grid_Crossings_b1 at hb
 obtain ⟨rfl, hll5_1, hcl5_1⟩ := (hC.ow (i := 7) rfl).sl_len
 refine Wc.seq fun K84 hK84 => ?_
 refine Wc.seq fun K85 hK85 => ?_
 refine Wc.regionMix [] (frm [] ([] : List Fact) ([] : List Fact)) (fun _ => rfl) mixed (by decide +kernel) (by decide +kernel) fun w87 hw86 => ?_
 replace hC := hC.step (Fr.of_drew hw86)
 have hM := Fr.refl (fun k => k ∈ blocks ([] : List Fact)) w87
 clear hw86
 have hS := hC
 refine mp (.int .i64 v7_1) (pu_move e7) ?_
 refine mp (.pointer (some ((⟨g4, 0, none⟩ : Addr).add 0))) (pu_field (sz := 1) Try.underlying24 rfl Try.sizeOf22 (by decide) rfl e1) ?_
 refine mixE.load hM (v := .slice (some ad62) g_0_0.length cg_0_0) (fun _ hF => ld_fld (hS.bx2 (i := 0) rfl [] (by decide) hF) Try.isAgg22 rfl rfl) ?_
 refine mp (.int .i64 v22_0) (pu_move e6) ?_
 obtain ⟨x88, h89, hb⟩ := bd hb
 obtain ⟨ad90, cs91, hA, ho94, hc92, hr93⟩ := hS.elr2 (i := 1) rfl (get_some h89).2 []
 obtain rfl := Option.some.inj hA
 refine mp (.pointer (some (ad62.add (v22_0.toNat * 1)))) (pu_index (a := v22_0) Try.underlying22 Try.sizeOf3 rfl rfl (get_some h89).1) ?_
 obtain ⟨rfl, hr93'⟩ := hr93
 refine mixE.load hM (v := .int .i64 x88) (fun _ hF => ld_one Try.isAgg3 rfl (hF.cell (hc92 0 _ rfl) (off1 ho94))) ?_
 refine mp (.pointer (some ((⟨g4, 0, none⟩ : Addr).add 1))) (pu_field (sz := 1) Try.underlying24 rfl Try.sizeOf22 (by decide) rfl e1) ?_
 refine mixE.load hM (v := .slice (some ad69) g_0_1.length cg_0_1) (fun _ hF => ld_fld (hS.bx2 (i := 0) rfl [] (by decide) hF) Try.isAgg22 rfl rfl) ?_
 refine mp (.int .i64 v22_0) (pu_move e6) ?_
 obtain ⟨x95, h96, hb⟩ := bd hb
 obtain ⟨ad97, cs98, hA, ho101, hc99, hr100⟩ := hS.elr2 (i := 2) rfl (get_some h96).2 []
 obtain rfl := Option.some.inj hA
 refine mp (.pointer (some (ad69.add (v22_0.toNat * 1)))) (pu_index (a := v22_0) Try.underlying22 Try.sizeOf3 rfl rfl (get_some h96).1) ?_
 obtain ⟨rfl, hr100'⟩ := hr100
 refine mixE.load hM (v := .int .i64 x95) (fun _ hF => ld_one Try.isAgg3 rfl (hF.cell (hc99 0 _ rfl) (off1 ho101))) ?_
 refine mp (.int .i64 (max x88 x95)) (pu_max (a := x88) (b := x95) rfl rfl) ?_
 refine mp (.bool (decide (v7_1 < (max x88 x95)))) (pu_lss (k := .i64) (a := v7_1) (b := (max x88 x95)) rfl rfl) ?_
 refine mixE.nil ?_
 clear hS hM
 refine hK85 _ _ ?_
 refine Wc.cond (t := (decide (v7_1 < (max x88 x95)))) (rfl) (fun hq102 => ?_) (fun hq102 => ?_)
 replace hb := tt hq102 hb
 refine Wc.skip ?_
 refine hK84 _ _ ?_
 refine Wc.fresh fun E103 hE => ?_
 have e1 := (congrFun hE 1).trans e1
 have e2 := (congrFun hE 2).trans e2
 have e3 := (congrFun hE 3).trans e3
 have e4 := (congrFun hE 4).trans e4
 have e5 := (congrFun hE 5).trans e5
 have e6 := (congrFun hE 6).trans e6
 have e7 := (congrFun hE 7).trans e7
 have e21 := (congrFun hE 21).trans e21
 have e22 := (congrFun hE 22).trans e22
 have e23 := (congrFun hE 23).trans e23
 have e49 : E103 49 = .bool (decide (v7_1 < (max x88 x95))) := (congrFun hE 49).trans rfl
 clear hE
 refine Wc.seq fun K104 hK104 => ?_
 refine Wc.block ?_
 refine Wc.seq fun K105 hK105 => ?_
 refine rg ?_
 refine lp (.func (.func 73) #[] #[.pointer (some ⟨gr24, 0, none⟩)]) (pu_move e3) ?_
 refine lp (.int .i64 v7_1) (pu_move e7) ?_
 replace hC : Cx (fun _ => False) O0 w w87 ([.box gr24 22 [.slice A20 y18.length c22]] ++ [.box g4 24 [.slice (some ad62) g_0_0.length cg_0_0, .slice (some ad69) g_0_1.length cg_0_1], .ro (.sl (.int .i64)) [.slice (some ad62) g_0_0.length cg_0_0] g_0_0, .ro (.sl (.int .i64)) [.slice (some ad69) g_0_1.length cg_0_1] g_0_1, .own 3 (.int .i64) (.slice A20 y18.length c22) y18, .box gr35 22 [.slice A31 y29.length c33], .own 3 (.int .i64) (.slice A31 y29.length c33) y29, .own 67 (.pr (.int .i64) (.int .i64)) (.slice Al5_1 l5_1.length cl5_1) l5_1]) := hC.sel [3, 0, 1, 2, 4, 5, 6, 7] (by decide)
 obtain ⟨y106, h107, hb⟩ := bd hb
 refine lex.cl (⟨_, _, op_callv (vs := [.int .i64 v7_1, .pointer (some ⟨gr24, 0, none⟩)]) (ca := #[.pointer (some ⟨gr24, 0, none⟩)]) Try.call73 rfl rfl rfl, grid_columns_c1_ok n (hC.lentLt [.slice A20 y18.length c22]) hrv7_1 ((hC.ow (i := 4) rfl).lend (vs := [.slice A20 y18.length c22]) (by simp)) (hC.give.lent [.slice A20 y18.length c22] (hC.apart (List.forall_mem_cons.2 ⟨blk_in (i := 3) rfl, fun _ h => absurd h List.not_mem_nil⟩))) h107⟩) ?_
 rintro _ w109 ⟨rfl, hr108, hK⟩
 replace hC := hC.back (hK.flatTk rfl hC.lt)
 clear hK
 refine lp (.func (.func 73) #[] #[.pointer (some ⟨gr35, 0, none⟩)]) (pu_move e4) ?_
 refine lp (.int .i64 v7_1) (pu_move e7) ?_
 replace hC : Cx (fun _ => False) O0 w w109 ([.box gr35 22 [.slice A31 y29.length c33]] ++ [.box gr24 22 [.slice A20 y18.length c22], .box g4 24 [.slice (some ad62) g_0_0.length cg_0_0, .slice (some ad69) g_0_1.length cg_0_1], .ro (.sl (.int .i64)) [.slice (some ad62) g_0_0.length cg_0_0] g_0_0, .ro (.sl (.int .i64)) [.slice (some ad69) g_0_1.length cg_0_1] g_0_1, .own 3 (.int .i64) (.slice A20 y18.length c22) y18, .own 3 (.int .i64) (.slice A31 y29.length c33) y29, .own 67 (.pr (.int .i64) (.int .i64)) (.slice Al5_1 l5_1.length cl5_1) l5_1]) := hC.sel [5, 0, 1, 2, 3, 4, 6, 7] (by decide)
 obtain ⟨y110, h111, hb⟩ := bd hb
 refine lex.cl (⟨_, _, op_callv (vs := [.int .i64 v7_1, .pointer (some ⟨gr35, 0, none⟩)]) (ca := #[.pointer (some ⟨gr35, 0, none⟩)]) Try.call73 rfl rfl rfl, grid_columns_c1_ok n (hC.lentLt [.slice A31 y29.length c33]) hrv7_1 ((hC.ow (i := 6) rfl).lend (vs := [.slice A31 y29.length c33]) (by simp)) (hC.give.lent [.slice A31 y29.length c33] (hC.apart (List.forall_mem_cons.2 ⟨blk_in (i := 5) rfl, fun _ h => absurd h List.not_mem_nil⟩))) h111⟩) ?_
 rintro _ w113 ⟨rfl, hr112, hK⟩
 replace hC := hC.back (hK.flatTk rfl hC.lt)
 clear hK
 refine lp (.int .i64 y106) (pu_assign rfl) ?_
 refine lp (.int .i64 y110) (pu_assign rfl) ?_
 refine ln ?_
 refine hK105 _ _ ?_
 refine Wc.seq fun K114 hK114 => ?_
 refine rg ?_
 refine lp (.int .i64 y106) (pu_move rfl) ?_
 refine lp (.int .i64 y110) (pu_move rfl) ?_
 refine lp (.int .i64 (min y106 y110)) (pu_min (a := y106) (b := y110) rfl rfl) ?_
 refine lp (.int .i64 v22_0) (pu_move e6) ?_
 refine lp (.bool (decide ((min y106 y110) < v22_0))) (pu_lss (k := .i64) (a := (min y106 y110)) (b := v22_0) rfl rfl) ?_
 refine lp (.bool (decide ((min y106 y110) < v22_0))) (pu_move rfl) ?_
 rcases bS (decide ((min y106 y110) < v22_0)) with hq115 | hq115
 replace hb := tt hq115 hb
 refine gp rfl rfl (decide ((min y106 y110) < v22_0)) rfl hq115 (.int .i64 v22_0) (pu_move e6) ?_
 refine gp rfl rfl (decide ((min y106 y110) < v22_0)) rfl hq115 (.int .i64 y106) (pu_move rfl) ?_
 refine gp rfl rfl (decide ((min y106 y110) < v22_0)) rfl hq115 (.int .i64 y110) (pu_move rfl) ?_
 refine gp rfl rfl (decide ((min y106 y110) < v22_0)) rfl hq115 (.int .i64 (max y106 y110)) (pu_max (a := y106) (b := y110) rfl rfl) ?_
 refine gp rfl rfl (decide ((min y106 y110) < v22_0)) rfl hq115 (.bool (decide (v22_0 < (max y106 y110)))) (pu_lss (k := .i64) (a := v22_0) (b := (max y106 y110)) rfl rfl) ?_
 refine lp (.bool (decide (v22_0 < (max y106 y110)))) (pu_pickT (q := (decide ((min y106 y110) < v22_0))) rfl hq115 rfl) ?_
 refine ln ?_
 refine hK114 _ _ ?_
 refine Wc.fresh fun E116 hE => ?_
 have e1 := (congrFun hE 1).trans e1
 have e2 := (congrFun hE 2).trans e2
 have e3 := (congrFun hE 3).trans e3
 have e4 := (congrFun hE 4).trans e4
 have e5 := (congrFun hE 5).trans e5
 have e6 := (congrFun hE 6).trans e6
 have e7 := (congrFun hE 7).trans e7
 have e8 : E116 8 = .int .i64 y106 := (congrFun hE 8).trans rfl
 have e9 : E116 9 = .int .i64 y110 := (congrFun hE 9).trans rfl
 have e21 := (congrFun hE 21).trans e21
 have e22 := (congrFun hE 22).trans e22
 have e23 := (congrFun hE 23).trans e23
 have e49 := (congrFun hE 49).trans e49
 have e69 : E116 69 = .bool (decide (v22_0 < (max y106 y110))) := (congrFun hE 69).trans rfl
 clear hE
 refine Wc.cond (t := (decide (v22_0 < (max y106 y110)))) (e69) (fun hq117 => ?_) (fun hq117 => ?_)
 replace hb := tt hq117 hb
 refine rg ?_
 refine lp (.slice Al5_1 l5_1.length cl5_1) (pu_move e5) ?_
 refine lp (.int .i64 v22_0) (pu_move e6) ?_
 refine lp (.int .i64 v7_1) (pu_move e7) ?_
 refine lp (.agg #[.int .i64 v22_0, .int .i64 v7_1]) (pu_builda (pv := [(0, .int .i64 v22_0), (1, .int .i64 v7_1)]) (sz := 1) Try.type67 Try.underlying67 rfl Try.type3 rfl rfl (by simp [Instr.fill, Value.cells])) ?_
 refine lex.op (hC.lit (s := (.pr (.int .i64) (.int .i64))) (vs := [.agg #[.int .i64 v22_0, .int .i64 v7_1]]) (xs := [(v22_0, v7_1)]) Try.underlying33 Try.type67 rfl rfl (Nat.le_of_ble_eq_true rfl) rfl rfl (by simp [Value.cells, Sh.n]) rfl (show Elems _ _ (.pr (.int .i64) (.int .i64)) ([.int .i64 v22_0, .int .i64 v7_1] ++ ([])) ([(v22_0, v7_1)] : List (Int × Int)) from Elems.cons (⟨[.int .i64 v22_0], [.int .i64 v7_1], rfl, ⟨rfl, I64.wr hrv22_0⟩, ⟨rfl, I64.wr hrv7_1⟩⟩) (Elems.nil _ _ _))) ?_
 rintro _ w122 ⟨A118, c119, rfl, hl120, hc121, hC, hF, hN⟩
 clear hF hN
 obtain ⟨u124, h125, hb⟩ := bd hb
 refine lex.op (hC.app (i := 8) (s := (.pr (.int .i64) (.int .i64))) (xs := l5_1) (ys := ([(v22_0, v7_1)] : List (Int × Int))) (m := ((([(v22_0, v7_1)] : List (Int × Int))).length)) rfl Try.underlying33 Try.underlying33 Try.type67 rfl rfl rfl (hC.srco (i := 0) rfl) rfl rfl (by have := lim_some h125; simp at this ⊢ <;> omega) (by decide)) ?_
 rintro _ w130 ⟨A126, c127, rfl, hl128, hc129, hC, hF, hN⟩
 clear hF hN
 refine lp (.slice A126 ((l5_1 ++ ([(v22_0, v7_1)] : List (Int × Int))).length) c127) (pu_assign rfl) ?_
 refine ln ?_
 refine hK104 _ _ ?_
 refine rg ?_
 refine lp (.int .i64 v7_1) (pu_move e7) ?_
 obtain ⟨z131, h132, hb⟩ := bd hb
 refine lp (.int .i64 z131) (pu_addc (a := v7_1) (b := 1) rfl rfl h132) ?_
 refine lp (.int .i64 z131) (pu_assign rfl) ?_
 refine ln ?_
 obtain rfl := os hb
 exact hK79 m80' _ _ (Nat.lt_succ_self _) ⟨(l5_1 ++ ([(v22_0, v7_1)] : List (Int × Int))), z131, A126, (l5_1 ++ ([(v22_0, v7_1)] : List (Int × Int))).length, c127, e1, e2, e3, e4, rfl, e6, rfl, e21, e22, e23, (chk_rng h132), hC.sel [3, 4, 5, 2, 6, 1, 7, 8] (by decide), lN hl1⟩
 replace hb := tf hq117 hb
 refine Wc.skip ?_
 refine hK104 _ _ ?_
 refine rg ?_
 refine lp (.int .i64 v7_1) (pu_move e7) ?_
 obtain ⟨z133, h134, hb⟩ := bd hb
 refine lp (.int .i64 z133) (pu_addc (a := v7_1) (b := 1) rfl rfl h134) ?_
 refine lp (.int .i64 z133) (pu_assign rfl) ?_
 refine ln ?_
 obtain rfl := os hb
 exact hK79 m80' _ _ (Nat.lt_succ_self _) ⟨l5_1, z133, Al5_1, l5_1.length, cl5_1, e1, e2, e3, e4, e5, e6, rfl, e21, e22, e23, (chk_rng h134), hC.sel [2, 3, 4, 1, 5, 0, 6, 7] (by decide), lN hl1⟩
 replace hb := tf hq115 hb
 refine gs rfl rfl (decide ((min y106 y110) < v22_0)) rfl hq115 ?_
 refine gs rfl rfl (decide ((min y106 y110) < v22_0)) rfl hq115 ?_
 refine gs rfl rfl (decide ((min y106 y110) < v22_0)) rfl hq115 ?_
 refine gs rfl rfl (decide ((min y106 y110) < v22_0)) rfl hq115 ?_
 refine gs rfl rfl (decide ((min y106 y110) < v22_0)) rfl hq115 ?_
 refine lp (.bool false) (pu_pickF (q := (decide ((min y106 y110) < v22_0))) rfl hq115 rfl) ?_
 refine ln ?_
 refine hK114 _ _ ?_
 refine Wc.fresh fun E135 hE => ?_
 have e1 := (congrFun hE 1).trans e1
 have e2 := (congrFun hE 2).trans e2
 have e3 := (congrFun hE 3).trans e3
 have e4 := (congrFun hE 4).trans e4
 have e5 := (congrFun hE 5).trans e5
 have e6 := (congrFun hE 6).trans e6
 have e7 := (congrFun hE 7).trans e7
 have e8 : E135 8 = .int .i64 y106 := (congrFun hE 8).trans rfl
 have e9 : E135 9 = .int .i64 y110 := (congrFun hE 9).trans rfl
 have e21 := (congrFun hE 21).trans e21
 have e22 := (congrFun hE 22).trans e22
 have e23 := (congrFun hE 23).trans e23
 have e49 := (congrFun hE 49).trans e49
 have e69 : E135 69 = .bool false := (congrFun hE 69).trans rfl
 clear hE
 refine Wc.cond_false (e69) ?_
 refine Wc.skip ?_
 refine hK104 _ _ ?_
 refine rg ?_
 refine lp (.int .i64 v7_1) (pu_move e7) ?_
 obtain ⟨z136, h137, hb⟩ := bd hb
 refine lp (.int .i64 z136) (pu_addc (a := v7_1) (b := 1) rfl rfl h137) ?_
 refine lp (.int .i64 z136) (pu_assign rfl) ?_
 refine ln ?_
 obtain rfl := os hb
 exact hK79 m80' _ _ (Nat.lt_succ_self _) ⟨l5_1, z136, Al5_1, l5_1.length, cl5_1, e1, e2, e3, e4, e5, e6, rfl, e21, e22, e23, (chk_rng h137), hC.sel [2, 3, 4, 1, 5, 0, 6, 7] (by decide), lN hl1⟩
 replace hb := tf hq102 hb
 refine Wc.exit rfl ?_
 obtain rfl := os hb
 obtain rfl := (lX hl1).symm
 exact hK78 _ _ ⟨l5_1, v7_1, Al5_1, l5_1.length, cl5_1, e1, e2, e3, e4, e5, e6, e7, e21, e22, e23, hrv7_1, hC.sel [0, 1, 2, 3, 4, 5, 6, 7] (by decide), hbK1⟩
 clear hb hC hl1
 rintro E139 w138 ⟨l5_1, v7_1, Al5_1, ml5_1, cl5_1, e1, e2, e3, e4, e5, e6, e7, e21, e22, e23, hrv7_1, hC, hb⟩
 obtain ⟨rfl, hll5_1, hcl5_1⟩ := (hC.ow (i := 7) rfl).sl_len
 refine hK55 _ _ ?_
 refine rg ?_
 obtain ⟨z140, h141, hb⟩ := bd hb
 refine lp (.int .i64 z140) (pu_addc (a := v22_0) (b := 1) e22 rfl h141) ?_
 refine lp (.int .i64 z140) (pu_move rfl) ?_
 refine ln ?_
 obtain rfl := os hb
 exact hK47 m48' _ _ (Nat.lt_succ_self _) ⟨l5_1, z140, Al5_1, l5_1.length, cl5_1, e1, e2, e3, e4, e5, e21, rfl, (chk_rng h141), hC.sel [0, 1, 2, 3, 4, 5, 6, 7] (by decide), lN hl0⟩
 replace hb := tf hq54 hb
 refine Wc.exit rfl ?_
 obtain rfl := os hb
 obtain rfl := (lX hl0).symm
 exact hK46 _ _ ⟨l5_0, v22_0, Al5_0, l5_0.length, cl5_0, e2, e5, hrv22_0, hC.sel [7] (by decide), hbK0⟩
 clear hb hC hl0
 rintro E143 w142 ⟨l5_0, v22_0, Al5_0, ml5_0, cl5_0, e2, e5, hrv22_0, hC, hb⟩
 obtain ⟨rfl, hll5_0, hcl5_0⟩ := (hC.ow (i := 0) rfl).sl_len
 refine hK42 _ _ ?_
 refine Wc.seq fun K144 hK144 => ?_
 refine rg ?_
 refine lp (.slice Al5_0 l5_0.length cl5_0) (pu_move e5) ?_
 refine lp (.slice Al5_0 l5_0.length cl5_0) (pu_assign rfl) ?_
 refine ln ?_
 refine hK144 _ _ ?_
 obtain rfl := os hb
 refine Wc.ret ?_
 refine hKR _ _ ?_
 refine ⟨_, res1 Try.results27 (show RV _ _ _ (.tmp _) (.slice Al5_0 l5_0.length cl5_0) from rfl), _, rfl, Al5_0, l5_0.length, cl5_0, rfl, hC.sel [0] (by decide)⟩
end Go.Proofs.Yticemffhlapnnaa
