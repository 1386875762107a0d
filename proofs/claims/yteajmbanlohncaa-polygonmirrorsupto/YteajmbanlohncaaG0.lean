/- The walks: part 0. -/
import Derived.Test.YteajmbanlohncaaS
set_option linter.unusedVariables false
set_option linter.unusedSimpArgs false
namespace Go.Proofs.Yteajmbanlohncaa
open Ev
set_option maxRecDepth 100000 in
set_option maxHeartbeats 4000000 in
theorem polygon_within_ok (n : Nat) {w : World} {O0 : List Nat} (hO : ∀ k ∈ O0, k < w.heap.size) {p_0_0 : Int} (hp_0_0 : I64 p_0_0) {p_0_1 : Int} (hp_0_1 : I64 p_0_1) {p_0_2 : Int} (hp_0_2 : I64 p_0_2) {r : Bool} (hb : F.polygon_within n p_0_0 p_0_1 p_0_2 = some r) :
    Calls Try.prog 43 #[.agg #[.int .i64 p_0_0, .int .i64 p_0_1, .int .i64 p_0_2]] w fun e w' => ∃ v, e = .returned v ∧ v = .bool r ∧ Cx (fun _ => False) O0 w w' [] := by
 unfold F.polygon_within at hb
 have hC := Cx.start hO
 clear hO
 refine calls_of_Wc Try.func43 rfl (by rw [Try.ntmps43]; exact Nat.le_of_ble_eq_true rfl) fun KR hKR => ?_
 refine Wc.seq fun K1 hK1 => ?_
 refine rg ?_
 refine lex.op (hC.box (cs := [.int .i64 p_0_0, .int .i64 p_0_1, .int .i64 p_0_2]) rfl rfl) ?_
 rintro _ w3 ⟨g2, rfl, hC, hF, hG⟩
 clear hG
 refine lp (.bool false) (pu_assign rfl) ?_
 refine ln ?_
 refine hK1 _ _ ?_
 refine Wc.seq fun K5 hK5 => ?_
 refine Wc.seq fun K6 hK6 => ?_
 refine rg ?_
 refine lp (.pointer (some ((⟨g2, 0, none⟩ : Addr).add 0))) (pu_field (sz := 1) Try.underlying23 rfl Try.sizeOf3 (by decide) rfl rfl) ?_
 refine lv (.int .i64 p_0_0) (ld_fld (hC.bx (i := 0) rfl) Try.isAgg3 rfl rfl) ?_
 refine lp (.pointer (some ((⟨g2, 0, none⟩ : Addr).add 1))) (pu_field (sz := 1) Try.underlying23 rfl Try.sizeOf3 (by decide) rfl rfl) ?_
 refine lv (.int .i64 p_0_1) (ld_fld (hC.bx (i := 0) rfl) Try.isAgg3 rfl rfl) ?_
 refine lp (.pointer (some ((⟨g2, 0, none⟩ : Addr).add 2))) (pu_field (sz := 1) Try.underlying23 rfl Try.sizeOf3 (by decide) rfl rfl) ?_
 refine lv (.int .i64 p_0_2) (ld_fld (hC.bx (i := 0) rfl) Try.isAgg3 rfl rfl) ?_
 refine lp (.agg #[.int .i64 p_0_0, .int .i64 p_0_1, .int .i64 p_0_2]) (pu_builda (pv := [(0, .int .i64 p_0_0), (1, .int .i64 p_0_1), (2, .int .i64 p_0_2)]) (sz := 1) Try.type103 Try.underlying103 rfl Try.type3 rfl rfl (by simp [Instr.fill, Value.cells])) ?_
 refine lp (.int .i64 0) (pu_move rfl) ?_
 refine ln ?_
 refine hK6 _ _ ?_
 refine Wc.fresh fun E7 hE => ?_
 have e2 : E7 2 = .bool false := (congrFun hE 2).trans rfl
 have e11 : E7 11 = .agg #[.int .i64 p_0_0, .int .i64 p_0_1, .int .i64 p_0_2] := (congrFun hE 11).trans rfl
 have e12 : E7 12 = .int .i64 0 := (congrFun hE 12).trans rfl
 clear hE
 obtain ⟨o8, hl0, hb⟩ := bd hb
 refine Wc.cut (fun E wv => ∃ (v12_0 : Int), E 2 = .bool false ∧ I64 v12_0 ∧ Cx (fun _ => False) O0 w wv [] ∧ (some true : Option (Bool)) = some r) (fun K9 hK9 => ?_) ?_
 refine Wc.block ?_
 refine Wc.loop (fun m E wv => ∃ (v12_0 : Int), E 2 = .bool false ∧ E 11 = .agg #[.int .i64 p_0_0, .int .i64 p_0_1, .int .i64 p_0_2] ∧ E 12 = .int .i64 v12_0 ∧ I64 v12_0 ∧ Cx (fun _ => False) O0 w wv [] ∧ loopN m (F.polygon_within_b0 n p_0_0 p_0_1 p_0_2) v12_0 = some o8) n ⟨0, e2, e11, e12, (show I64 0 from by unfold I64; omega), hC.sel [] (by decide), hl0⟩ ?_
 have hbK0 := hb
 clear hb hC hl0
 rintro m11 E13 w12 ⟨v12_0, e2, e11, e12, hrv12_0, hC, hl0⟩ K10 hK10
 obtain ⟨m11', o14, rfl, hb, hl0⟩ := loopN_some hl0
 unfold F.polygon_within_b0 at hb
 refine Wc.seq fun K15 hK15 => ?_
 refine rg ?_
 refine lp (.bool (decide (v12_0 < 3))) (pu_lss (k := .i64) (a := v12_0) (b := 3) e12 rfl) ?_
 refine ln ?_
 refine hK15 _ _ ?_
 refine Wc.seq fun K16 hK16 => ?_
 refine Wc.cond (t := (decide (v12_0 < 3))) (rfl) (fun hq17 => ?_) (fun hq17 => ?_)
 replace hb := tt hq17 hb
 refine Wc.skip ?_
 refine hK16 _ _ ?_
 refine Wc.seq fun K18 hK18 => ?_
 refine Wc.block ?_
 refine Wc.seq fun K19 hK19 => ?_
 refine rg ?_
 obtain ⟨x20, h21, hb⟩ := bd hb
 have hr22 : I64 x20 := all_get (p := fun d => I64 d) (List.forall_mem_cons.2 ⟨hp_0_0, List.forall_mem_cons.2 ⟨hp_0_1, List.forall_mem_cons.2 ⟨hp_0_2, fun _ h => absurd h List.not_mem_nil⟩⟩⟩) h21
 refine lp (.int .i64 x20) (pu_ix1 (a := v12_0) (cs := (([p_0_0, p_0_1, p_0_2] : List Int).map (Value.int .i64)).toArray) Try.underlying103 Try.sizeOf3 Try.isAgg3 e11 e12 (by have h1 := (get_some h21).1; have h2 := (get_nn h21); simp at h1; omega) (ixa_int (get_some h21).2)) ?_
 refine lp (.int .i64 x20) (pu_assign rfl) ?_
 refine ln ?_
 refine hK19 _ _ ?_
 refine Wc.seq fun K23 hK23 => ?_
 refine rg ?_
 refine lp (.int .i64 x20) (pu_move rfl) ?_
 refine lp (.bool (decide (x20 < (-1000)))) (pu_lss (k := .i64) (a := x20) (b := (-1000)) rfl rfl) ?_
 refine lp (.bool (decide (x20 < (-1000)))) (pu_move rfl) ?_
 rcases bS (decide (x20 < (-1000))) with hq24 | hq24
 replace hb := tt hq24 hb
 refine gs rfl rfl (decide (x20 < (-1000))) rfl hq24 ?_
 refine gs rfl rfl (decide (x20 < (-1000))) rfl hq24 ?_
 refine lp (.bool true) (pu_pickT (q := (decide (x20 < (-1000)))) rfl hq24 rfl) ?_
 refine ln ?_
 refine hK23 _ _ ?_
 refine Wc.cond_true (rfl) ?_
 refine Wc.seq fun K25 hK25 => ?_
 refine rg ?_
 refine lp (.bool false) (pu_assign rfl) ?_
 refine ln ?_
 refine hK25 _ _ ?_
 obtain rfl := os hb
 obtain rfl := (lX hl0).symm
 replace hb := hbK0
 obtain rfl := os hb
 refine Wc.ret ?_
 refine hKR _ _ ?_
 refine ⟨_, res1 Try.results43 (show RV _ _ _ (.tmp _) (.bool false) from rfl), _, rfl, rfl, hC.sel [] (by decide)⟩
 replace hb := tf hq24 hb
 refine gp rfl rfl (decide (x20 < (-1000))) rfl hq24 (.int .i64 x20) (pu_move rfl) ?_
 refine gp rfl rfl (decide (x20 < (-1000))) rfl hq24 (.bool (decide (1000 < x20))) (pu_gtr (k := .i64) (a := x20) (b := 1000) rfl rfl) ?_
 refine lp (.bool (decide (1000 < x20))) (pu_pickF (q := (decide (x20 < (-1000)))) rfl hq24 rfl) ?_
 refine ln ?_
 refine hK23 _ _ ?_
 refine Wc.cond (t := (decide (1000 < x20))) (rfl) (fun hq26 => ?_) (fun hq26 => ?_)
 replace hb := tt hq26 hb
 refine Wc.seq fun K27 hK27 => ?_
 refine rg ?_
 refine lp (.bool false) (pu_assign rfl) ?_
 refine ln ?_
 refine hK27 _ _ ?_
 obtain rfl := os hb
 obtain rfl := (lX hl0).symm
 replace hb := hbK0
 obtain rfl := os hb
 refine Wc.ret ?_
 refine hKR _ _ ?_
 refine ⟨_, res1 Try.results43 (show RV _ _ _ (.tmp _) (.bool false) from rfl), _, rfl, rfl, hC.sel [] (by decide)⟩
 replace hb := tf hq26 hb
 refine Wc.skip ?_
 refine hK18 _ _ ?_
 refine rg ?_
 obtain ⟨z28, h29, hb⟩ := bd hb
 refine lp (.int .i64 z28) (pu_addc (a := v12_0) (b := 1) e12 rfl h29) ?_
 refine lp (.int .i64 z28) (pu_move rfl) ?_
 refine ln ?_
 obtain rfl := os hb
 exact hK10 m11' _ _ (Nat.lt_succ_self _) ⟨z28, e2, e11, rfl, (chk_rng h29), hC.sel [] (by decide), lN hl0⟩
 replace hb := tf hq17 hb
 refine Wc.exit rfl ?_
 obtain rfl := os hb
 obtain rfl := (lX hl0).symm
 exact hK9 _ _ ⟨v12_0, e2, hrv12_0, hC.sel [] (by decide), hbK0⟩
 clear hb hC hl0
 rintro E31 w30 ⟨v12_0, e2, hrv12_0, hC, hb⟩
 refine hK5 _ _ ?_
 refine Wc.seq fun K32 hK32 => ?_
 refine rg ?_
 refine lp (.bool true) (pu_assign rfl) ?_
 refine ln ?_
 refine hK32 _ _ ?_
 obtain rfl := os hb
 refine Wc.ret ?_
 refine hKR _ _ ?_
 refine ⟨_, res1 Try.results43 (show RV _ _ _ (.tmp _) (.bool true) from rfl), _, rfl, rfl, hC.sel [] (by decide)⟩

set_option maxRecDepth 100000 in
set_option maxHeartbeats 4000000 in
theorem polygon_valid_ok (n : Nat) {w : World} {O0 : List Nat} (hO : ∀ k ∈ O0, k < w.heap.size) {Al_0 : Option Addr} {ml_0 cl_0 : Nat} {l_0 : List (List (Int × (Int × Int)))} (hl_0 : Rep O0 w (.sl (.sl (.pr (.int .i64) (.pr (.int .i64) (.int .i64))))) [.slice Al_0 ml_0 cl_0] l_0) {r : Bool} (hb : F.polygon_valid n l_0 = some r) :
    Calls Try.prog 51 #[.slice Al_0 ml_0 cl_0] w fun e w' => ∃ v, e = .returned v ∧ v = .bool r ∧ Cx (fun _ => False) O0 w w' [] := by
 unfold F.polygon_valid at hb
 have hC := Cx.start hO
 replace hC := hC.arg rfl hl_0
 clear hO
 obtain ⟨rfl, hll_0, hcl_0⟩ := hl_0.sl_len
 refine calls_of_Wc Try.func51 rfl (by rw [Try.ntmps51]; exact Nat.le_of_ble_eq_true rfl) fun KR hKR => ?_
 refine Wc.seq fun K2 hK2 => ?_
 refine rg ?_
 refine lp (.bool false) (pu_assign rfl) ?_
 refine ln ?_
 refine hK2 _ _ ?_
 refine Wc.seq fun K3 hK3 => ?_
 refine rg ?_
 refine lp (.int .i64 0) (pu_assign rfl) ?_
 refine ln ?_
 refine hK3 _ _ ?_
 refine Wc.seq fun K4 hK4 => ?_
 refine Wc.seq fun K5 hK5 => ?_
 refine rg ?_
 refine lp (.slice Al_0 l_0.length cl_0) (pu_move rfl) ?_
 refine lp (.int .i64 (l_0.length : Int)) (pu_len (A := Al_0) (n := l_0.length) (m := cl_0) Try.underlying28 rfl) ?_
 refine lp (.int .i64 0) (pu_move rfl) ?_
 refine ln ?_
 refine hK5 _ _ ?_
 obtain ⟨o6, hl0, hb⟩ := bd hb
 refine Wc.cut (fun E wv => ∃ (v3_0 : Int) (v10_0 : Int), E 2 = .bool false ∧ I64 v3_0 ∧ I64 v10_0 ∧ Cx (fun _ => False) O0 w wv [] ∧ (some true : Option (Bool)) = some r) (fun K7 hK7 => ?_) ?_
 refine Wc.block ?_
 refine Wc.loop (fun m E wv => ∃ (v3_0 : Int) (v10_0 : Int), E 2 = .bool false ∧ E 3 = .int .i64 v3_0 ∧ E 8 = .slice Al_0 l_0.length cl_0 ∧ E 9 = .int .i64 (l_0.length : Int) ∧ E 10 = .int .i64 v10_0 ∧ I64 v3_0 ∧ I64 v10_0 ∧ Cx (fun _ => False) O0 w wv [.ro (.sl (.sl (.pr (.int .i64) (.pr (.int .i64) (.int .i64))))) [.slice Al_0 l_0.length cl_0] l_0] ∧ loopN m (F.polygon_valid_b0 n l_0) (v3_0, v10_0) = some o6) n ⟨0, 0, rfl, rfl, rfl, rfl, rfl, (show I64 0 from by unfold I64; omega), (show I64 0 from by unfold I64; omega), hC.sel [0] (by decide), hl0⟩ ?_
 have hbK0 := hb
 clear hb hC hl0
 rintro m9 E11 w10 ⟨v3_0, v10_0, e2, e3, e8, e9, e10, hrv3_0, hrv10_0, hC, hl0⟩ K8 hK8
 obtain ⟨m9', o12, rfl, hb, hl0⟩ := loopN_some hl0
 unfold F.polygon_valid_b0 at hb
 refine Wc.seq fun K13 hK13 => ?_
 refine rg ?_
 refine lp (.bool (decide (v10_0 < (l_0.length : Int)))) (pu_lss (k := .i64) (a := v10_0) (b := (l_0.length : Int)) e10 e9) ?_
 refine ln ?_
 refine hK13 _ _ ?_
 refine Wc.seq fun K14 hK14 => ?_
 refine Wc.cond (t := (decide (v10_0 < (l_0.length : Int)))) (rfl) (fun hq15 => ?_) (fun hq15 => ?_)
 replace hb := tt hq15 hb
 refine Wc.skip ?_
 refine hK14 _ _ ?_
 refine Wc.seq fun K16 hK16 => ?_
 refine Wc.block ?_
 refine Wc.seq fun K17 hK17 => ?_
 refine rg ?_
 obtain ⟨x18, h19, hb⟩ := bd hb
 obtain ⟨ad20, cs21, hA, hc22, hr23⟩ := hC.elr (i := 0) rfl (get_some h19).2
 subst hA
 refine lp (.pointer (some (ad20.add (v10_0.toNat * 1)))) (pu_index (a := v10_0) Try.underlying28 Try.sizeOf43 e8 e10 (get_some h19).1) ?_
 have hR := hr23
 obtain ⟨A24, c25, rfl, hl26, hc27, _⟩ := hr23
 replace hC := hC.ro hR
 clear hR
 refine lv (.slice A24 x18.length c25) (ld_one Try.isAgg43 rfl (hc22 0 _ rfl)) ?_
 refine lp (.slice A24 x18.length c25) (pu_assign rfl) ?_
 refine ln ?_
 refine hK17 _ _ ?_
 refine Wc.seq fun K29 hK29 => ?_
 refine rg ?_
 refine lp (.int .i64 v3_0) (pu_move e3) ?_
 refine lp (.slice A24 x18.length c25) (pu_move rfl) ?_
 refine lp (.int .i64 (x18.length : Int)) (pu_len (A := A24) (n := x18.length) (m := c25) Try.underlying43 rfl) ?_
 obtain ⟨z30, h31, hb⟩ := bd hb
 refine lp (.int .i64 z30) (pu_addc (a := v3_0) (b := (x18.length : Int)) rfl rfl h31) ?_
 refine lp (.int .i64 z30) (pu_assign rfl) ?_
 refine ln ?_
 refine hK29 _ _ ?_
 refine Wc.seq fun K32 hK32 => ?_
 refine Wc.seq fun K33 hK33 => ?_
 refine rg ?_
 refine lp (.slice A24 x18.length c25) (pu_move rfl) ?_
 refine lp (.int .i64 (x18.length : Int)) (pu_len (A := A24) (n := x18.length) (m := c25) Try.underlying43 rfl) ?_
 refine lp (.bool (decide ((x18.length : Int) < 3))) (pu_lss (k := .i64) (a := (x18.length : Int)) (b := 3) rfl rfl) ?_
 refine lp (.bool (decide ((x18.length : Int) < 3))) (pu_move rfl) ?_
 rcases bS (decide ((x18.length : Int) < 3)) with hq34 | hq34
 replace hb := tt hq34 hb
 refine gs rfl rfl (decide ((x18.length : Int) < 3)) rfl hq34 ?_
 refine gs rfl rfl (decide ((x18.length : Int) < 3)) rfl hq34 ?_
 refine lp (.bool true) (pu_pickT (q := (decide ((x18.length : Int) < 3))) rfl hq34 rfl) ?_
 refine ln ?_
 refine hK33 _ _ ?_
 refine Wc.cond_true (rfl) ?_
 refine Wc.seq fun K35 hK35 => ?_
 refine rg ?_
 refine lp (.bool false) (pu_assign rfl) ?_
 refine ln ?_
 refine hK35 _ _ ?_
 obtain rfl := os hb
 obtain rfl := (lX hl0).symm
 replace hb := hbK0
 obtain rfl := os hb
 refine Wc.ret ?_
 refine hKR _ _ ?_
 refine ⟨_, res1 Try.results51 (show RV _ _ _ (.tmp _) (.bool false) from rfl), _, rfl, rfl, hC.sel [] (by decide)⟩
 replace hb := tf hq34 hb
 refine gp rfl rfl (decide ((x18.length : Int) < 3)) rfl hq34 (.int .i64 z30) (pu_move rfl) ?_
 refine gp rfl rfl (decide ((x18.length : Int) < 3)) rfl hq34 (.bool (decide (100 < z30))) (pu_gtr (k := .i64) (a := z30) (b := 100) rfl rfl) ?_
 refine lp (.bool (decide (100 < z30))) (pu_pickF (q := (decide ((x18.length : Int) < 3))) rfl hq34 rfl) ?_
 refine ln ?_
 refine hK33 _ _ ?_
 refine Wc.cond (t := (decide (100 < z30))) (rfl) (fun hq36 => ?_) (fun hq36 => ?_)
 replace hb := tt hq36 hb
 refine Wc.seq fun K37 hK37 => ?_
 refine rg ?_
 refine lp (.bool false) (pu_assign rfl) ?_
 refine ln ?_
 refine hK37 _ _ ?_
 obtain rfl := os hb
 obtain rfl := (lX hl0).symm
 replace hb := hbK0
 obtain rfl := os hb
 refine Wc.ret ?_
 refine hKR _ _ ?_
 refine ⟨_, res1 Try.results51 (show RV _ _ _ (.tmp _) (.bool false) from rfl), _, rfl, rfl, hC.sel [] (by decide)⟩
 replace hb := tf hq36 hb
 refine Wc.skip ?_
 refine hK32 _ _ ?_
 refine Wc.fresh fun E38 hE => ?_
 have e2 := (congrFun hE 2).trans e2
 have e3 : E38 3 = .int .i64 z30 := (congrFun hE 3).trans rfl
 have e5 : E38 5 = .slice A24 x18.length c25 := (congrFun hE 5).trans rfl
 have e8 := (congrFun hE 8).trans e8
 have e9 := (congrFun hE 9).trans e9
 have e10 := (congrFun hE 10).trans e10
 have e11 : E38 11 = .bool (decide (v10_0 < (l_0.length : Int))) := (congrFun hE 11).trans rfl
 have e24 : E38 24 = .bool (decide (100 < z30)) := (congrFun hE 24).trans rfl
 clear hE
 refine Wc.seq fun K39 hK39 => ?_
 refine rg ?_
 refine lp (.slice A24 x18.length c25) (pu_move e5) ?_
 refine lp (.int .i64 (x18.length : Int)) (pu_len (A := A24) (n := x18.length) (m := c25) Try.underlying43 rfl) ?_
 refine lp (.int .i64 0) (pu_move rfl) ?_
 refine ln ?_
 refine hK39 _ _ ?_
 obtain ⟨o40, hl1, hb⟩ := bd hb
 refine Wc.cut (fun E wv => ∃ (v27_1 : Int), E 2 = .bool false ∧ E 3 = .int .i64 z30 ∧ E 5 = .slice A24 x18.length c25 ∧ E 8 = .slice (some ad20) l_0.length cl_0 ∧ E 9 = .int .i64 (l_0.length : Int) ∧ E 10 = .int .i64 v10_0 ∧ E 11 = .bool (decide (v10_0 < (l_0.length : Int))) ∧ E 24 = .bool (decide (100 < z30)) ∧ E 25 = .slice A24 x18.length c25 ∧ E 26 = .int .i64 (x18.length : Int) ∧ E 27 = .int .i64 v27_1 ∧ I64 v27_1 ∧ Cx (fun _ => False) O0 w wv [.ro (.sl (.pr (.int .i64) (.pr (.int .i64) (.int .i64)))) [.slice A24 x18.length c25] x18, .ro (.sl (.sl (.pr (.int .i64) (.pr (.int .i64) (.int .i64))))) [.slice (some ad20) l_0.length cl_0] l_0] ∧ ((chk (v10_0 + 1)).bind fun z80 => some (.inl (z30, z80)) : Option ((Int × Int) ⊕ ((Int × Int) ⊕ (Bool)))) = some o12) (fun K41 hK41 => ?_) ?_
 refine Wc.block ?_
 refine Wc.loop (fun m E wv => ∃ (v27_1 : Int), E 2 = .bool false ∧ E 3 = .int .i64 z30 ∧ E 5 = .slice A24 x18.length c25 ∧ E 8 = .slice (some ad20) l_0.length cl_0 ∧ E 9 = .int .i64 (l_0.length : Int) ∧ E 10 = .int .i64 v10_0 ∧ E 11 = .bool (decide (v10_0 < (l_0.length : Int))) ∧ E 24 = .bool (decide (100 < z30)) ∧ E 25 = .slice A24 x18.length c25 ∧ E 26 = .int .i64 (x18.length : Int) ∧ E 27 = .int .i64 v27_1 ∧ I64 v27_1 ∧ Cx (fun _ => False) O0 w wv [.ro (.sl (.pr (.int .i64) (.pr (.int .i64) (.int .i64)))) [.slice A24 x18.length c25] x18, .ro (.sl (.sl (.pr (.int .i64) (.pr (.int .i64) (.int .i64))))) [.slice (some ad20) l_0.length cl_0] l_0] ∧ loopN m (F.polygon_valid_b1 n x18) v27_1 = some o40) n ⟨0, e2, e3, e5, e8, e9, e10, e11, e24, rfl, rfl, rfl, (show I64 0 from by unfold I64; omega), hC.sel [0, 1] (by decide), hl1⟩ ?_
 have hbK1 := hb
 clear hb hC hl1
 rintro m43 E45 w44 ⟨v27_1, e2, e3, e5, e8, e9, e10, e11, e24, e25, e26, e27, hrv27_1, hC, hl1⟩ K42 hK42
 obtain ⟨m43', o46, rfl, hb, hl1⟩ := loopN_some hl1
 unfold F.polygon_valid_b1 at hb
 refine Wc.seq fun K47 hK47 => ?_
 refine rg ?_
 refine lp (.bool (decide (v27_1 < (x18.length : Int)))) (pu_lss (k := .i64) (a := v27_1) (b := (x18.length : Int)) e27 e26) ?_
 refine ln ?_
 refine hK47 _ _ ?_
 refine Wc.seq fun K48 hK48 => ?_
 refine Wc.cond (t := (decide (v27_1 < (x18.length : Int)))) (rfl) (fun hq49 => ?_) (fun hq49 => ?_)
 replace hb := tt hq49 hb
 refine Wc.skip ?_
 refine hK48 _ _ ?_
 refine Wc.seq fun K50 hK50 => ?_
 refine Wc.block ?_
 refine Wc.seq fun K51 hK51 => ?_
 refine rg ?_
 obtain ⟨x52, h53, hb⟩ := bd hb
 obtain ⟨ad54, cs55, hA, hc56, hr57⟩ := hC.elr (i := 0) rfl (get_some h53).2
 subst hA
 refine lp (.pointer (some (ad54.add (v27_1.toNat * 3)))) (pu_index (a := v27_1) Try.underlying43 Try.sizeOf23 e25 e27 (get_some h53).1) ?_
 obtain ⟨k58, k59, rfl, hr60, hr61⟩ := hr57
 obtain ⟨rfl, hr60⟩ := hr60
 obtain ⟨k62, k63, rfl, hr64, hr65⟩ := hr61
 obtain ⟨rfl, hr64⟩ := hr64
 obtain ⟨rfl, hr65⟩ := hr65
 refine lv (.agg #[.int .i64 x52.1, .int .i64 x52.2.1, .int .i64 x52.2.2]) (ld_agg Try.isAgg23 Try.sizeOf23 rfl rfl hc56) ?_
 refine lex.op (hC.alloc (cs := [.int .i64 0, .int .i64 0, .int .i64 0]) Try.zeroValue23 rfl) ?_
 rintro _ w67 ⟨g66, rfl, hC, hF, hG⟩
 clear hG
 refine lex.sk (hC.seta (i := 0) (ds := [.int .i64 x52.1, .int .i64 x52.2.1, .int .i64 x52.2.2]) rfl Try.type23 rfl rfl rfl rfl rfl) ?_
 rintro w69 ⟨hC, hF⟩
 refine ln ?_
 refine hK51 _ _ ?_
 refine Wc.seq fun K70 hK70 => ?_
 refine rg ?_
 refine lv (.agg #[.int .i64 x52.1, .int .i64 x52.2.1, .int .i64 x52.2.2]) (ld_blk (hC.bx (i := 0) rfl) Try.isAgg23 Try.sizeOf23 rfl) ?_
 obtain ⟨y71, h72, hb⟩ := bd hb
 refine lex.cl (⟨_, _, op_call (vs := [.agg #[.int .i64 x52.1, .int .i64 x52.2.1, .int .i64 x52.2.2]]) Try.call43 rfl rfl rfl, polygon_within_ok n hC.lt (wrap_I64 hr60) (wrap_I64 hr64) (wrap_I64 hr65) h72⟩) ?_
 rintro _ w73 ⟨rfl, hK⟩
 replace hC := hC.merge hK
 clear hK
 refine lp (.bool (!y71)) (pu_not (q := y71) rfl) ?_
 refine ln ?_
 refine hK70 _ _ ?_
 refine Wc.cond (t := (!y71)) (rfl) (fun hq74 => ?_) (fun hq74 => ?_)
 replace hb := tt hq74 hb
 refine Wc.seq fun K75 hK75 => ?_
 refine rg ?_
 refine lp (.bool false) (pu_assign rfl) ?_
 refine ln ?_
 refine hK75 _ _ ?_
 obtain rfl := os hb
 obtain rfl := (lX hl1).symm
 replace hb := hbK1
 obtain rfl := os hb
 obtain rfl := (lX hl0).symm
 replace hb := hbK0
 obtain rfl := os hb
 refine Wc.ret ?_
 refine hKR _ _ ?_
 refine ⟨_, res1 Try.results51 (show RV _ _ _ (.tmp _) (.bool false) from rfl), _, rfl, rfl, hC.sel [] (by decide)⟩
 replace hb := tf hq74 hb
 refine Wc.skip ?_
 refine hK50 _ _ ?_
 refine rg ?_
 obtain ⟨z76, h77, hb⟩ := bd hb
 refine lp (.int .i64 z76) (pu_addc (a := v27_1) (b := 1) e27 rfl h77) ?_
 refine lp (.int .i64 z76) (pu_move rfl) ?_
 refine ln ?_
 obtain rfl := os hb
 exact hK42 m43' _ _ (Nat.lt_succ_self _) ⟨z76, e2, e3, e5, e8, e9, e10, e11, e24, e25, e26, rfl, (chk_rng h77), hC.sel [1, 2] (by decide), lN hl1⟩
 replace hb := tf hq49 hb
 refine Wc.exit rfl ?_
 obtain rfl := os hb
 obtain rfl := (lX hl1).symm
 exact hK41 _ _ ⟨v27_1, e2, e3, e5, e8, e9, e10, e11, e24, e25, e26, e27, hrv27_1, hC.sel [0, 1] (by decide), hbK1⟩
 clear hb hC hl1
 rintro E79 w78 ⟨v27_1, e2, e3, e5, e8, e9, e10, e11, e24, e25, e26, e27, hrv27_1, hC, hb⟩
 refine hK16 _ _ ?_
 refine rg ?_
 obtain ⟨z80, h81, hb⟩ := bd hb
 refine lp (.int .i64 z80) (pu_addc (a := v10_0) (b := 1) e10 rfl h81) ?_
 refine lp (.int .i64 z80) (pu_move rfl) ?_
 refine ln ?_
 obtain rfl := os hb
 exact hK8 m9' _ _ (Nat.lt_succ_self _) ⟨z30, z80, e2, e3, e8, e9, rfl, (chk_rng h31), (chk_rng h81), hC.sel [1] (by decide), lN hl0⟩
 replace hb := tf hq15 hb
 refine Wc.exit rfl ?_
 obtain rfl := os hb
 obtain rfl := (lX hl0).symm
 exact hK7 _ _ ⟨v3_0, v10_0, e2, hrv3_0, hrv10_0, hC.sel [] (by decide), hbK0⟩
 clear hb hC hl0
 rintro E83 w82 ⟨v3_0, v10_0, e2, hrv3_0, hrv10_0, hC, hb⟩
 refine hK4 _ _ ?_
 refine Wc.seq fun K84 hK84 => ?_
 refine rg ?_
 refine lp (.bool true) (pu_assign rfl) ?_
 refine ln ?_
 refine hK84 _ _ ?_
 obtain rfl := os hb
 refine Wc.ret ?_
 refine hKR _ _ ?_
 refine ⟨_, res1 Try.results51 (show RV _ _ _ (.tmp _) (.bool true) from rfl), _, rfl, rfl, hC.sel [] (by decide)⟩

set_option maxRecDepth 100000 in
set_option maxHeartbeats 4000000 in
theorem polygon_edges_ok (n : Nat) {w : World} {O0 : List Nat} (hO : ∀ k ∈ O0, k < w.heap.size) {Al_0 : Option Addr} {ml_0 cl_0 : Nat} {l_0 : List (List (Int × (Int × Int)))} (hl_0 : Rep O0 w (.sl (.sl (.pr (.int .i64) (.pr (.int .i64) (.int .i64))))) [.slice Al_0 ml_0 cl_0] l_0) {r : (List ((Int × (Int × Int)) × ((Int × (Int × Int)) × (Int × Int))))} (hb : F.polygon_edges n l_0 = some r) :
    Calls Try.prog 52 #[.slice Al_0 ml_0 cl_0] w fun e w' => ∃ v, e = .returned v ∧ ∃ (A0 : Option Addr) (m0 c0 : Nat), v = .slice A0 m0 c0 ∧ Cx (fun _ => False) O0 w w' [.own 105 (.pr (.pr (.int .i64) (.pr (.int .i64) (.int .i64))) (.pr (.pr (.int .i64) (.pr (.int .i64) (.int .i64))) (.pr (.int .i64) (.int .i64)))) (.slice A0 m0 c0) r] := by
 unfold F.polygon_edges at hb
 have hC := Cx.start hO
 replace hC := hC.arg rfl hl_0
 clear hO
 obtain ⟨rfl, hll_0, hcl_0⟩ := hl_0.sl_len
 refine calls_of_Wc Try.func52 rfl (by rw [Try.ntmps52]; exact Nat.le_of_ble_eq_true rfl) fun KR hKR => ?_
 refine Wc.seq fun K2 hK2 => ?_
 refine rg ?_
 refine lp (.slice none 0 0) (pu_assign rfl) ?_
 refine ln ?_
 refine hK2 _ _ ?_
 refine Wc.seq fun K3 hK3 => ?_
 refine rg ?_
 refine lp (.slice none 0 0) (pu_assign rfl) ?_
 refine ln ?_
 refine hK3 _ _ ?_
 refine Wc.seq fun K4 hK4 => ?_
 refine Wc.seq fun K5 hK5 => ?_
 refine rg ?_
 refine lp (.slice Al_0 l_0.length cl_0) (pu_move rfl) ?_
 refine lp (.int .i64 (l_0.length : Int)) (pu_len (A := Al_0) (n := l_0.length) (m := cl_0) Try.underlying28 rfl) ?_
 refine lp (.int .i64 0) (pu_move rfl) ?_
 refine ln ?_
 refine hK5 _ _ ?_
 replace hC := hC.nil 105 (.pr (.pr (.int .i64) (.pr (.int .i64) (.int .i64))) (.pr (.pr (.int .i64) (.pr (.int .i64) (.int .i64))) (.pr (.int .i64) (.int .i64))))
 obtain ⟨o7, hl0, hb⟩ := bd hb
 refine Wc.cut (fun E wv => ∃ (l3_0 : List ((Int × (Int × Int)) × ((Int × (Int × Int)) × (Int × Int)))) (v12_0 : Int) (Al3_0 : Option Addr) (ml3_0 cl3_0 : Nat), E 2 = .slice none 0 0 ∧ E 3 = .slice Al3_0 ml3_0 cl3_0 ∧ I64 v12_0 ∧ Cx (fun _ => False) O0 w wv [.own 105 (.pr (.pr (.int .i64) (.pr (.int .i64) (.int .i64))) (.pr (.pr (.int .i64) (.pr (.int .i64) (.int .i64))) (.pr (.int .i64) (.int .i64)))) (.slice Al3_0 ml3_0 cl3_0) l3_0] ∧ (some l3_0 : Option ((List ((Int × (Int × Int)) × ((Int × (Int × Int)) × (Int × Int)))))) = some r) (fun K8 hK8 => ?_) ?_
 refine Wc.block ?_
 refine Wc.loop (fun m E wv => ∃ (l3_0 : List ((Int × (Int × Int)) × ((Int × (Int × Int)) × (Int × Int)))) (v12_0 : Int) (Al3_0 : Option Addr) (ml3_0 cl3_0 : Nat), E 2 = .slice none 0 0 ∧ E 3 = .slice Al3_0 ml3_0 cl3_0 ∧ E 10 = .slice Al_0 l_0.length cl_0 ∧ E 11 = .int .i64 (l_0.length : Int) ∧ E 12 = .int .i64 v12_0 ∧ I64 v12_0 ∧ Cx (fun _ => False) O0 w wv [.own 105 (.pr (.pr (.int .i64) (.pr (.int .i64) (.int .i64))) (.pr (.pr (.int .i64) (.pr (.int .i64) (.int .i64))) (.pr (.int .i64) (.int .i64)))) (.slice Al3_0 ml3_0 cl3_0) l3_0, .ro (.sl (.sl (.pr (.int .i64) (.pr (.int .i64) (.int .i64))))) [.slice Al_0 l_0.length cl_0] l_0] ∧ loopN m (F.polygon_edges_b0 n l_0) (l3_0, v12_0) = some o7) n ⟨([] : List ((Int × (Int × Int)) × ((Int × (Int × Int)) × (Int × Int)))), 0, none, 0, 0, rfl, rfl, rfl, rfl, rfl, (show I64 0 from by unfold I64; omega), hC.sel [0, 1] (by decide), hl0⟩ ?_
 have hbK0 := hb
 clear hb hC hl0
 rintro m10 E12 w11 ⟨l3_0, v12_0, Al3_0, ml3_0, cl3_0, e2, e3, e10, e11, e12, hrv12_0, hC, hl0⟩ K9 hK9
 obtain ⟨m10', o13, rfl, hb, hl0⟩ := loopN_some hl0
 unfold F.polygon_edges_b0 at hb
 obtain ⟨rfl, hll3_0, hcl3_0⟩ := (hC.ow (i := 0) rfl).sl_len
 refine Wc.seq fun K14 hK14 => ?_
 refine rg ?_
 refine lp (.bool (decide (v12_0 < (l_0.length : Int)))) (pu_lss (k := .i64) (a := v12_0) (b := (l_0.length : Int)) e12 e11) ?_
 refine ln ?_
 refine hK14 _ _ ?_
 refine Wc.seq fun K15 hK15 => ?_
 refine Wc.cond (t := (decide (v12_0 < (l_0.length : Int)))) (rfl) (fun hq16 => ?_) (fun hq16 => ?_)
 replace hb := tt hq16 hb
 refine Wc.skip ?_
 refine hK15 _ _ ?_
 refine Wc.seq fun K17 hK17 => ?_
 refine Wc.block ?_
 refine Wc.seq fun K18 hK18 => ?_
 refine rg ?_
 obtain ⟨x19, h20, hb⟩ := bd hb
 obtain ⟨ad21, cs22, hA, hc23, hr24⟩ := hC.elr (i := 1) rfl (get_some h20).2
 subst hA
 refine lp (.pointer (some (ad21.add (v12_0.toNat * 1)))) (pu_index (a := v12_0) Try.underlying28 Try.sizeOf43 e10 e12 (get_some h20).1) ?_
 have hR := hr24
 obtain ⟨A25, c26, rfl, hl27, hc28, _⟩ := hr24
 replace hC := hC.ro hR
 clear hR
 refine lv (.slice A25 x19.length c26) (ld_one Try.isAgg43 rfl (hc23 0 _ rfl)) ?_
 refine lp (.slice A25 x19.length c26) (pu_assign rfl) ?_
 refine ln ?_
 refine hK18 _ _ ?_
 refine Wc.seq fun K30 hK30 => ?_
 refine rg ?_
 refine lp (.slice Al3_0 l3_0.length cl3_0) (pu_move e3) ?_
 refine lp (.int .i64 (l3_0.length : Int)) (pu_len (A := Al3_0) (n := l3_0.length) (m := cl3_0) Try.underlying68 rfl) ?_
 refine lp (.int .i64 (l3_0.length : Int)) (pu_assign rfl) ?_
 refine ln ?_
 refine hK30 _ _ ?_
 refine Wc.seq fun K31 hK31 => ?_
 refine rg ?_
 refine lp (.slice A25 x19.length c26) (pu_move rfl) ?_
 refine lp (.int .i64 (x19.length : Int)) (pu_len (A := A25) (n := x19.length) (m := c26) Try.underlying43 rfl) ?_
 refine lp (.int .i64 0) (pu_move rfl) ?_
 refine ln ?_
 refine hK31 _ _ ?_
 refine Wc.fresh fun E32 hE => ?_
 have e2 := (congrFun hE 2).trans e2
 have e3 := (congrFun hE 3).trans e3
 have e5 : E32 5 = .slice A25 x19.length c26 := (congrFun hE 5).trans rfl
 have e6 : E32 6 = .int .i64 (l3_0.length : Int) := (congrFun hE 6).trans rfl
 have e10 := (congrFun hE 10).trans e10
 have e11 := (congrFun hE 11).trans e11
 have e12 := (congrFun hE 12).trans e12
 have e13 : E32 13 = .bool (decide (v12_0 < (l_0.length : Int))) := (congrFun hE 13).trans rfl
 have e18 : E32 18 = .slice A25 x19.length c26 := (congrFun hE 18).trans rfl
 have e19 : E32 19 = .int .i64 (x19.length : Int) := (congrFun hE 19).trans rfl
 have e20 : E32 20 = .int .i64 0 := (congrFun hE 20).trans rfl
 clear hE
 obtain ⟨o33, hl1, hb⟩ := bd hb
 refine Wc.cut (fun E wv => ∃ (l3_1 : List ((Int × (Int × Int)) × ((Int × (Int × Int)) × (Int × Int)))) (v20_1 : Int) (Al3_1 : Option Addr) (ml3_1 cl3_1 : Nat), E 2 = .slice none 0 0 ∧ E 3 = .slice Al3_1 ml3_1 cl3_1 ∧ E 5 = .slice A25 x19.length c26 ∧ E 6 = .int .i64 (l3_0.length : Int) ∧ E 10 = .slice (some ad21) l_0.length cl_0 ∧ E 11 = .int .i64 (l_0.length : Int) ∧ E 12 = .int .i64 v12_0 ∧ E 13 = .bool (decide (v12_0 < (l_0.length : Int))) ∧ E 18 = .slice A25 x19.length c26 ∧ E 19 = .int .i64 (x19.length : Int) ∧ E 20 = .int .i64 v20_1 ∧ I64 v20_1 ∧ Cx (fun _ => False) O0 w wv [.own 105 (.pr (.pr (.int .i64) (.pr (.int .i64) (.int .i64))) (.pr (.pr (.int .i64) (.pr (.int .i64) (.int .i64))) (.pr (.int .i64) (.int .i64)))) (.slice Al3_1 ml3_1 cl3_1) l3_1, .ro (.sl (.pr (.int .i64) (.pr (.int .i64) (.int .i64)))) [.slice A25 x19.length c26] x19, .ro (.sl (.sl (.pr (.int .i64) (.pr (.int .i64) (.int .i64))))) [.slice (some ad21) l_0.length cl_0] l_0] ∧ ((chk (v12_0 + 1)).bind fun z107 => some (.inl (l3_1, z107)) : Option (((List ((Int × (Int × Int)) × ((Int × (Int × Int)) × (Int × Int)))) × Int) ⊕ (((List ((Int × (Int × Int)) × ((Int × (Int × Int)) × (Int × Int)))) × Int)))) = some o13) (fun K34 hK34 => ?_) ?_
 refine Wc.block ?_
 refine Wc.loop (fun m E wv => ∃ (l3_1 : List ((Int × (Int × Int)) × ((Int × (Int × Int)) × (Int × Int)))) (v20_1 : Int) (Al3_1 : Option Addr) (ml3_1 cl3_1 : Nat), E 2 = .slice none 0 0 ∧ E 3 = .slice Al3_1 ml3_1 cl3_1 ∧ E 5 = .slice A25 x19.length c26 ∧ E 6 = .int .i64 (l3_0.length : Int) ∧ E 10 = .slice (some ad21) l_0.length cl_0 ∧ E 11 = .int .i64 (l_0.length : Int) ∧ E 12 = .int .i64 v12_0 ∧ E 13 = .bool (decide (v12_0 < (l_0.length : Int))) ∧ E 18 = .slice A25 x19.length c26 ∧ E 19 = .int .i64 (x19.length : Int) ∧ E 20 = .int .i64 v20_1 ∧ I64 v20_1 ∧ Cx (fun _ => False) O0 w wv [.own 105 (.pr (.pr (.int .i64) (.pr (.int .i64) (.int .i64))) (.pr (.pr (.int .i64) (.pr (.int .i64) (.int .i64))) (.pr (.int .i64) (.int .i64)))) (.slice Al3_1 ml3_1 cl3_1) l3_1, .ro (.sl (.pr (.int .i64) (.pr (.int .i64) (.int .i64)))) [.slice A25 x19.length c26] x19, .ro (.sl (.sl (.pr (.int .i64) (.pr (.int .i64) (.int .i64))))) [.slice (some ad21) l_0.length cl_0] l_0] ∧ loopN m (F.polygon_edges_b1 n l3_0 x19) (l3_1, v20_1) = some o33) n ⟨l3_0, 0, Al3_0, l3_0.length, cl3_0, e2, e3, e5, e6, e10, e11, e12, e13, e18, e19, e20, (show I64 0 from by unfold I64; omega), hC.sel [1, 0, 2] (by decide), hl1⟩ ?_
 have hbK1 := hb
 clear hb hC hl1
 rintro m36 E38 w37 ⟨l3_1, v20_1, Al3_1, ml3_1, cl3_1, e2, e3, e5, e6, e10, e11, e12, e13, e18, e19, e20, hrv20_1, hC, hl1⟩ K35 hK35
 obtain ⟨m36', o39, rfl, hb, hl1⟩ := loopN_some hl1
 unfold F.polygon_edges_b1 at hb
 obtain ⟨rfl, hll3_1, hcl3_1⟩ := (hC.ow (i := 0) rfl).sl_len
 refine Wc.seq fun K40 hK40 => ?_
 refine rg ?_
 refine lp (.bool (decide (v20_1 < (x19.length : Int)))) (pu_lss (k := .i64) (a := v20_1) (b := (x19.length : Int)) e20 e19) ?_
 refine ln ?_
 refine hK40 _ _ ?_
 refine Wc.seq fun K41 hK41 => ?_
 refine Wc.cond (t := (decide (v20_1 < (x19.length : Int)))) (rfl) (fun hq42 => ?_) (fun hq42 => ?_)
 replace hb := tt hq42 hb
 refine Wc.skip ?_
 refine hK41 _ _ ?_
 refine Wc.seq fun K43 hK43 => ?_
 refine Wc.block ?_
 refine Wc.seq fun K44 hK44 => ?_
 refine rg ?_
 refine lp (.int .i64 v20_1) (pu_move e20) ?_
 obtain ⟨x45, h46, hb⟩ := bd hb
 obtain ⟨ad47, cs48, hA, hc49, hr50⟩ := hC.elr (i := 1) rfl (get_some h46).2
 subst hA
 refine lp (.pointer (some (ad47.add (v20_1.toNat * 3)))) (pu_index (a := v20_1) Try.underlying43 Try.sizeOf23 e18 e20 (get_some h46).1) ?_
 obtain ⟨k51, k52, rfl, hr53, hr54⟩ := hr50
 obtain ⟨rfl, hr53⟩ := hr53
 obtain ⟨k55, k56, rfl, hr57, hr58⟩ := hr54
 obtain ⟨rfl, hr57⟩ := hr57
 obtain ⟨rfl, hr58⟩ := hr58
 refine lv (.agg #[.int .i64 x45.1, .int .i64 x45.2.1, .int .i64 x45.2.2]) (ld_agg Try.isAgg23 Try.sizeOf23 rfl rfl hc49) ?_
 refine lex.op (hC.alloc (cs := [.int .i64 0, .int .i64 0, .int .i64 0]) Try.zeroValue23 rfl) ?_
 rintro _ w60 ⟨g59, rfl, hC, hF, hG⟩
 clear hG
 refine lp (.int .i64 v20_1) (pu_assign rfl) ?_
 refine lex.sk (hC.seta (i := 0) (ds := [.int .i64 x45.1, .int .i64 x45.2.1, .int .i64 x45.2.2]) rfl Try.type23 rfl rfl rfl rfl rfl) ?_
 rintro w62 ⟨hC, hF⟩
 refine ln ?_
 refine hK44 _ _ ?_
 refine Wc.seq fun K63 hK63 => ?_
 refine rg ?_
 refine lp (.int .i64 v20_1) (pu_move rfl) ?_
 obtain ⟨z64, h65, hb⟩ := bd hb
 refine lp (.int .i64 z64) (pu_addc (a := v20_1) (b := 1) rfl rfl h65) ?_
 refine lp (.slice (some ad47) x19.length c26) (pu_move e5) ?_
 refine lp (.int .i64 (x19.length : Int)) (pu_len (A := (some ad47)) (n := x19.length) (m := c26) Try.underlying43 rfl) ?_
 obtain ⟨u66, h67, hb⟩ := bd hb
 refine lp (.int .i64 (Int.tmod z64 (x19.length : Int))) (pu_remc (a := z64) (b := (x19.length : Int)) rfl rfl h67) ?_
 refine lp (.int .i64 (Int.tmod z64 (x19.length : Int))) (pu_assign rfl) ?_
 refine ln ?_
 refine hK63 _ _ ?_
 refine Wc.fresh fun E68 hE => ?_
 have e2 := (congrFun hE 2).trans e2
 have e3 := (congrFun hE 3).trans e3
 have e5 := (congrFun hE 5).trans e5
 have e6 := (congrFun hE 6).trans e6
 have e7 : E68 7 = .int .i64 v20_1 := (congrFun hE 7).trans rfl
 have e8 : E68 8 = .pointer (some ⟨g59, 0, none⟩) := (congrFun hE 8).trans rfl
 have e9 : E68 9 = .int .i64 (Int.tmod z64 (x19.length : Int)) := (congrFun hE 9).trans rfl
 have e10 := (congrFun hE 10).trans e10
 have e11 := (congrFun hE 11).trans e11
 have e12 := (congrFun hE 12).trans e12
 have e13 := (congrFun hE 13).trans e13
 have e18 := (congrFun hE 18).trans e18
 have e19 := (congrFun hE 19).trans e19
 have e20 := (congrFun hE 20).trans e20
 have e21 : E68 21 = .bool (decide (v20_1 < (x19.length : Int))) := (congrFun hE 21).trans rfl
 clear hE
 refine Wc.regionMix [] (frm [] [.own 105 (.pr (.pr (.int .i64) (.pr (.int .i64) (.int .i64))) (.pr (.pr (.int .i64) (.pr (.int .i64) (.int .i64))) (.pr (.int .i64) (.int .i64)))) (.slice Al3_1 l3_1.length cl3_1) l3_1] ([] : List Fact)) (fun _ => rfl) mixed (by decide +kernel) (by decide +kernel) fun w70 hw69 => ?_
 replace hC := hC.step (Fr.of_drew hw69)
 have hM := Fr.refl (fun k => k ∈ blocks [.own 105 (.pr (.pr (.int .i64) (.pr (.int .i64) (.int .i64))) (.pr (.pr (.int .i64) (.pr (.int .i64) (.int .i64))) (.pr (.int .i64) (.int .i64)))) (.slice Al3_1 l3_1.length cl3_1) l3_1]) w70
 clear hw69
 have hS := hC
 have hBF3_1 : Beside [.own 105 (.pr (.pr (.int .i64) (.pr (.int .i64) (.int .i64))) (.pr (.pr (.int .i64) (.pr (.int .i64) (.int .i64))) (.pr (.int .i64) (.int .i64)))) (.slice Al3_1 l3_1.length cl3_1) l3_1] w70 (.slice Al3_1 l3_1.length cl3_1) := Beside.of (i := 0) rfl
 refine mp (.slice Al3_1 l3_1.length cl3_1) (pu_move e3) ?_
 refine mixE.load hM (v := .agg #[.int .i64 x45.1, .int .i64 x45.2.1, .int .i64 x45.2.2]) (fun _ hF => ld_blk (hS.bx2 (i := 0) rfl [1] (by decide) hF) Try.isAgg23 Try.sizeOf23 e8) ?_
 refine mp (.slice (some ad47) x19.length c26) (pu_move e5) ?_
 refine mp (.int .i64 (Int.tmod z64 (x19.length : Int))) (pu_move e9) ?_
 obtain ⟨x71, h72, hb⟩ := bd hb
 obtain ⟨ad73, cs74, hA, ho77, hc75, hr76⟩ := hS.elr2 (i := 2) rfl (get_some h72).2 [1]
 obtain rfl := Option.some.inj hA
 refine mp (.pointer (some (ad47.add ((Int.tmod z64 (x19.length : Int)).toNat * 3)))) (pu_index (a := (Int.tmod z64 (x19.length : Int))) Try.underlying43 Try.sizeOf23 rfl rfl (get_some h72).1) ?_
 obtain ⟨k78, k79, rfl, hr80, hr81⟩ := hr76
 obtain ⟨rfl, hr80⟩ := hr80
 obtain ⟨k82, k83, rfl, hr84, hr85⟩ := hr81
 obtain ⟨rfl, hr84⟩ := hr84
 obtain ⟨rfl, hr85⟩ := hr85
 refine mixE.load hM (v := .agg #[.int .i64 x71.1, .int .i64 x71.2.1, .int .i64 x71.2.2]) (fun _ hF => ld_agg Try.isAgg23 Try.sizeOf23 rfl rfl (fun j u hu => hF.cell (hc75 j u hu) (off2 ho77))) ?_
 refine mp (.int .i64 (l3_0.length : Int)) (pu_move e6) ?_
 refine mp (.int .i64 v20_1) (pu_move e7) ?_
 obtain ⟨z86, h87, hb⟩ := bd hb
 refine mp (.int .i64 z86) (pu_addc (a := (l3_0.length : Int)) (b := v20_1) rfl rfl h87) ?_
 refine mp (.int .i64 (l3_0.length : Int)) (pu_move e6) ?_
 refine mp (.int .i64 (Int.tmod z64 (x19.length : Int))) (pu_move e9) ?_
 obtain ⟨z88, h89, hb⟩ := bd hb
 refine mp (.int .i64 z88) (pu_addc (a := (l3_0.length : Int)) (b := (Int.tmod z64 (x19.length : Int))) rfl rfl h89) ?_
 refine mp (.agg #[.int .i64 x45.1, .int .i64 x45.2.1, .int .i64 x45.2.2, .int .i64 x71.1, .int .i64 x71.2.1, .int .i64 x71.2.2, .int .i64 z86, .int .i64 z88]) (pu_builds (places := [(0, 3), (3, 3), (6, 1), (7, 1)]) (pv := [(0, .agg #[.int .i64 x45.1, .int .i64 x45.2.1, .int .i64 x45.2.2]), (1, .agg #[.int .i64 x71.1, .int .i64 x71.2.1, .int .i64 x71.2.2]), (2, .int .i64 z86), (3, .int .i64 z88)]) Try.type105 Try.underlying105 rfl (mp_cons Try.type23 (mp_cons Try.type23 (mp_cons Try.type3 (mp_cons Try.type3 mp_nil rfl rfl) rfl rfl) rfl rfl) rfl rfl) rfl (by simp [Instr.fill, Value.cells])) ?_
 refine mixE.op hM (hC.lit (s := (.pr (.pr (.int .i64) (.pr (.int .i64) (.int .i64))) (.pr (.pr (.int .i64) (.pr (.int .i64) (.int .i64))) (.pr (.int .i64) (.int .i64))))) (vs := [.agg #[.int .i64 x45.1, .int .i64 x45.2.1, .int .i64 x45.2.2, .int .i64 x71.1, .int .i64 x71.2.1, .int .i64 x71.2.2, .int .i64 z86, .int .i64 z88]]) (xs := [((x45.1, (x45.2.1, x45.2.2)), ((x71.1, (x71.2.1, x71.2.2)), (z86, z88)))]) Try.underlying68 Try.type105 rfl rfl (Nat.le_of_ble_eq_true rfl) rfl rfl (by simp [Value.cells, Sh.n]) rfl (show Elems _ _ (.pr (.pr (.int .i64) (.pr (.int .i64) (.int .i64))) (.pr (.pr (.int .i64) (.pr (.int .i64) (.int .i64))) (.pr (.int .i64) (.int .i64)))) ([.int .i64 x45.1, .int .i64 x45.2.1, .int .i64 x45.2.2, .int .i64 x71.1, .int .i64 x71.2.1, .int .i64 x71.2.2, .int .i64 z86, .int .i64 z88] ++ ([])) ([((x45.1, (x45.2.1, x45.2.2)), ((x71.1, (x71.2.1, x71.2.2)), (z86, z88)))] : List ((Int × (Int × Int)) × ((Int × (Int × Int)) × (Int × Int)))) from Elems.cons (⟨[.int .i64 x45.1, .int .i64 x45.2.1, .int .i64 x45.2.2], [.int .i64 x71.1, .int .i64 x71.2.1, .int .i64 x71.2.2, .int .i64 z86, .int .i64 z88], rfl, ⟨[.int .i64 x45.1], [.int .i64 x45.2.1, .int .i64 x45.2.2], rfl, ⟨rfl, I64.wr (wrap_I64 hr53)⟩, ⟨[.int .i64 x45.2.1], [.int .i64 x45.2.2], rfl, ⟨rfl, I64.wr (wrap_I64 hr57)⟩, ⟨rfl, I64.wr (wrap_I64 hr58)⟩⟩⟩, ⟨[.int .i64 x71.1, .int .i64 x71.2.1, .int .i64 x71.2.2], [.int .i64 z86, .int .i64 z88], rfl, ⟨[.int .i64 x71.1], [.int .i64 x71.2.1, .int .i64 x71.2.2], rfl, ⟨rfl, I64.wr (wrap_I64 hr80)⟩, ⟨[.int .i64 x71.2.1], [.int .i64 x71.2.2], rfl, ⟨rfl, I64.wr (wrap_I64 hr84)⟩, ⟨rfl, I64.wr (wrap_I64 hr85)⟩⟩⟩, ⟨[.int .i64 z86], [.int .i64 z88], rfl, ⟨rfl, I64.wr (chk_rng h87)⟩, ⟨rfl, I64.wr (chk_rng h89)⟩⟩⟩⟩) (Elems.nil _ _ _))) ?_
 rintro _ w94 ⟨A90, c91, rfl, hl92, hc93, hC, hF, hN⟩
 have hBf95 := Beside.new hM hN
 replace hM := hM.none hF
 refine ⟨hM, ?_⟩
 clear hF hN
 obtain ⟨u96, h97, hb⟩ := bd hb
 refine mixE.op hM (hC.app (i := 2) (s := (.pr (.pr (.int .i64) (.pr (.int .i64) (.int .i64))) (.pr (.pr (.int .i64) (.pr (.int .i64) (.int .i64))) (.pr (.int .i64) (.int .i64))))) (xs := l3_1) (ys := ([((x45.1, (x45.2.1, x45.2.2)), ((x71.1, (x71.2.1, x71.2.2)), (z86, z88)))] : List ((Int × (Int × Int)) × ((Int × (Int × Int)) × (Int × Int))))) (m := ((([((x45.1, (x45.2.1, x45.2.2)), ((x71.1, (x71.2.1, x71.2.2)), (z86, z88)))] : List ((Int × (Int × Int)) × ((Int × (Int × Int)) × (Int × Int))))).length)) rfl Try.underlying68 Try.underlying68 Try.type105 rfl rfl rfl (hC.srco (i := 0) rfl) rfl rfl (by have := lim_some h97; simp at this ⊢ <;> omega) (by decide)) ?_
 rintro _ w102 ⟨A98, c99, rfl, hl100, hc101, hC, hF, hN⟩
 have hB := hBF3_1
 replace hBF3_1 := hB.app hM hN
 replace hM := hM.beside hB hF
 clear hB
 refine ⟨hM, ?_⟩
 clear hF hN
 refine mp (.slice A98 ((l3_1 ++ ([((x45.1, (x45.2.1, x45.2.2)), ((x71.1, (x71.2.1, x71.2.2)), (z86, z88)))] : List ((Int × (Int × Int)) × ((Int × (Int × Int)) × (Int × Int))))).length) c99) (pu_assign rfl) ?_
 refine mixE.nil ?_
 clear hS hM
 refine hK43 _ _ ?_
 refine rg ?_
 obtain ⟨z103, h104, hb⟩ := bd hb
 refine lp (.int .i64 z103) (pu_addc (a := v20_1) (b := 1) e20 rfl h104) ?_
 refine lp (.int .i64 z103) (pu_move rfl) ?_
 refine ln ?_
 obtain rfl := os hb
 exact hK35 m36' _ _ (Nat.lt_succ_self _) ⟨(l3_1 ++ ([((x45.1, (x45.2.1, x45.2.2)), ((x71.1, (x71.2.1, x71.2.2)), (z86, z88)))] : List ((Int × (Int × Int)) × ((Int × (Int × Int)) × (Int × Int))))), z103, A98, (l3_1 ++ ([((x45.1, (x45.2.1, x45.2.2)), ((x71.1, (x71.2.1, x71.2.2)), (z86, z88)))] : List ((Int × (Int × Int)) × ((Int × (Int × Int)) × (Int × Int))))).length, c99, e2, rfl, e5, e6, e10, e11, e12, e13, e18, e19, rfl, (chk_rng h104), hC.sel [2, 3, 4] (by decide), lN hl1⟩
 replace hb := tf hq42 hb
 refine Wc.exit rfl ?_
 obtain rfl := os hb
 obtain rfl := (lX hl1).symm
 exact hK34 _ _ ⟨l3_1, v20_1, Al3_1, l3_1.length, cl3_1, e2, e3, e5, e6, e10, e11, e12, e13, e18, e19, e20, hrv20_1, hC.sel [0, 1, 2] (by decide), hbK1⟩
 clear hb hC hl1
 rintro E106 w105 ⟨l3_1, v20_1, Al3_1, ml3_1, cl3_1, e2, e3, e5, e6, e10, e11, e12, e13, e18, e19, e20, hrv20_1, hC, hb⟩
 obtain ⟨rfl, hll3_1, hcl3_1⟩ := (hC.ow (i := 0) rfl).sl_len
 refine hK17 _ _ ?_
 refine rg ?_
 obtain ⟨z107, h108, hb⟩ := bd hb
 refine lp (.int .i64 z107) (pu_addc (a := v12_0) (b := 1) e12 rfl h108) ?_
 refine lp (.int .i64 z107) (pu_move rfl) ?_
 refine ln ?_
 obtain rfl := os hb
 exact hK9 m10' _ _ (Nat.lt_succ_self _) ⟨l3_1, z107, Al3_1, l3_1.length, cl3_1, e2, e3, e10, e11, rfl, (chk_rng h108), hC.sel [0, 2] (by decide), lN hl0⟩
 replace hb := tf hq16 hb
 refine Wc.exit rfl ?_
 obtain rfl := os hb
 obtain rfl := (lX hl0).symm
 exact hK8 _ _ ⟨l3_0, v12_0, Al3_0, l3_0.length, cl3_0, e2, e3, hrv12_0, hC.sel [0] (by decide), hbK0⟩
 clear hb hC hl0
 rintro E110 w109 ⟨l3_0, v12_0, Al3_0, ml3_0, cl3_0, e2, e3, hrv12_0, hC, hb⟩
 obtain ⟨rfl, hll3_0, hcl3_0⟩ := (hC.ow (i := 0) rfl).sl_len
 refine hK4 _ _ ?_
 refine Wc.seq fun K111 hK111 => ?_
 refine rg ?_
 refine lp (.slice Al3_0 l3_0.length cl3_0) (pu_move e3) ?_
 refine lp (.slice Al3_0 l3_0.length cl3_0) (pu_assign rfl) ?_
 refine ln ?_
 refine hK111 _ _ ?_
 obtain rfl := os hb
 refine Wc.ret ?_
 refine hKR _ _ ?_
 refine ⟨_, res1 Try.results52 (show RV _ _ _ (.tmp _) (.slice Al3_0 l3_0.length cl3_0) from rfl), _, rfl, Al3_0, l3_0.length, cl3_0, rfl, hC.sel [0] (by decide)⟩

set_option maxRecDepth 100000 in
set_option maxHeartbeats 4000000 in
theorem polygon_turn_ok (n : Nat) {w : World} {O0 : List Nat} (hO : ∀ k ∈ O0, k < w.heap.size) {a_0_0 : Int} (ha_0_0 : I64 a_0_0) {a_0_1 : Int} (ha_0_1 : I64 a_0_1) {a_0_2 : Int} (ha_0_2 : I64 a_0_2) {b_1_0 : Int} (hb_1_0 : I64 b_1_0) {b_1_1 : Int} (hb_1_1 : I64 b_1_1) {b_1_2 : Int} (hb_1_2 : I64 b_1_2) {c_2_0 : Int} (hc_2_0 : I64 c_2_0) {c_2_1 : Int} (hc_2_1 : I64 c_2_1) {c_2_2 : Int} (hc_2_2 : I64 c_2_2) {r : Int} (hb : F.polygon_turn n a_0_0 a_0_1 a_0_2 b_1_0 b_1_1 b_1_2 c_2_0 c_2_1 c_2_2 = some r) :
    Calls Try.prog 44 #[.agg #[.int .i64 a_0_0, .int .i64 a_0_1, .int .i64 a_0_2], .agg #[.int .i64 b_1_0, .int .i64 b_1_1, .int .i64 b_1_2], .agg #[.int .i64 c_2_0, .int .i64 c_2_1, .int .i64 c_2_2]] w fun e w' => ∃ v, e = .returned v ∧ v = .int .i64 r ∧ I64 r ∧ Cx (fun _ => False) O0 w w' [] := by
 unfold F.polygon_turn at hb
 have hC := Cx.start hO
 clear hO
 refine calls_of_Wc Try.func44 rfl (by rw [Try.ntmps44]; exact Nat.le_of_ble_eq_true rfl) fun KR hKR => ?_
 refine Wc.seq fun K1 hK1 => ?_
 refine rg ?_
 refine lex.op (hC.box (cs := [.int .i64 a_0_0, .int .i64 a_0_1, .int .i64 a_0_2]) rfl rfl) ?_
 rintro _ w3 ⟨g2, rfl, hC, hF, hG⟩
 clear hG
 refine lex.op (hC.box (cs := [.int .i64 b_1_0, .int .i64 b_1_1, .int .i64 b_1_2]) rfl rfl) ?_
 rintro _ w6 ⟨g5, rfl, hC, hF, hG⟩
 clear hG
 refine lex.op (hC.box (cs := [.int .i64 c_2_0, .int .i64 c_2_1, .int .i64 c_2_2]) rfl rfl) ?_
 rintro _ w9 ⟨g8, rfl, hC, hF, hG⟩
 clear hG
 refine lp (.int .i64 0) (pu_assign rfl) ?_
 refine ln ?_
 refine hK1 _ _ ?_
 refine Wc.seq fun K11 hK11 => ?_
 refine rg ?_
 refine lp (.pointer (some ((⟨g5, 0, none⟩ : Addr).add 0))) (pu_field (sz := 1) Try.underlying23 rfl Try.sizeOf3 (by decide) rfl rfl) ?_
 refine lv (.int .i64 b_1_0) (ld_fld (hC.bx (i := 1) rfl) Try.isAgg3 rfl rfl) ?_
 refine lp (.pointer (some ((⟨g2, 0, none⟩ : Addr).add 0))) (pu_field (sz := 1) Try.underlying23 rfl Try.sizeOf3 (by decide) rfl rfl) ?_
 refine lv (.int .i64 a_0_0) (ld_fld (hC.bx (i := 2) rfl) Try.isAgg3 rfl rfl) ?_
 obtain ⟨z12, h13, hb⟩ := bd hb
 refine lp (.int .i64 z12) (pu_subc (a := b_1_0) (b := a_0_0) rfl rfl h13) ?_
 refine lp (.pointer (some ((⟨g8, 0, none⟩ : Addr).add 1))) (pu_field (sz := 1) Try.underlying23 rfl Try.sizeOf3 (by decide) rfl rfl) ?_
 refine lv (.int .i64 c_2_1) (ld_fld (hC.bx (i := 0) rfl) Try.isAgg3 rfl rfl) ?_
 refine lp (.pointer (some ((⟨g2, 0, none⟩ : Addr).add 1))) (pu_field (sz := 1) Try.underlying23 rfl Try.sizeOf3 (by decide) rfl rfl) ?_
 refine lv (.int .i64 a_0_1) (ld_fld (hC.bx (i := 2) rfl) Try.isAgg3 rfl rfl) ?_
 obtain ⟨z14, h15, hb⟩ := bd hb
 refine lp (.int .i64 z14) (pu_subc (a := c_2_1) (b := a_0_1) rfl rfl h15) ?_
 obtain ⟨z16, h17, hb⟩ := bd hb
 refine lp (.int .i64 z16) (pu_mulc (a := z12) (b := z14) rfl rfl h17) ?_
 refine lp (.pointer (some ((⟨g5, 0, none⟩ : Addr).add 1))) (pu_field (sz := 1) Try.underlying23 rfl Try.sizeOf3 (by decide) rfl rfl) ?_
 refine lv (.int .i64 b_1_1) (ld_fld (hC.bx (i := 1) rfl) Try.isAgg3 rfl rfl) ?_
 refine lp (.pointer (some ((⟨g2, 0, none⟩ : Addr).add 1))) (pu_field (sz := 1) Try.underlying23 rfl Try.sizeOf3 (by decide) rfl rfl) ?_
 refine lv (.int .i64 a_0_1) (ld_fld (hC.bx (i := 2) rfl) Try.isAgg3 rfl rfl) ?_
 obtain ⟨z18, h19, hb⟩ := bd hb
 refine lp (.int .i64 z18) (pu_subc (a := b_1_1) (b := a_0_1) rfl rfl h19) ?_
 refine lp (.pointer (some ((⟨g8, 0, none⟩ : Addr).add 0))) (pu_field (sz := 1) Try.underlying23 rfl Try.sizeOf3 (by decide) rfl rfl) ?_
 refine lv (.int .i64 c_2_0) (ld_fld (hC.bx (i := 0) rfl) Try.isAgg3 rfl rfl) ?_
 refine lp (.pointer (some ((⟨g2, 0, none⟩ : Addr).add 0))) (pu_field (sz := 1) Try.underlying23 rfl Try.sizeOf3 (by decide) rfl rfl) ?_
 refine lv (.int .i64 a_0_0) (ld_fld (hC.bx (i := 2) rfl) Try.isAgg3 rfl rfl) ?_
 obtain ⟨z20, h21, hb⟩ := bd hb
 refine lp (.int .i64 z20) (pu_subc (a := c_2_0) (b := a_0_0) rfl rfl h21) ?_
 obtain ⟨z22, h23, hb⟩ := bd hb
 refine lp (.int .i64 z22) (pu_mulc (a := z18) (b := z20) rfl rfl h23) ?_
 obtain ⟨z24, h25, hb⟩ := bd hb
 refine lp (.int .i64 z24) (pu_subc (a := z16) (b := z22) rfl rfl h25) ?_
 refine lp (.int .i64 z24) (pu_assign rfl) ?_
 refine ln ?_
 refine hK11 _ _ ?_
 obtain rfl := os hb
 refine Wc.ret ?_
 refine hKR _ _ ?_
 refine ⟨_, res1 Try.results44 (show RV _ _ _ (.tmp _) (.int .i64 z24) from rfl), _, rfl, rfl, (chk_rng h25), hC.sel [] (by decide)⟩

set_option maxRecDepth 100000 in
set_option maxHeartbeats 4000000 in
theorem polygon_on_ok (n : Nat) {w : World} {O0 : List Nat} (hO : ∀ k ∈ O0, k < w.heap.size) {a_0_0 : Int} (ha_0_0 : I64 a_0_0) {a_0_1 : Int} (ha_0_1 : I64 a_0_1) {a_0_2 : Int} (ha_0_2 : I64 a_0_2) {b_1_0 : Int} (hb_1_0 : I64 b_1_0) {b_1_1 : Int} (hb_1_1 : I64 b_1_1) {b_1_2 : Int} (hb_1_2 : I64 b_1_2) {p_2_0 : Int} (hp_2_0 : I64 p_2_0) {p_2_1 : Int} (hp_2_1 : I64 p_2_1) {p_2_2 : Int} (hp_2_2 : I64 p_2_2) {r : Bool} (hb : F.polygon_on n a_0_0 a_0_1 a_0_2 b_1_0 b_1_1 b_1_2 p_2_0 p_2_1 p_2_2 = some r) :
    Calls Try.prog 46 #[.agg #[.int .i64 a_0_0, .int .i64 a_0_1, .int .i64 a_0_2], .agg #[.int .i64 b_1_0, .int .i64 b_1_1, .int .i64 b_1_2], .agg #[.int .i64 p_2_0, .int .i64 p_2_1, .int .i64 p_2_2]] w fun e w' => ∃ v, e = .returned v ∧ v = .bool r ∧ Cx (fun _ => False) O0 w w' [] := by
 unfold F.polygon_on at hb
 have hC := Cx.start hO
 clear hO
 refine calls_of_Wc Try.func46 rfl (by rw [Try.ntmps46]; exact Nat.le_of_ble_eq_true rfl) fun KR hKR => ?_
 refine Wc.seq fun K1 hK1 => ?_
 refine rg ?_
 refine lex.op (hC.box (cs := [.int .i64 a_0_0, .int .i64 a_0_1, .int .i64 a_0_2]) rfl rfl) ?_
 rintro _ w3 ⟨g2, rfl, hC, hF, hG⟩
 clear hG
 refine lex.op (hC.box (cs := [.int .i64 b_1_0, .int .i64 b_1_1, .int .i64 b_1_2]) rfl rfl) ?_
 rintro _ w6 ⟨g5, rfl, hC, hF, hG⟩
 clear hG
 refine lex.op (hC.box (cs := [.int .i64 p_2_0, .int .i64 p_2_1, .int .i64 p_2_2]) rfl rfl) ?_
 rintro _ w9 ⟨g8, rfl, hC, hF, hG⟩
 clear hG
 refine lp (.bool false) (pu_assign rfl) ?_
 refine ln ?_
 refine hK1 _ _ ?_
 refine Wc.seq fun K11 hK11 => ?_
 refine rg ?_
 refine lv (.agg #[.int .i64 a_0_0, .int .i64 a_0_1, .int .i64 a_0_2]) (ld_blk (hC.bx (i := 2) rfl) Try.isAgg23 Try.sizeOf23 rfl) ?_
 refine lv (.agg #[.int .i64 b_1_0, .int .i64 b_1_1, .int .i64 b_1_2]) (ld_blk (hC.bx (i := 1) rfl) Try.isAgg23 Try.sizeOf23 rfl) ?_
 refine lv (.agg #[.int .i64 p_2_0, .int .i64 p_2_1, .int .i64 p_2_2]) (ld_blk (hC.bx (i := 0) rfl) Try.isAgg23 Try.sizeOf23 rfl) ?_
 obtain ⟨y12, h13, hb⟩ := bd hb
 refine lex.cl (⟨_, _, op_call (vs := [.agg #[.int .i64 a_0_0, .int .i64 a_0_1, .int .i64 a_0_2], .agg #[.int .i64 b_1_0, .int .i64 b_1_1, .int .i64 b_1_2], .agg #[.int .i64 p_2_0, .int .i64 p_2_1, .int .i64 p_2_2]]) Try.call44 rfl rfl rfl, polygon_turn_ok n hC.lt ha_0_0 ha_0_1 ha_0_2 hb_1_0 hb_1_1 hb_1_2 hp_2_0 hp_2_1 hp_2_2 h13⟩) ?_
 rintro _ w15 ⟨rfl, hr14, hK⟩
 replace hC := hC.merge hK
 clear hK
 refine lp (.bool (decide (y12 = 0))) (pu_eql (k := .i64) (a := y12) (b := 0) rfl rfl) ?_
 refine lp (.bool (decide (y12 = 0))) (pu_move rfl) ?_
 rcases bS (decide (y12 = 0)) with hq16 | hq16
 replace hb := tt hq16 hb
 refine gp rfl rfl (decide (y12 = 0)) rfl hq16 (.pointer (some ((⟨g2, 0, none⟩ : Addr).add 0))) (pu_field (sz := 1) Try.underlying23 rfl Try.sizeOf3 (by decide) rfl rfl) ?_
 refine gv rfl rfl (decide (y12 = 0)) rfl hq16 (.int .i64 a_0_0) (ld_fld (hC.bx (i := 2) rfl) Try.isAgg3 rfl rfl) ?_
 refine gp rfl rfl (decide (y12 = 0)) rfl hq16 (.pointer (some ((⟨g5, 0, none⟩ : Addr).add 0))) (pu_field (sz := 1) Try.underlying23 rfl Try.sizeOf3 (by decide) rfl rfl) ?_
 refine gv rfl rfl (decide (y12 = 0)) rfl hq16 (.int .i64 b_1_0) (ld_fld (hC.bx (i := 1) rfl) Try.isAgg3 rfl rfl) ?_
 refine gp rfl rfl (decide (y12 = 0)) rfl hq16 (.int .i64 (min a_0_0 b_1_0)) (pu_min (a := a_0_0) (b := b_1_0) rfl rfl) ?_
 refine gp rfl rfl (decide (y12 = 0)) rfl hq16 (.pointer (some ((⟨g8, 0, none⟩ : Addr).add 0))) (pu_field (sz := 1) Try.underlying23 rfl Try.sizeOf3 (by decide) rfl rfl) ?_
 refine gv rfl rfl (decide (y12 = 0)) rfl hq16 (.int .i64 p_2_0) (ld_fld (hC.bx (i := 0) rfl) Try.isAgg3 rfl rfl) ?_
 refine gp rfl rfl (decide (y12 = 0)) rfl hq16 (.bool (decide ((min a_0_0 b_1_0) ≤ p_2_0))) (pu_leq (k := .i64) (a := (min a_0_0 b_1_0)) (b := p_2_0) rfl rfl) ?_
 refine lp (.bool (decide ((min a_0_0 b_1_0) ≤ p_2_0))) (pu_pickT (q := (decide (y12 = 0))) rfl hq16 rfl) ?_
 refine lp (.bool (decide ((min a_0_0 b_1_0) ≤ p_2_0))) (pu_move rfl) ?_
 rcases bS (decide ((min a_0_0 b_1_0) ≤ p_2_0)) with hq17 | hq17
 replace hb := tt hq17 hb
 refine gp rfl rfl (decide ((min a_0_0 b_1_0) ≤ p_2_0)) rfl hq17 (.pointer (some ((⟨g8, 0, none⟩ : Addr).add 0))) (pu_field (sz := 1) Try.underlying23 rfl Try.sizeOf3 (by decide) rfl rfl) ?_
 refine gv rfl rfl (decide ((min a_0_0 b_1_0) ≤ p_2_0)) rfl hq17 (.int .i64 p_2_0) (ld_fld (hC.bx (i := 0) rfl) Try.isAgg3 rfl rfl) ?_
 refine gp rfl rfl (decide ((min a_0_0 b_1_0) ≤ p_2_0)) rfl hq17 (.pointer (some ((⟨g2, 0, none⟩ : Addr).add 0))) (pu_field (sz := 1) Try.underlying23 rfl Try.sizeOf3 (by decide) rfl rfl) ?_
 refine gv rfl rfl (decide ((min a_0_0 b_1_0) ≤ p_2_0)) rfl hq17 (.int .i64 a_0_0) (ld_fld (hC.bx (i := 2) rfl) Try.isAgg3 rfl rfl) ?_
 refine gp rfl rfl (decide ((min a_0_0 b_1_0) ≤ p_2_0)) rfl hq17 (.pointer (some ((⟨g5, 0, none⟩ : Addr).add 0))) (pu_field (sz := 1) Try.underlying23 rfl Try.sizeOf3 (by decide) rfl rfl) ?_
 refine gv rfl rfl (decide ((min a_0_0 b_1_0) ≤ p_2_0)) rfl hq17 (.int .i64 b_1_0) (ld_fld (hC.bx (i := 1) rfl) Try.isAgg3 rfl rfl) ?_
 refine gp rfl rfl (decide ((min a_0_0 b_1_0) ≤ p_2_0)) rfl hq17 (.int .i64 (max a_0_0 b_1_0)) (pu_max (a := a_0_0) (b := b_1_0) rfl rfl) ?_
 refine gp rfl rfl (decide ((min a_0_0 b_1_0) ≤ p_2_0)) rfl hq17 (.bool (decide (p_2_0 ≤ (max a_0_0 b_1_0)))) (pu_leq (k := .i64) (a := p_2_0) (b := (max a_0_0 b_1_0)) rfl rfl) ?_
 refine lp (.bool (decide (p_2_0 ≤ (max a_0_0 b_1_0)))) (pu_pickT (q := (decide ((min a_0_0 b_1_0) ≤ p_2_0))) rfl hq17 rfl) ?_
 refine lp (.bool (decide (p_2_0 ≤ (max a_0_0 b_1_0)))) (pu_move rfl) ?_
 rcases bS (decide (p_2_0 ≤ (max a_0_0 b_1_0))) with hq18 | hq18
 replace hb := tt hq18 hb
 refine gp rfl rfl (decide (p_2_0 ≤ (max a_0_0 b_1_0))) rfl hq18 (.pointer (some ((⟨g2, 0, none⟩ : Addr).add 1))) (pu_field (sz := 1) Try.underlying23 rfl Try.sizeOf3 (by decide) rfl rfl) ?_
 refine gv rfl rfl (decide (p_2_0 ≤ (max a_0_0 b_1_0))) rfl hq18 (.int .i64 a_0_1) (ld_fld (hC.bx (i := 2) rfl) Try.isAgg3 rfl rfl) ?_
 refine gp rfl rfl (decide (p_2_0 ≤ (max a_0_0 b_1_0))) rfl hq18 (.pointer (some ((⟨g5, 0, none⟩ : Addr).add 1))) (pu_field (sz := 1) Try.underlying23 rfl Try.sizeOf3 (by decide) rfl rfl) ?_
 refine gv rfl rfl (decide (p_2_0 ≤ (max a_0_0 b_1_0))) rfl hq18 (.int .i64 b_1_1) (ld_fld (hC.bx (i := 1) rfl) Try.isAgg3 rfl rfl) ?_
 refine gp rfl rfl (decide (p_2_0 ≤ (max a_0_0 b_1_0))) rfl hq18 (.int .i64 (min a_0_1 b_1_1)) (pu_min (a := a_0_1) (b := b_1_1) rfl rfl) ?_
 refine gp rfl rfl (decide (p_2_0 ≤ (max a_0_0 b_1_0))) rfl hq18 (.pointer (some ((⟨g8, 0, none⟩ : Addr).add 1))) (pu_field (sz := 1) Try.underlying23 rfl Try.sizeOf3 (by decide) rfl rfl) ?_
 refine gv rfl rfl (decide (p_2_0 ≤ (max a_0_0 b_1_0))) rfl hq18 (.int .i64 p_2_1) (ld_fld (hC.bx (i := 0) rfl) Try.isAgg3 rfl rfl) ?_
 refine gp rfl rfl (decide (p_2_0 ≤ (max a_0_0 b_1_0))) rfl hq18 (.bool (decide ((min a_0_1 b_1_1) ≤ p_2_1))) (pu_leq (k := .i64) (a := (min a_0_1 b_1_1)) (b := p_2_1) rfl rfl) ?_
 refine lp (.bool (decide ((min a_0_1 b_1_1) ≤ p_2_1))) (pu_pickT (q := (decide (p_2_0 ≤ (max a_0_0 b_1_0)))) rfl hq18 rfl) ?_
 refine lp (.bool (decide ((min a_0_1 b_1_1) ≤ p_2_1))) (pu_move rfl) ?_
 rcases bS (decide ((min a_0_1 b_1_1) ≤ p_2_1)) with hq19 | hq19
 replace hb := tt hq19 hb
 refine gp rfl rfl (decide ((min a_0_1 b_1_1) ≤ p_2_1)) rfl hq19 (.pointer (some ((⟨g8, 0, none⟩ : Addr).add 1))) (pu_field (sz := 1) Try.underlying23 rfl Try.sizeOf3 (by decide) rfl rfl) ?_
 refine gv rfl rfl (decide ((min a_0_1 b_1_1) ≤ p_2_1)) rfl hq19 (.int .i64 p_2_1) (ld_fld (hC.bx (i := 0) rfl) Try.isAgg3 rfl rfl) ?_
 refine gp rfl rfl (decide ((min a_0_1 b_1_1) ≤ p_2_1)) rfl hq19 (.pointer (some ((⟨g2, 0, none⟩ : Addr).add 1))) (pu_field (sz := 1) Try.underlying23 rfl Try.sizeOf3 (by decide) rfl rfl) ?_
 refine gv rfl rfl (decide ((min a_0_1 b_1_1) ≤ p_2_1)) rfl hq19 (.int .i64 a_0_1) (ld_fld (hC.bx (i := 2) rfl) Try.isAgg3 rfl rfl) ?_
 refine gp rfl rfl (decide ((min a_0_1 b_1_1) ≤ p_2_1)) rfl hq19 (.pointer (some ((⟨g5, 0, none⟩ : Addr).add 1))) (pu_field (sz := 1) Try.underlying23 rfl Try.sizeOf3 (by decide) rfl rfl) ?_
 refine gv rfl rfl (decide ((min a_0_1 b_1_1) ≤ p_2_1)) rfl hq19 (.int .i64 b_1_1) (ld_fld (hC.bx (i := 1) rfl) Try.isAgg3 rfl rfl) ?_
 refine gp rfl rfl (decide ((min a_0_1 b_1_1) ≤ p_2_1)) rfl hq19 (.int .i64 (max a_0_1 b_1_1)) (pu_max (a := a_0_1) (b := b_1_1) rfl rfl) ?_
 refine gp rfl rfl (decide ((min a_0_1 b_1_1) ≤ p_2_1)) rfl hq19 (.bool (decide (p_2_1 ≤ (max a_0_1 b_1_1)))) (pu_leq (k := .i64) (a := p_2_1) (b := (max a_0_1 b_1_1)) rfl rfl) ?_
 refine lp (.bool (decide (p_2_1 ≤ (max a_0_1 b_1_1)))) (pu_pickT (q := (decide ((min a_0_1 b_1_1) ≤ p_2_1))) rfl hq19 rfl) ?_
 refine lp (.bool (decide (p_2_1 ≤ (max a_0_1 b_1_1)))) (pu_assign rfl) ?_
 refine ln ?_
 refine hK11 _ _ ?_
 obtain rfl := os hb
 refine Wc.ret ?_
 refine hKR _ _ ?_
 refine ⟨_, res1 Try.results46 (show RV _ _ _ (.tmp _) (.bool (decide (p_2_1 ≤ (max a_0_1 b_1_1)))) from rfl), _, rfl, rfl, hC.sel [] (by decide)⟩
 replace hb := tf hq19 hb
 refine gs rfl rfl (decide ((min a_0_1 b_1_1) ≤ p_2_1)) rfl hq19 ?_
 refine gs rfl rfl (decide ((min a_0_1 b_1_1) ≤ p_2_1)) rfl hq19 ?_
 refine gs rfl rfl (decide ((min a_0_1 b_1_1) ≤ p_2_1)) rfl hq19 ?_
 refine gs rfl rfl (decide ((min a_0_1 b_1_1) ≤ p_2_1)) rfl hq19 ?_
 refine gs rfl rfl (decide ((min a_0_1 b_1_1) ≤ p_2_1)) rfl hq19 ?_
 refine gs rfl rfl (decide ((min a_0_1 b_1_1) ≤ p_2_1)) rfl hq19 ?_
 refine gs rfl rfl (decide ((min a_0_1 b_1_1) ≤ p_2_1)) rfl hq19 ?_
 refine gs rfl rfl (decide ((min a_0_1 b_1_1) ≤ p_2_1)) rfl hq19 ?_
 refine lp (.bool false) (pu_pickF (q := (decide ((min a_0_1 b_1_1) ≤ p_2_1))) rfl hq19 rfl) ?_
 refine lp (.bool false) (pu_assign rfl) ?_
 refine ln ?_
 refine hK11 _ _ ?_
 obtain rfl := os hb
 refine Wc.ret ?_
 refine hKR _ _ ?_
 refine ⟨_, res1 Try.results46 (show RV _ _ _ (.tmp _) (.bool false) from rfl), _, rfl, rfl, hC.sel [] (by decide)⟩
 replace hb := tf hq18 hb
 refine gs rfl rfl (decide (p_2_0 ≤ (max a_0_0 b_1_0))) rfl hq18 ?_
 refine gs rfl rfl (decide (p_2_0 ≤ (max a_0_0 b_1_0))) rfl hq18 ?_
 refine gs rfl rfl (decide (p_2_0 ≤ (max a_0_0 b_1_0))) rfl hq18 ?_
 refine gs rfl rfl (decide (p_2_0 ≤ (max a_0_0 b_1_0))) rfl hq18 ?_
 refine gs rfl rfl (decide (p_2_0 ≤ (max a_0_0 b_1_0))) rfl hq18 ?_
 refine gs rfl rfl (decide (p_2_0 ≤ (max a_0_0 b_1_0))) rfl hq18 ?_
 refine gs rfl rfl (decide (p_2_0 ≤ (max a_0_0 b_1_0))) rfl hq18 ?_
 refine gs rfl rfl (decide (p_2_0 ≤ (max a_0_0 b_1_0))) rfl hq18 ?_
 refine lp (.bool false) (pu_pickF (q := (decide (p_2_0 ≤ (max a_0_0 b_1_0)))) rfl hq18 rfl) ?_
 refine lp (.bool false) (pu_move rfl) ?_
 refine gs rfl rfl false rfl rfl ?_
 refine gs rfl rfl false rfl rfl ?_
 refine gs rfl rfl false rfl rfl ?_
 refine gs rfl rfl false rfl rfl ?_
 refine gs rfl rfl false rfl rfl ?_
 refine gs rfl rfl false rfl rfl ?_
 refine gs rfl rfl false rfl rfl ?_
 refine gs rfl rfl false rfl rfl ?_
 refine lp (.bool false) (pu_pickF (q := false) rfl rfl rfl) ?_
 refine lp (.bool false) (pu_assign rfl) ?_
 refine ln ?_
 refine hK11 _ _ ?_
 obtain rfl := os hb
 refine Wc.ret ?_
 refine hKR _ _ ?_
 refine ⟨_, res1 Try.results46 (show RV _ _ _ (.tmp _) (.bool false) from rfl), _, rfl, rfl, hC.sel [] (by decide)⟩
 replace hb := tf hq17 hb
 refine gs rfl rfl (decide ((min a_0_0 b_1_0) ≤ p_2_0)) rfl hq17 ?_
 refine gs rfl rfl (decide ((min a_0_0 b_1_0) ≤ p_2_0)) rfl hq17 ?_
 refine gs rfl rfl (decide ((min a_0_0 b_1_0) ≤ p_2_0)) rfl hq17 ?_
 refine gs rfl rfl (decide ((min a_0_0 b_1_0) ≤ p_2_0)) rfl hq17 ?_
 refine gs rfl rfl (decide ((min a_0_0 b_1_0) ≤ p_2_0)) rfl hq17 ?_
 refine gs rfl rfl (decide ((min a_0_0 b_1_0) ≤ p_2_0)) rfl hq17 ?_
 refine gs rfl rfl (decide ((min a_0_0 b_1_0) ≤ p_2_0)) rfl hq17 ?_
 refine gs rfl rfl (decide ((min a_0_0 b_1_0) ≤ p_2_0)) rfl hq17 ?_
 refine lp (.bool false) (pu_pickF (q := (decide ((min a_0_0 b_1_0) ≤ p_2_0))) rfl hq17 rfl) ?_
 refine lp (.bool false) (pu_move rfl) ?_
 refine gs rfl rfl false rfl rfl ?_
 refine gs rfl rfl false rfl rfl ?_
 refine gs rfl rfl false rfl rfl ?_
 refine gs rfl rfl false rfl rfl ?_
 refine gs rfl rfl false rfl rfl ?_
 refine gs rfl rfl false rfl rfl ?_
 refine gs rfl rfl false rfl rfl ?_
 refine gs rfl rfl false rfl rfl ?_
 refine lp (.bool false) (pu_pickF (q := false) rfl rfl rfl) ?_
 refine lp (.bool false) (pu_move rfl) ?_
 refine gs rfl rfl false rfl rfl ?_
 refine gs rfl rfl false rfl rfl ?_
 refine gs rfl rfl false rfl rfl ?_
 refine gs rfl rfl false rfl rfl ?_
 refine gs rfl rfl false rfl rfl ?_
 refine gs rfl rfl false rfl rfl ?_
 refine gs rfl rfl false rfl rfl ?_
 refine gs rfl rfl false rfl rfl ?_
 refine lp (.bool false) (pu_pickF (q := false) rfl rfl rfl) ?_
 refine lp (.bool false) (pu_assign rfl) ?_
 refine ln ?_
 refine hK11 _ _ ?_
 obtain rfl := os hb
 refine Wc.ret ?_
 refine hKR _ _ ?_
 refine ⟨_, res1 Try.results46 (show RV _ _ _ (.tmp _) (.bool false) from rfl), _, rfl, rfl, hC.sel [] (by decide)⟩
 replace hb := tf hq16 hb
 refine gs rfl rfl (decide (y12 = 0)) rfl hq16 ?_
 refine gs rfl rfl (decide (y12 = 0)) rfl hq16 ?_
 refine gs rfl rfl (decide (y12 = 0)) rfl hq16 ?_
 refine gs rfl rfl (decide (y12 = 0)) rfl hq16 ?_
 refine gs rfl rfl (decide (y12 = 0)) rfl hq16 ?_
 refine gs rfl rfl (decide (y12 = 0)) rfl hq16 ?_
 refine gs rfl rfl (decide (y12 = 0)) rfl hq16 ?_
 refine gs rfl rfl (decide (y12 = 0)) rfl hq16 ?_
 refine lp (.bool false) (pu_pickF (q := (decide (y12 = 0))) rfl hq16 rfl) ?_
 refine lp (.bool false) (pu_move rfl) ?_
 refine gs rfl rfl false rfl rfl ?_
 refine gs rfl rfl false rfl rfl ?_
 refine gs rfl rfl false rfl rfl ?_
 refine gs rfl rfl false rfl rfl ?_
 refine gs rfl rfl false rfl rfl ?_
 refine gs rfl rfl false rfl rfl ?_
 refine gs rfl rfl false rfl rfl ?_
 refine gs rfl rfl false rfl rfl ?_
 refine lp (.bool false) (pu_pickF (q := false) rfl rfl rfl) ?_
 refine lp (.bool false) (pu_move rfl) ?_
 refine gs rfl rfl false rfl rfl ?_
 refine gs rfl rfl false rfl rfl ?_
 refine gs rfl rfl false rfl rfl ?_
 refine gs rfl rfl false rfl rfl ?_
 refine gs rfl rfl false rfl rfl ?_
 refine gs rfl rfl false rfl rfl ?_
 refine gs rfl rfl false rfl rfl ?_
 refine gs rfl rfl false rfl rfl ?_
 refine lp (.bool false) (pu_pickF (q := false) rfl rfl rfl) ?_
 refine lp (.bool false) (pu_move rfl) ?_
 refine gs rfl rfl false rfl rfl ?_
 refine gs rfl rfl false rfl rfl ?_
 refine gs rfl rfl false rfl rfl ?_
 refine gs rfl rfl false rfl rfl ?_
 refine gs rfl rfl false rfl rfl ?_
 refine gs rfl rfl false rfl rfl ?_
 refine gs rfl rfl false rfl rfl ?_
 refine gs rfl rfl false rfl rfl ?_
 refine lp (.bool false) (pu_pickF (q := false) rfl rfl rfl) ?_
 refine lp (.bool false) (pu_assign rfl) ?_
 refine ln ?_
 refine hK11 _ _ ?_
 obtain rfl := os hb
 refine Wc.ret ?_
 refine hKR _ _ ?_
 refine ⟨_, res1 Try.results46 (show RV _ _ _ (.tmp _) (.bool false) from rfl), _, rfl, rfl, hC.sel [] (by decide)⟩
end Go.Proofs.Yteajmbanlohncaa
