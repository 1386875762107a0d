/- The walks: part 18. -/
import Derived.Test.YticemffhlapnnaaS
import Derived.Test.YticemffhlapnnaaG17
set_option linter.unusedVariables false
set_option linter.unusedSimpArgs false
namespace Go.Proofs.Yticemffhlapnnaa
open Ev
set_option maxRecDepth 100000 in
set_option maxHeartbeats 4000000 in
theorem diagram_Valid_ok (n : Nat) {w : World} {O0 : List Nat} (hO : ∀ k ∈ O0, k < w.heap.size) {Ad_0_0 : Option Addr} {md_0_0 cd_0_0 : Nat} {d_0_0 : List Int} (hd_0_0 : Rep O0 w (.sl (.int .i64)) [.slice Ad_0_0 md_0_0 cd_0_0] d_0_0) {Ad_0_1 : Option Addr} {md_0_1 cd_0_1 : Nat} {d_0_1 : List Int} (hd_0_1 : Rep O0 w (.sl (.int .i64)) [.slice Ad_0_1 md_0_1 cd_0_1] d_0_1) {d_0_2 : Int} (hd_0_2 : I64 d_0_2) {r : Bool} (hb : F.diagram_Valid n d_0_0 d_0_1 d_0_2 = some r) :
    Calls Try.prog 28 #[.agg #[.slice Ad_0_0 md_0_0 cd_0_0, .slice Ad_0_1 md_0_1 cd_0_1, .int .i64 d_0_2]] w fun e w' => ∃ v, e = .returned v ∧ v = .bool r ∧ Cx (fun _ => False) O0 w w' [] := by
 unfold F.diagram_Valid at hb
 have hC := Cx.start hO
 replace hC := hC.arg rfl hd_0_0
 replace hC := hC.arg rfl hd_0_1
 clear hO
 obtain ⟨rfl, hld_0_0, hcd_0_0⟩ := hd_0_0.sl_len
 obtain ⟨rfl, hld_0_1, hcd_0_1⟩ := hd_0_1.sl_len
 refine calls_of_Wc Try.func28 rfl (by rw [Try.ntmps28]; exact Nat.le_of_ble_eq_true rfl) fun KR hKR => ?_
 refine Wc.seq fun K3 hK3 => ?_
 refine rg ?_
 refine lex.op (hC.box (cs := [.slice Ad_0_0 d_0_0.length cd_0_0, .slice Ad_0_1 d_0_1.length cd_0_1, .int .i64 d_0_2]) rfl rfl) ?_
 rintro _ w5 ⟨g4, rfl, hC, hF, hG⟩
 clear hG
 refine lp (.bool false) (pu_assign rfl) ?_
 refine ln ?_
 refine hK3 _ _ ?_
 refine Wc.seq fun K7 hK7 => ?_
 refine rg ?_
 refine lp (.pointer (some ((⟨g4, 0, none⟩ : Addr).add 0))) (pu_field (sz := 1) Try.underlying28 rfl Try.sizeOf22 (by decide) rfl rfl) ?_
 refine lv (.slice Ad_0_0 d_0_0.length cd_0_0) (ld_fld (hC.bx (i := 0) rfl) Try.isAgg22 rfl rfl) ?_
 refine lp (.int .i64 (d_0_0.length : Int)) (pu_len (A := Ad_0_0) (n := d_0_0.length) (m := cd_0_0) Try.underlying22 rfl) ?_
 refine lp (.int .i64 (d_0_0.length : Int)) (pu_assign rfl) ?_
 refine ln ?_
 refine hK7 _ _ ?_
 refine Wc.seq fun K8 hK8 => ?_
 refine Wc.seq fun K9 hK9 => ?_
 refine rg ?_
 refine lp (.int .i64 (d_0_0.length : Int)) (pu_move rfl) ?_
 refine lp (.bool (decide (64 < (d_0_0.length : Int)))) (pu_gtr (k := .i64) (a := (d_0_0.length : Int)) (b := 64) rfl rfl) ?_
 refine lp (.bool (decide (64 < (d_0_0.length : Int)))) (pu_move rfl) ?_
 rcases bS (decide (64 < (d_0_0.length : Int))) with hq10 | hq10
 replace hb := tt hq10 hb
 refine gs rfl rfl (decide (64 < (d_0_0.length : Int))) rfl hq10 ?_
 refine gs rfl rfl (decide (64 < (d_0_0.length : Int))) rfl hq10 ?_
 refine gs rfl rfl (decide (64 < (d_0_0.length : Int))) rfl hq10 ?_
 refine gs rfl rfl (decide (64 < (d_0_0.length : Int))) rfl hq10 ?_
 refine gs rfl rfl (decide (64 < (d_0_0.length : Int))) rfl hq10 ?_
 refine gs rfl rfl (decide (64 < (d_0_0.length : Int))) rfl hq10 ?_
 refine lp (.bool true) (pu_pickT (q := (decide (64 < (d_0_0.length : Int)))) rfl hq10 rfl) ?_
 refine lp (.bool true) (pu_move rfl) ?_
 refine gs rfl rfl true rfl rfl ?_
 refine gs rfl rfl true rfl rfl ?_
 refine gs rfl rfl true rfl rfl ?_
 refine lp (.bool true) (pu_pickT (q := true) rfl rfl rfl) ?_
 refine lp (.bool true) (pu_move rfl) ?_
 refine gs rfl rfl true rfl rfl ?_
 refine gs rfl rfl true rfl rfl ?_
 refine gs rfl rfl true rfl rfl ?_
 refine lp (.bool true) (pu_pickT (q := true) rfl rfl rfl) ?_
 refine ln ?_
 refine hK9 _ _ ?_
 refine Wc.cond_true (rfl) ?_
 refine Wc.seq fun K11 hK11 => ?_
 refine rg ?_
 refine lp (.bool false) (pu_assign rfl) ?_
 refine ln ?_
 refine hK11 _ _ ?_
 obtain rfl := os hb
 refine Wc.ret ?_
 refine hKR _ _ ?_
 refine ⟨_, res1 Try.results28 (show RV _ _ _ (.tmp _) (.bool false) from rfl), _, rfl, rfl, hC.sel [] (by decide)⟩
 replace hb := tf hq10 hb
 refine gp rfl rfl (decide (64 < (d_0_0.length : Int))) rfl hq10 (.pointer (some ((⟨g4, 0, none⟩ : Addr).add 1))) (pu_field (sz := 1) Try.underlying28 rfl Try.sizeOf22 (by decide) rfl rfl) ?_
 refine gv rfl rfl (decide (64 < (d_0_0.length : Int))) rfl hq10 (.slice Ad_0_1 d_0_1.length cd_0_1) (ld_fld (hC.bx (i := 0) rfl) Try.isAgg22 rfl rfl) ?_
 refine gp rfl rfl (decide (64 < (d_0_0.length : Int))) rfl hq10 (.int .i64 (d_0_1.length : Int)) (pu_len (A := Ad_0_1) (n := d_0_1.length) (m := cd_0_1) Try.underlying22 rfl) ?_
 refine gp rfl rfl (decide (64 < (d_0_0.length : Int))) rfl hq10 (.int .i64 (d_0_0.length : Int)) (pu_move rfl) ?_
 obtain ⟨z12, h13, hb⟩ := bd hb
 refine gp rfl rfl (decide (64 < (d_0_0.length : Int))) rfl hq10 (.int .i64 z12) (pu_mulc (a := 4) (b := (d_0_0.length : Int)) rfl rfl h13) ?_
 refine gp rfl rfl (decide (64 < (d_0_0.length : Int))) rfl hq10 (.bool (!(decide ((d_0_1.length : Int) = z12)))) (pu_neq (k := .i64) (a := (d_0_1.length : Int)) (b := z12) rfl rfl) ?_
 refine lp (.bool (!(decide ((d_0_1.length : Int) = z12)))) (pu_pickF (q := (decide (64 < (d_0_0.length : Int)))) rfl hq10 rfl) ?_
 refine lp (.bool (!(decide ((d_0_1.length : Int) = z12)))) (pu_move rfl) ?_
 rcases bS (!(decide ((d_0_1.length : Int) = z12))) with hq14 | hq14
 replace hb := tt hq14 hb
 refine gs rfl rfl (!(decide ((d_0_1.length : Int) = z12))) rfl hq14 ?_
 refine gs rfl rfl (!(decide ((d_0_1.length : Int) = z12))) rfl hq14 ?_
 refine gs rfl rfl (!(decide ((d_0_1.length : Int) = z12))) rfl hq14 ?_
 refine lp (.bool true) (pu_pickT (q := (!(decide ((d_0_1.length : Int) = z12)))) rfl hq14 rfl) ?_
 refine lp (.bool true) (pu_move rfl) ?_
 refine gs rfl rfl true rfl rfl ?_
 refine gs rfl rfl true rfl rfl ?_
 refine gs rfl rfl true rfl rfl ?_
 refine lp (.bool true) (pu_pickT (q := true) rfl rfl rfl) ?_
 refine ln ?_
 refine hK9 _ _ ?_
 refine Wc.cond_true (rfl) ?_
 refine Wc.seq fun K15 hK15 => ?_
 refine rg ?_
 refine lp (.bool false) (pu_assign rfl) ?_
 refine ln ?_
 refine hK15 _ _ ?_
 obtain rfl := os hb
 refine Wc.ret ?_
 refine hKR _ _ ?_
 refine ⟨_, res1 Try.results28 (show RV _ _ _ (.tmp _) (.bool false) from rfl), _, rfl, rfl, hC.sel [] (by decide)⟩
 replace hb := tf hq14 hb
 refine gp rfl rfl (!(decide ((d_0_1.length : Int) = z12))) rfl hq14 (.pointer (some ((⟨g4, 0, none⟩ : Addr).add 2))) (pu_field (sz := 1) Try.underlying28 rfl Try.sizeOf3 (by decide) rfl rfl) ?_
 refine gv rfl rfl (!(decide ((d_0_1.length : Int) = z12))) rfl hq14 (.int .i64 d_0_2) (ld_fld (hC.bx (i := 0) rfl) Try.isAgg3 rfl rfl) ?_
 refine gp rfl rfl (!(decide ((d_0_1.length : Int) = z12))) rfl hq14 (.bool (decide (d_0_2 < 0))) (pu_lss (k := .i64) (a := d_0_2) (b := 0) rfl rfl) ?_
 refine lp (.bool (decide (d_0_2 < 0))) (pu_pickF (q := (!(decide ((d_0_1.length : Int) = z12)))) rfl hq14 rfl) ?_
 refine lp (.bool (decide (d_0_2 < 0))) (pu_move rfl) ?_
 rcases bS (decide (d_0_2 < 0)) with hq16 | hq16
 replace hb := tt hq16 hb
 refine gs rfl rfl (decide (d_0_2 < 0)) rfl hq16 ?_
 refine gs rfl rfl (decide (d_0_2 < 0)) rfl hq16 ?_
 refine gs rfl rfl (decide (d_0_2 < 0)) rfl hq16 ?_
 refine lp (.bool true) (pu_pickT (q := (decide (d_0_2 < 0))) rfl hq16 rfl) ?_
 refine ln ?_
 refine hK9 _ _ ?_
 refine Wc.cond_true (rfl) ?_
 refine Wc.seq fun K17 hK17 => ?_
 refine rg ?_
 refine lp (.bool false) (pu_assign rfl) ?_
 refine ln ?_
 refine hK17 _ _ ?_
 obtain rfl := os hb
 refine Wc.ret ?_
 refine hKR _ _ ?_
 refine ⟨_, res1 Try.results28 (show RV _ _ _ (.tmp _) (.bool false) from rfl), _, rfl, rfl, hC.sel [] (by decide)⟩
 replace hb := tf hq16 hb
 refine gp rfl rfl (decide (d_0_2 < 0)) rfl hq16 (.pointer (some ((⟨g4, 0, none⟩ : Addr).add 2))) (pu_field (sz := 1) Try.underlying28 rfl Try.sizeOf3 (by decide) rfl rfl) ?_
 refine gv rfl rfl (decide (d_0_2 < 0)) rfl hq16 (.int .i64 d_0_2) (ld_fld (hC.bx (i := 0) rfl) Try.isAgg3 rfl rfl) ?_
 refine gp rfl rfl (decide (d_0_2 < 0)) rfl hq16 (.bool (decide (64 < d_0_2))) (pu_gtr (k := .i64) (a := d_0_2) (b := 64) rfl rfl) ?_
 refine lp (.bool (decide (64 < d_0_2))) (pu_pickF (q := (decide (d_0_2 < 0))) rfl hq16 rfl) ?_
 refine ln ?_
 refine hK9 _ _ ?_
 refine Wc.cond (t := (decide (64 < d_0_2))) (rfl) (fun hq18 => ?_) (fun hq18 => ?_)
 replace hb := tt hq18 hb
 refine Wc.seq fun K19 hK19 => ?_
 refine rg ?_
 refine lp (.bool false) (pu_assign rfl) ?_
 refine ln ?_
 refine hK19 _ _ ?_
 obtain rfl := os hb
 refine Wc.ret ?_
 refine hKR _ _ ?_
 refine ⟨_, res1 Try.results28 (show RV _ _ _ (.tmp _) (.bool false) from rfl), _, rfl, rfl, hC.sel [] (by decide)⟩
 replace hb := tf hq18 hb
 refine Wc.skip ?_
 refine hK8 _ _ ?_
 refine Wc.fresh fun E20 hE => ?_
 have e1 : E20 1 = .pointer (some ⟨g4, 0, none⟩) := (congrFun hE 1).trans rfl
 have e2 : E20 2 = .bool false := (congrFun hE 2).trans rfl
 have e3 : E20 3 = .int .i64 (d_0_0.length : Int) := (congrFun hE 3).trans rfl
 clear hE
 refine Wc.seq fun K21 hK21 => ?_
 refine Wc.seq fun K22 hK22 => ?_
 refine rg ?_
 refine lp (.pointer (some ((⟨g4, 0, none⟩ : Addr).add 0))) (pu_field (sz := 1) Try.underlying28 rfl Try.sizeOf22 (by decide) rfl e1) ?_
 refine lv (.slice Ad_0_0 d_0_0.length cd_0_0) (ld_fld (hC.bx (i := 0) rfl) Try.isAgg22 rfl rfl) ?_
 refine lp (.int .i64 (d_0_0.length : Int)) (pu_len (A := Ad_0_0) (n := d_0_0.length) (m := cd_0_0) Try.underlying22 rfl) ?_
 refine lp (.int .i64 0) (pu_move rfl) ?_
 refine ln ?_
 refine hK22 _ _ ?_
 obtain ⟨o23, hl0, hb⟩ := bd hb
 refine Wc.cut (fun E wv => ∃ (v34_0 : Int), E 1 = .pointer (some ⟨g4, 0, none⟩) ∧ E 2 = .bool false ∧ E 3 = .int .i64 (d_0_0.length : Int) ∧ I64 v34_0 ∧ Cx (fun _ => False) O0 w wv [.box g4 28 [.slice Ad_0_0 d_0_0.length cd_0_0, .slice Ad_0_1 d_0_1.length cd_0_1, .int .i64 d_0_2], .ro (.sl (.int .i64)) [.slice Ad_0_0 d_0_0.length cd_0_0] d_0_0, .ro (.sl (.int .i64)) [.slice Ad_0_1 d_0_1.length cd_0_1] d_0_1] ∧ (((loopN n (F.diagram_Valid_b1 n d_0_0 d_0_1 d_0_2) 0).bind fun o53 => match o53 with     | (.inl v48_1) => (F.diagram_spherical n d_0_0 d_0_1 d_0_2).bind fun y106 => some y106     | (.inr q) => some q) : Option (Bool)) = some r) (fun K24 hK24 => ?_) ?_
 refine Wc.block ?_
 refine Wc.loop (fun m E wv => ∃ (v34_0 : Int), E 1 = .pointer (some ⟨g4, 0, none⟩) ∧ E 2 = .bool false ∧ E 3 = .int .i64 (d_0_0.length : Int) ∧ E 32 = .slice Ad_0_0 d_0_0.length cd_0_0 ∧ E 33 = .int .i64 (d_0_0.length : Int) ∧ E 34 = .int .i64 v34_0 ∧ I64 v34_0 ∧ Cx (fun _ => False) O0 w wv [.box g4 28 [.slice Ad_0_0 d_0_0.length cd_0_0, .slice Ad_0_1 d_0_1.length cd_0_1, .int .i64 d_0_2], .ro (.sl (.int .i64)) [.slice Ad_0_0 d_0_0.length cd_0_0] d_0_0, .ro (.sl (.int .i64)) [.slice Ad_0_1 d_0_1.length cd_0_1] d_0_1] ∧ loopN m (F.diagram_Valid_b0 n d_0_0) v34_0 = some o23) n ⟨0, e1, e2, e3, rfl, rfl, rfl, (show I64 0 from by unfold I64; omega), hC.sel [0, 2, 1] (by decide), hl0⟩ ?_
 have hbK0 := hb
 clear hb hC hl0
 rintro m26 E28 w27 ⟨v34_0, e1, e2, e3, e32, e33, e34, hrv34_0, hC, hl0⟩ K25 hK25
 obtain ⟨m26', o29, rfl, hb, hl0⟩ := loopN_some hl0
 unfold F.diagram_Valid_b0 at hb
 refine Wc.seq fun K30 hK30 => ?_
 refine rg ?_
 refine lp (.bool (decide (v34_0 < (d_0_0.length : Int)))) (pu_lss (k := .i64) (a := v34_0) (b := (d_0_0.length : Int)) e34 e33) ?_
 refine ln ?_
 refine hK30 _ _ ?_
 refine Wc.seq fun K31 hK31 => ?_
 refine Wc.cond (t := (decide (v34_0 < (d_0_0.length : Int)))) (rfl) (fun hq32 => ?_) (fun hq32 => ?_)
 replace hb := tt hq32 hb
 refine Wc.skip ?_
 refine hK31 _ _ ?_
 refine Wc.seq fun K33 hK33 => ?_
 refine Wc.block ?_
 refine Wc.seq fun K34 hK34 => ?_
 refine rg ?_
 obtain ⟨x35, h36, hb⟩ := bd hb
 obtain ⟨ad37, cs38, hA, hc39, hr40⟩ := hC.elr (i := 1) rfl (get_some h36).2
 subst hA
 refine lp (.pointer (some (ad37.add (v34_0.toNat * 1)))) (pu_index (a := v34_0) Try.underlying22 Try.sizeOf3 e32 e34 (get_some h36).1) ?_
 obtain ⟨rfl, hr40'⟩ := hr40
 refine lv (.int .i64 x35) (ld_one Try.isAgg3 rfl (hc39 0 _ rfl)) ?_
 refine lp (.int .i64 x35) (pu_assign rfl) ?_
 refine ln ?_
 refine hK34 _ _ ?_
 refine Wc.seq fun K41 hK41 => ?_
 refine rg ?_
 refine lp (.int .i64 x35) (pu_move rfl) ?_
 refine lp (.bool (!(decide (x35 = 1)))) (pu_neq (k := .i64) (a := x35) (b := 1) rfl rfl) ?_
 refine lp (.bool (!(decide (x35 = 1)))) (pu_move rfl) ?_
 rcases bS (!(decide (x35 = 1))) with hq42 | hq42
 replace hb := tt hq42 hb
 refine gp rfl rfl (!(decide (x35 = 1))) rfl hq42 (.int .i64 x35) (pu_move rfl) ?_
 refine gp rfl rfl (!(decide (x35 = 1))) rfl hq42 (.bool (!(decide (x35 = (-1))))) (pu_neq (k := .i64) (a := x35) (b := (-1)) rfl rfl) ?_
 refine lp (.bool (!(decide (x35 = (-1))))) (pu_pickT (q := (!(decide (x35 = 1)))) rfl hq42 rfl) ?_
 refine ln ?_
 refine hK41 _ _ ?_
 refine Wc.cond (t := (!(decide (x35 = (-1))))) (rfl) (fun hq43 => ?_) (fun hq43 => ?_)
 replace hb := tt hq43 hb
 refine Wc.seq fun K44 hK44 => ?_
 refine rg ?_
 refine lp (.bool false) (pu_assign rfl) ?_
 refine ln ?_
 refine hK44 _ _ ?_
 obtain rfl := os hb
 obtain rfl := (lX hl0).symm
 replace hb := hbK0
 obtain rfl := os hb
 refine Wc.ret ?_
 refine hKR _ _ ?_
 refine ⟨_, res1 Try.results28 (show RV _ _ _ (.tmp _) (.bool false) from rfl), _, rfl, rfl, hC.sel [] (by decide)⟩
 replace hb := tf hq43 hb
 refine Wc.skip ?_
 refine hK33 _ _ ?_
 refine rg ?_
 obtain ⟨z45, h46, hb⟩ := bd hb
 refine lp (.int .i64 z45) (pu_addc (a := v34_0) (b := 1) e34 rfl h46) ?_
 refine lp (.int .i64 z45) (pu_move rfl) ?_
 refine ln ?_
 obtain rfl := os hb
 exact hK25 m26' _ _ (Nat.lt_succ_self _) ⟨z45, e1, e2, e3, e32, e33, rfl, (chk_rng h46), hC.sel [0, 1, 2] (by decide), lN hl0⟩
 replace hb := tf hq42 hb
 refine gs rfl rfl (!(decide (x35 = 1))) rfl hq42 ?_
 refine gs rfl rfl (!(decide (x35 = 1))) rfl hq42 ?_
 refine lp (.bool false) (pu_pickF (q := (!(decide (x35 = 1)))) rfl hq42 rfl) ?_
 refine ln ?_
 refine hK41 _ _ ?_
 refine Wc.cond_false (rfl) ?_
 refine Wc.skip ?_
 refine hK33 _ _ ?_
 refine rg ?_
 obtain ⟨z47, h48, hb⟩ := bd hb
 refine lp (.int .i64 z47) (pu_addc (a := v34_0) (b := 1) e34 rfl h48) ?_
 refine lp (.int .i64 z47) (pu_move rfl) ?_
 refine ln ?_
 obtain rfl := os hb
 exact hK25 m26' _ _ (Nat.lt_succ_self _) ⟨z47, e1, e2, e3, e32, e33, rfl, (chk_rng h48), hC.sel [0, 1, 2] (by decide), lN hl0⟩
 replace hb := tf hq32 hb
 refine Wc.exit rfl ?_
 obtain rfl := os hb
 obtain rfl := (lX hl0).symm
 exact hK24 _ _ ⟨v34_0, e1, e2, e3, hrv34_0, hC.sel [0, 1, 2] (by decide), hbK0⟩
 clear hb hC hl0
 rintro E50 w49 ⟨v34_0, e1, e2, e3, hrv34_0, hC, hb⟩
 refine hK21 _ _ ?_
 refine Wc.seq fun K51 hK51 => ?_
 refine Wc.seq fun K52 hK52 => ?_
 refine rg ?_
 refine lp (.pointer (some ((⟨g4, 0, none⟩ : Addr).add 1))) (pu_field (sz := 1) Try.underlying28 rfl Try.sizeOf22 (by decide) rfl e1) ?_
 refine lv (.slice Ad_0_1 d_0_1.length cd_0_1) (ld_fld (hC.bx (i := 0) rfl) Try.isAgg22 rfl rfl) ?_
 refine lp (.int .i64 (d_0_1.length : Int)) (pu_len (A := Ad_0_1) (n := d_0_1.length) (m := cd_0_1) Try.underlying22 rfl) ?_
 refine lp (.int .i64 0) (pu_move rfl) ?_
 refine ln ?_
 refine hK52 _ _ ?_
 obtain ⟨o53, hl1, hb⟩ := bd hb
 refine Wc.cut (fun E wv => ∃ (v48_1 : Int), E 1 = .pointer (some ⟨g4, 0, none⟩) ∧ E 2 = .bool false ∧ I64 v48_1 ∧ Cx (fun _ => False) O0 w wv [.box g4 28 [.slice Ad_0_0 d_0_0.length cd_0_0, .slice Ad_0_1 d_0_1.length cd_0_1, .int .i64 d_0_2], .ro (.sl (.int .i64)) [.slice Ad_0_0 d_0_0.length cd_0_0] d_0_0, .ro (.sl (.int .i64)) [.slice Ad_0_1 d_0_1.length cd_0_1] d_0_1] ∧ ((F.diagram_spherical n d_0_0 d_0_1 d_0_2).bind fun y106 => some y106 : Option (Bool)) = some r) (fun K54 hK54 => ?_) ?_
 refine Wc.block ?_
 refine Wc.loop (fun m E wv => ∃ (v48_1 : Int), E 1 = .pointer (some ⟨g4, 0, none⟩) ∧ E 2 = .bool false ∧ E 3 = .int .i64 (d_0_0.length : Int) ∧ E 46 = .slice Ad_0_1 d_0_1.length cd_0_1 ∧ E 47 = .int .i64 (d_0_1.length : Int) ∧ E 48 = .int .i64 v48_1 ∧ I64 v48_1 ∧ Cx (fun _ => False) O0 w wv [.box g4 28 [.slice Ad_0_0 d_0_0.length cd_0_0, .slice Ad_0_1 d_0_1.length cd_0_1, .int .i64 d_0_2], .ro (.sl (.int .i64)) [.slice Ad_0_0 d_0_0.length cd_0_0] d_0_0, .ro (.sl (.int .i64)) [.slice Ad_0_1 d_0_1.length cd_0_1] d_0_1] ∧ loopN m (F.diagram_Valid_b1 n d_0_0 d_0_1 d_0_2) v48_1 = some o53) n ⟨0, e1, e2, e3, rfl, rfl, rfl, (show I64 0 from by unfold I64; omega), hC.sel [0, 1, 2] (by decide), hl1⟩ ?_
 have hbK1 := hb
 clear hb hC hl1
 rintro m56 E58 w57 ⟨v48_1, e1, e2, e3, e46, e47, e48, hrv48_1, hC, hl1⟩ K55 hK55
 obtain ⟨m56', o59, rfl, hb, hl1⟩ := loopN_some hl1
 unfold F.diagram_Valid_b1 at hb
 refine Wc.seq fun K60 hK60 => ?_
 refine rg ?_
 refine lp (.bool (decide (v48_1 < (d_0_1.length : Int)))) (pu_lss (k := .i64) (a := v48_1) (b := (d_0_1.length : Int)) e48 e47) ?_
 refine ln ?_
 refine hK60 _ _ ?_
 refine Wc.seq fun K61 hK61 => ?_
 refine Wc.cond (t := (decide (v48_1 < (d_0_1.length : Int)))) (rfl) (fun hq62 => ?_) (fun hq62 => ?_)
 replace hb := tt hq62 hb
 refine Wc.skip ?_
 refine hK61 _ _ ?_
 refine Wc.seq fun K63 hK63 => ?_
 refine Wc.block ?_
 refine Wc.seq fun K64 hK64 => ?_
 refine rg ?_
 refine lp (.int .i64 v48_1) (pu_move e48) ?_
 obtain ⟨x65, h66, hb⟩ := bd hb
 obtain ⟨ad67, cs68, hA, hc69, hr70⟩ := hC.elr (i := 2) rfl (get_some h66).2
 subst hA
 refine lp (.pointer (some (ad67.add (v48_1.toNat * 1)))) (pu_index (a := v48_1) Try.underlying22 Try.sizeOf3 e46 e48 (get_some h66).1) ?_
 obtain ⟨rfl, hr70'⟩ := hr70
 refine lv (.int .i64 x65) (ld_one Try.isAgg3 rfl (hc69 0 _ rfl)) ?_
 refine lp (.int .i64 v48_1) (pu_assign rfl) ?_
 refine lp (.int .i64 x65) (pu_assign rfl) ?_
 refine ln ?_
 refine hK64 _ _ ?_
 refine Wc.seq fun K71 hK71 => ?_
 refine Wc.seq fun K72 hK72 => ?_
 refine rg ?_
 refine lp (.int .i64 x65) (pu_move rfl) ?_
 refine lp (.bool (decide (x65 < 0))) (pu_lss (k := .i64) (a := x65) (b := 0) rfl rfl) ?_
 refine lp (.bool (decide (x65 < 0))) (pu_move rfl) ?_
 rcases bS (decide (x65 < 0)) with hq73 | hq73
 replace hb := tt hq73 hb
 refine gs rfl rfl (decide (x65 < 0)) rfl hq73 ?_
 refine gs rfl rfl (decide (x65 < 0)) rfl hq73 ?_
 refine gs rfl rfl (decide (x65 < 0)) rfl hq73 ?_
 refine gs rfl rfl (decide (x65 < 0)) rfl hq73 ?_
 refine lp (.bool true) (pu_pickT (q := (decide (x65 < 0))) rfl hq73 rfl) ?_
 refine lp (.bool true) (pu_move rfl) ?_
 refine gs rfl rfl true rfl rfl ?_
 refine gs rfl rfl true rfl rfl ?_
 refine gs rfl rfl true rfl rfl ?_
 refine lp (.bool true) (pu_pickT (q := true) rfl rfl rfl) ?_
 refine lp (.bool true) (pu_move rfl) ?_
 refine gs rfl rfl true rfl rfl ?_
 refine gs rfl rfl true rfl rfl ?_
 refine gs rfl rfl true rfl rfl ?_
 refine gs rfl rfl true rfl rfl ?_
 refine gs rfl rfl true rfl rfl ?_
 refine gs rfl rfl true rfl rfl ?_
 refine gs rfl rfl true rfl rfl ?_
 refine lp (.bool true) (pu_pickT (q := true) rfl rfl rfl) ?_
 refine ln ?_
 refine hK72 _ _ ?_
 refine Wc.cond_true (rfl) ?_
 refine Wc.seq fun K74 hK74 => ?_
 refine rg ?_
 refine lp (.bool false) (pu_assign rfl) ?_
 refine ln ?_
 refine hK74 _ _ ?_
 obtain rfl := os hb
 obtain rfl := (lX hl1).symm
 replace hb := hbK1
 obtain rfl := os hb
 refine Wc.ret ?_
 refine hKR _ _ ?_
 refine ⟨_, res1 Try.results28 (show RV _ _ _ (.tmp _) (.bool false) from rfl), _, rfl, rfl, hC.sel [] (by decide)⟩
 replace hb := tf hq73 hb
 refine gp rfl rfl (decide (x65 < 0)) rfl hq73 (.int .i64 x65) (pu_move rfl) ?_
 refine gp rfl rfl (decide (x65 < 0)) rfl hq73 (.int .i64 (d_0_0.length : Int)) (pu_move e3) ?_
 obtain ⟨z75, h76, hb⟩ := bd hb
 refine gp rfl rfl (decide (x65 < 0)) rfl hq73 (.int .i64 z75) (pu_mulc (a := 4) (b := (d_0_0.length : Int)) rfl rfl h76) ?_
 refine gp rfl rfl (decide (x65 < 0)) rfl hq73 (.bool (decide (z75 ≤ x65))) (pu_geq (k := .i64) (a := x65) (b := z75) rfl rfl) ?_
 refine lp (.bool (decide (z75 ≤ x65))) (pu_pickF (q := (decide (x65 < 0))) rfl hq73 rfl) ?_
 refine lp (.bool (decide (z75 ≤ x65))) (pu_move rfl) ?_
 rcases bS (decide (z75 ≤ x65)) with hq77 | hq77
 replace hb := tt hq77 hb
 refine gs rfl rfl (decide (z75 ≤ x65)) rfl hq77 ?_
 refine gs rfl rfl (decide (z75 ≤ x65)) rfl hq77 ?_
 refine gs rfl rfl (decide (z75 ≤ x65)) rfl hq77 ?_
 refine lp (.bool true) (pu_pickT (q := (decide (z75 ≤ x65))) rfl hq77 rfl) ?_
 refine lp (.bool true) (pu_move rfl) ?_
 refine gs rfl rfl true rfl rfl ?_
 refine gs rfl rfl true rfl rfl ?_
 refine gs rfl rfl true rfl rfl ?_
 refine gs rfl rfl true rfl rfl ?_
 refine gs rfl rfl true rfl rfl ?_
 refine gs rfl rfl true rfl rfl ?_
 refine gs rfl rfl true rfl rfl ?_
 refine lp (.bool true) (pu_pickT (q := true) rfl rfl rfl) ?_
 refine ln ?_
 refine hK72 _ _ ?_
 refine Wc.cond_true (rfl) ?_
 refine Wc.seq fun K78 hK78 => ?_
 refine rg ?_
 refine lp (.bool false) (pu_assign rfl) ?_
 refine ln ?_
 refine hK78 _ _ ?_
 obtain rfl := os hb
 obtain rfl := (lX hl1).symm
 replace hb := hbK1
 obtain rfl := os hb
 refine Wc.ret ?_
 refine hKR _ _ ?_
 refine ⟨_, res1 Try.results28 (show RV _ _ _ (.tmp _) (.bool false) from rfl), _, rfl, rfl, hC.sel [] (by decide)⟩
 replace hb := tf hq77 hb
 refine gp rfl rfl (decide (z75 ≤ x65)) rfl hq77 (.int .i64 x65) (pu_move rfl) ?_
 refine gp rfl rfl (decide (z75 ≤ x65)) rfl hq77 (.int .i64 v48_1) (pu_move rfl) ?_
 refine gp rfl rfl (decide (z75 ≤ x65)) rfl hq77 (.bool (decide (x65 = v48_1))) (pu_eql (k := .i64) (a := x65) (b := v48_1) rfl rfl) ?_
 refine lp (.bool (decide (x65 = v48_1))) (pu_pickF (q := (decide (z75 ≤ x65))) rfl hq77 rfl) ?_
 refine lp (.bool (decide (x65 = v48_1))) (pu_move rfl) ?_
 rcases bS (decide (x65 = v48_1)) with hq79 | hq79
 replace hb := tt hq79 hb
 refine gs rfl rfl (decide (x65 = v48_1)) rfl hq79 ?_
 refine gs rfl rfl (decide (x65 = v48_1)) rfl hq79 ?_
 refine gs rfl rfl (decide (x65 = v48_1)) rfl hq79 ?_
 refine gs rfl rfl (decide (x65 = v48_1)) rfl hq79 ?_
 refine gs rfl rfl (decide (x65 = v48_1)) rfl hq79 ?_
 refine gs rfl rfl (decide (x65 = v48_1)) rfl hq79 ?_
 refine gs rfl rfl (decide (x65 = v48_1)) rfl hq79 ?_
 refine lp (.bool true) (pu_pickT (q := (decide (x65 = v48_1))) rfl hq79 rfl) ?_
 refine ln ?_
 refine hK72 _ _ ?_
 refine Wc.cond_true (rfl) ?_
 refine Wc.seq fun K80 hK80 => ?_
 refine rg ?_
 refine lp (.bool false) (pu_assign rfl) ?_
 refine ln ?_
 refine hK80 _ _ ?_
 obtain rfl := os hb
 obtain rfl := (lX hl1).symm
 replace hb := hbK1
 obtain rfl := os hb
 refine Wc.ret ?_
 refine hKR _ _ ?_
 refine ⟨_, res1 Try.results28 (show RV _ _ _ (.tmp _) (.bool false) from rfl), _, rfl, rfl, hC.sel [] (by decide)⟩
 replace hb := tf hq79 hb
 refine gp rfl rfl (decide (x65 = v48_1)) rfl hq79 (.pointer (some ((⟨g4, 0, none⟩ : Addr).add 1))) (pu_field (sz := 1) Try.underlying28 rfl Try.sizeOf22 (by decide) rfl e1) ?_
 refine gv rfl rfl (decide (x65 = v48_1)) rfl hq79 (.slice (some ad67) d_0_1.length cd_0_1) (ld_fld (hC.bx (i := 0) rfl) Try.isAgg22 rfl rfl) ?_
 refine gp rfl rfl (decide (x65 = v48_1)) rfl hq79 (.int .i64 x65) (pu_move rfl) ?_
 obtain ⟨x81, h82, hb⟩ := bd hb
 obtain ⟨ad83, cs84, hA, hc85, hr86⟩ := hC.elr (i := 2) rfl (get_some h82).2
 obtain rfl := Option.some.inj hA
 refine gp rfl rfl (decide (x65 = v48_1)) rfl hq79 (.pointer (some (ad67.add (x65.toNat * 1)))) (pu_index (a := x65) Try.underlying22 Try.sizeOf3 rfl rfl (get_some h82).1) ?_
 obtain ⟨rfl, hr86'⟩ := hr86
 refine gv rfl rfl (decide (x65 = v48_1)) rfl hq79 (.int .i64 x81) (ld_one Try.isAgg3 rfl (hc85 0 _ rfl)) ?_
 refine gp rfl rfl (decide (x65 = v48_1)) rfl hq79 (.int .i64 v48_1) (pu_move rfl) ?_
 refine gp rfl rfl (decide (x65 = v48_1)) rfl hq79 (.bool (!(decide (x81 = v48_1)))) (pu_neq (k := .i64) (a := x81) (b := v48_1) rfl rfl) ?_
 refine lp (.bool (!(decide (x81 = v48_1)))) (pu_pickF (q := (decide (x65 = v48_1))) rfl hq79 rfl) ?_
 refine ln ?_
 refine hK72 _ _ ?_
 refine Wc.cond (t := (!(decide (x81 = v48_1)))) (rfl) (fun hq87 => ?_) (fun hq87 => ?_)
 replace hb := tt hq87 hb
 refine Wc.seq fun K88 hK88 => ?_
 refine rg ?_
 refine lp (.bool false) (pu_assign rfl) ?_
 refine ln ?_
 refine hK88 _ _ ?_
 obtain rfl := os hb
 obtain rfl := (lX hl1).symm
 replace hb := hbK1
 obtain rfl := os hb
 refine Wc.ret ?_
 refine hKR _ _ ?_
 refine ⟨_, res1 Try.results28 (show RV _ _ _ (.tmp _) (.bool false) from rfl), _, rfl, rfl, hC.sel [] (by decide)⟩
 replace hb := tf hq87 hb
 refine Wc.skip ?_
 refine hK71 _ _ ?_
 refine Wc.fresh fun E89 hE => ?_
 have e1 := (congrFun hE 1).trans e1
 have e2 := (congrFun hE 2).trans e2
 have e3 := (congrFun hE 3).trans e3
 have e6 : E89 6 = .int .i64 v48_1 := (congrFun hE 6).trans rfl
 have e7 : E89 7 = .int .i64 x65 := (congrFun hE 7).trans rfl
 have e46 := (congrFun hE 46).trans e46
 have e47 := (congrFun hE 47).trans e47
 have e48 := (congrFun hE 48).trans e48
 have e49 : E89 49 = .bool (decide (v48_1 < (d_0_1.length : Int))) := (congrFun hE 49).trans rfl
 have e74 : E89 74 = .bool (!(decide (x81 = v48_1))) := (congrFun hE 74).trans rfl
 clear hE
 refine Wc.seq fun K90 hK90 => ?_
 refine Wc.regionMix [] (frm [] ([] : List Fact) ([] : List Fact)) (fun _ => rfl) mixed (by decide +kernel) (by decide +kernel) fun w92 hw91 => ?_
 replace hC := hC.step (Fr.of_drew hw91)
 have hM := Fr.refl (fun k => k ∈ blocks ([] : List Fact)) w92
 clear hw91
 have hS := hC
 refine mixE.load hM (v := .agg #[.slice Ad_0_0 d_0_0.length cd_0_0, .slice (some ad67) d_0_1.length cd_0_1, .int .i64 d_0_2]) (fun _ hF => ld_blk (hS.bx2 (i := 0) rfl [] (by decide) hF) Try.isAgg28 Try.sizeOf28 e1) ?_
 refine mp (.int .i64 v48_1) (pu_move e6) ?_
 obtain ⟨y93, h94, hb⟩ := bd hb
 refine mixE.cl hM (⟨_, _, op_call (vs := [.agg #[.slice Ad_0_0 d_0_0.length cd_0_0, .slice (some ad67) d_0_1.length cd_0_1, .int .i64 d_0_2], .int .i64 v48_1]) Try.call52 rfl rfl rfl, diagram_outgoing_ok n hC.lt (hC.rd (i := 1) rfl) (hC.rd (i := 2) rfl) hd_0_2 hrv48_1 h94⟩) ?_
 rintro _ w95 ⟨rfl, hK⟩
 replace hM := hM.none hK.fr
 refine ⟨hM, ?_⟩
 replace hC := hC.merge hK
 clear hK
 refine mixE.load hM (v := .agg #[.slice Ad_0_0 d_0_0.length cd_0_0, .slice (some ad67) d_0_1.length cd_0_1, .int .i64 d_0_2]) (fun _ hF => ld_blk (hS.bx2 (i := 0) rfl [] (by decide) hF) Try.isAgg28 Try.sizeOf28 e1) ?_
 refine mp (.int .i64 x65) (pu_move e7) ?_
 obtain ⟨y96, h97, hb⟩ := bd hb
 refine mixE.cl hM (⟨_, _, op_call (vs := [.agg #[.slice Ad_0_0 d_0_0.length cd_0_0, .slice (some ad67) d_0_1.length cd_0_1, .int .i64 d_0_2], .int .i64 x65]) Try.call52 rfl rfl rfl, diagram_outgoing_ok n hC.lt (hC.rd (i := 1) rfl) (hC.rd (i := 2) rfl) hd_0_2 (wrap_I64 hr70') h97⟩) ?_
 rintro _ w98 ⟨rfl, hK⟩
 replace hM := hM.none hK.fr
 refine ⟨hM, ?_⟩
 replace hC := hC.merge hK
 clear hK
 refine mp (.bool (y93 == y96)) (pu_eqlb (p := y93) (q := y96) Try.underlying4 rfl rfl) ?_
 refine mixE.nil ?_
 clear hS hM
 refine hK90 _ _ ?_
 refine Wc.cond (t := (y93 == y96)) (rfl) (fun hq99 => ?_) (fun hq99 => ?_)
 replace hb := tt hq99 hb
 refine Wc.seq fun K100 hK100 => ?_
 refine rg ?_
 refine lp (.bool false) (pu_assign rfl) ?_
 refine ln ?_
 refine hK100 _ _ ?_
 obtain rfl := os hb
 obtain rfl := (lX hl1).symm
 replace hb := hbK1
 obtain rfl := os hb
 refine Wc.ret ?_
 refine hKR _ _ ?_
 refine ⟨_, res1 Try.results28 (show RV _ _ _ (.tmp _) (.bool false) from rfl), _, rfl, rfl, hC.sel [] (by decide)⟩
 replace hb := tf hq99 hb
 refine Wc.skip ?_
 refine hK63 _ _ ?_
 refine rg ?_
 obtain ⟨z101, h102, hb⟩ := bd hb
 refine lp (.int .i64 z101) (pu_addc (a := v48_1) (b := 1) e48 rfl h102) ?_
 refine lp (.int .i64 z101) (pu_move rfl) ?_
 refine ln ?_
 obtain rfl := os hb
 exact hK55 m56' _ _ (Nat.lt_succ_self _) ⟨z101, e1, e2, e3, e46, e47, rfl, (chk_rng h102), hC.sel [0, 1, 2] (by decide), lN hl1⟩
 replace hb := tf hq62 hb
 refine Wc.exit rfl ?_
 obtain rfl := os hb
 obtain rfl := (lX hl1).symm
 exact hK54 _ _ ⟨v48_1, e1, e2, hrv48_1, hC.sel [0, 1, 2] (by decide), hbK1⟩
 clear hb hC hl1
 rintro E104 w103 ⟨v48_1, e1, e2, hrv48_1, hC, hb⟩
 refine hK51 _ _ ?_
 refine Wc.seq fun K105 hK105 => ?_
 refine rg ?_
 refine lv (.agg #[.slice Ad_0_0 d_0_0.length cd_0_0, .slice Ad_0_1 d_0_1.length cd_0_1, .int .i64 d_0_2]) (ld_blk (hC.bx (i := 0) rfl) Try.isAgg28 Try.sizeOf28 e1) ?_
 obtain ⟨y106, h107, hb⟩ := bd hb
 refine lex.cl (⟨_, _, op_call (vs := [.agg #[.slice Ad_0_0 d_0_0.length cd_0_0, .slice Ad_0_1 d_0_1.length cd_0_1, .int .i64 d_0_2]]) Try.call53 rfl rfl rfl, diagram_spherical_ok n hC.lt (hC.rd (i := 1) rfl) (hC.rd (i := 2) rfl) hd_0_2 h107⟩) ?_
 rintro _ w108 ⟨rfl, hK⟩
 replace hC := hC.merge hK
 clear hK
 refine lp (.bool y106) (pu_assign rfl) ?_
 refine ln ?_
 refine hK105 _ _ ?_
 obtain rfl := os hb
 refine Wc.ret ?_
 refine hKR _ _ ?_
 refine ⟨_, res1 Try.results28 (show RV _ _ _ (.tmp _) (.bool y106) from rfl), _, rfl, rfl, hC.sel [] (by decide)⟩

set_option maxRecDepth 100000 in
set_option maxHeartbeats 4000000 in
theorem diagram_Strands_c1_ok (n : Nat) {w : World} {O0 : List Nat} (hO : ∀ k ∈ O0, k < w.heap.size) {h_0 : Int} (hh_0 : I64 h_0) {gu_1 : Nat} {Au_1_0 : Option Addr} {mu_1_0 cu_1_0 : Nat} {u_1_0 : List Int} (hu_1_0 : Rep O0 w (.sl (.int .i64)) [.slice Au_1_0 mu_1_0 cu_1_0] u_1_0) {Au_1_1 : Option Addr} {mu_1_1 cu_1_1 : Nat} {u_1_1 : List Int} (hu_1_1 : Rep O0 w (.sl (.int .i64)) [.slice Au_1_1 mu_1_1 cu_1_1] u_1_1) {u_1_2 : Int} (hu_1_2 : I64 u_1_2) (hio : Tk O0 w [.box gu_1 28 [.slice Au_1_0 mu_1_0 cu_1_0, .slice Au_1_1 mu_1_1 cu_1_1, .int .i64 u_1_2]]) {r : Bool} (hb : F.diagram_Strands_c1 n h_0 u_1_0 u_1_1 u_1_2 = some r) :
    Calls Try.prog 76 #[.int .i64 h_0, .pointer (some ⟨gu_1, 0, none⟩)] w fun e w' => ∃ v, e = .returned v ∧ v = .bool r ∧ Cx (fun k => k ∈ blocks [.box gu_1 28 [.slice Au_1_0 mu_1_0 cu_1_0, .slice Au_1_1 mu_1_1 cu_1_1, .int .i64 u_1_2]]) O0 w w' [.box gu_1 28 [.slice Au_1_0 mu_1_0 cu_1_0, .slice Au_1_1 mu_1_1 cu_1_1, .int .i64 u_1_2]] := by
 unfold F.diagram_Strands_c1 at hb
 have hC := Cx.startTk hO hio
 have hsub := hio.2.2
 replace hC := hC.argTk (by first | exact hsub | exact fun k hk => hsub k (by simpa [blocks, Fact.blk] using hk)) hu_1_0
 replace hC := hC.argTk (by first | exact hsub | exact fun k hk => hsub k (by simpa [blocks, Fact.blk] using hk)) hu_1_1
 clear hO
 obtain ⟨rfl, hlu_1_0, hcu_1_0⟩ := hu_1_0.sl_len
 obtain ⟨rfl, hlu_1_1, hcu_1_1⟩ := hu_1_1.sl_len
 clear hio hsub
 obtain ⟨I, hI, hC⟩ : ∃ I : Nat → Prop, I = (fun k => k ∈ blocks [.box gu_1 28 [.slice Au_1_0 u_1_0.length cu_1_0, .slice Au_1_1 u_1_1.length cu_1_1, .int .i64 u_1_2]]) ∧ Cx I O0 w w ([.ro (.sl (.int .i64)) [.slice Au_1_1 u_1_1.length cu_1_1] u_1_1, .ro (.sl (.int .i64)) [.slice Au_1_0 u_1_0.length cu_1_0] u_1_0, .box gu_1 28 [.slice Au_1_0 u_1_0.length cu_1_0, .slice Au_1_1 u_1_1.length cu_1_1, .int .i64 u_1_2]]) := ⟨_, rfl, hC⟩
 refine calls_of_Wc Try.func76 rfl (by rw [Try.ntmps76]; exact Nat.le_of_ble_eq_true rfl) fun KR hKR => ?_
 refine Wc.seq fun K4 hK4 => ?_
 refine rg ?_
 refine lp (.bool false) (pu_assign rfl) ?_
 refine ln ?_
 refine hK4 _ _ ?_
 refine Wc.seq fun K5 hK5 => ?_
 refine rg ?_
 refine lv (.agg #[.slice Au_1_0 u_1_0.length cu_1_0, .slice Au_1_1 u_1_1.length cu_1_1, .int .i64 u_1_2]) (ld_blk (hC.bx (i := 2) rfl) Try.isAgg28 Try.sizeOf28 rfl) ?_
 refine lp (.int .i64 h_0) (pu_move rfl) ?_
 obtain ⟨y6, h7, hb⟩ := bd hb
 refine lex.cl (⟨_, _, op_call (vs := [.agg #[.slice Au_1_0 u_1_0.length cu_1_0, .slice Au_1_1 u_1_1.length cu_1_1, .int .i64 u_1_2], .int .i64 h_0]) Try.call52 rfl rfl rfl, diagram_outgoing_ok n hC.lt (hC.rd (i := 1) rfl) (hC.rd (i := 0) rfl) hu_1_2 hh_0 h7⟩) ?_
 rintro _ w8 ⟨rfl, hK⟩
 replace hC := hC.merge hK
 clear hK
 refine lp (.bool y6) (pu_assign rfl) ?_
 refine ln ?_
 refine hK5 _ _ ?_
 obtain rfl := os hb
 subst hI
 refine Wc.ret ?_
 refine hKR _ _ ?_
 refine ⟨_, res1 Try.results76 (show RV _ _ _ (.tmp _) (.bool y6) from rfl), _, rfl, rfl, hC.sel [2] (by decide)⟩

set_option maxRecDepth 100000 in
set_option maxHeartbeats 4000000 in
theorem diagram_Opposite_ok (n : Nat) {w : World} {O0 : List Nat} (hO : ∀ k ∈ O0, k < w.heap.size) {h_0 : Int} (hh_0 : I64 h_0) {r : Int} (hb : F.diagram_Opposite n h_0 = some r) :
    Calls Try.prog 79 #[.int .i64 h_0] w fun e w' => ∃ v, e = .returned v ∧ v = .int .i64 r ∧ I64 r ∧ Cx (fun _ => False) O0 w w' [] := by
 unfold F.diagram_Opposite at hb
 have hC := Cx.start hO
 clear hO
 refine calls_of_Wc Try.func79 rfl (by rw [Try.ntmps79]; exact Nat.le_of_ble_eq_true rfl) fun KR hKR => ?_
 refine Wc.seq fun K1 hK1 => ?_
 refine rg ?_
 refine lp (.int .i64 0) (pu_assign rfl) ?_
 refine ln ?_
 refine hK1 _ _ ?_
 refine Wc.seq fun K2 hK2 => ?_
 refine rg ?_
 refine lp (.int .i64 h_0) (pu_move rfl) ?_
 obtain ⟨y3, h4, hb⟩ := bd hb
 refine lex.cl (⟨_, _, op_call (vs := [.int .i64 h_0, .int .i64 2]) Try.call75 rfl rfl rfl, diagram_Turn_ok n hC.lt hh_0 (show I64 2 from by unfold I64; omega) h4⟩) ?_
 rintro _ w6 ⟨rfl, hr5, hK⟩
 replace hC := hC.merge hK
 clear hK
 refine lp (.int .i64 y3) (pu_assign rfl) ?_
 refine ln ?_
 refine hK2 _ _ ?_
 obtain rfl := os hb
 refine Wc.ret ?_
 refine hKR _ _ ?_
 refine ⟨_, res1 Try.results79 (show RV _ _ _ (.tmp _) (.int .i64 y3) from rfl), _, rfl, rfl, hr5, hC.sel [] (by decide)⟩

set_option maxRecDepth 100000 in
set_option maxHeartbeats 4000000 in
theorem diagram_Strands_c2_ok (n : Nat) {w : World} {O0 : List Nat} (hO : ∀ k ∈ O0, k < w.heap.size) {h_0 : Int} (hh_0 : I64 h_0) {gu_1 : Nat} {Au_1_0 : Option Addr} {mu_1_0 cu_1_0 : Nat} {u_1_0 : List Int} (hu_1_0 : Rep O0 w (.sl (.int .i64)) [.slice Au_1_0 mu_1_0 cu_1_0] u_1_0) {Au_1_1 : Option Addr} {mu_1_1 cu_1_1 : Nat} {u_1_1 : List Int} (hu_1_1 : Rep O0 w (.sl (.int .i64)) [.slice Au_1_1 mu_1_1 cu_1_1] u_1_1) {u_1_2 : Int} (hu_1_2 : I64 u_1_2) (hio : Tk O0 w [.box gu_1 28 [.slice Au_1_0 mu_1_0 cu_1_0, .slice Au_1_1 mu_1_1 cu_1_1, .int .i64 u_1_2]]) {r : Int} (hb : F.diagram_Strands_c2 n h_0 u_1_0 u_1_1 u_1_2 = some r) :
    Calls Try.prog 78 #[.int .i64 h_0, .pointer (some ⟨gu_1, 0, none⟩)] w fun e w' => ∃ v, e = .returned v ∧ v = .int .i64 r ∧ I64 r ∧ Cx (fun k => k ∈ blocks [.box gu_1 28 [.slice Au_1_0 mu_1_0 cu_1_0, .slice Au_1_1 mu_1_1 cu_1_1, .int .i64 u_1_2]]) O0 w w' [.box gu_1 28 [.slice Au_1_0 mu_1_0 cu_1_0, .slice Au_1_1 mu_1_1 cu_1_1, .int .i64 u_1_2]] := by
 unfold F.diagram_Strands_c2 at hb
 have hC := Cx.startTk hO hio
 have hsub := hio.2.2
 replace hC := hC.argTk (by first | exact hsub | exact fun k hk => hsub k (by simpa [blocks, Fact.blk] using hk)) hu_1_0
 replace hC := hC.argTk (by first | exact hsub | exact fun k hk => hsub k (by simpa [blocks, Fact.blk] using hk)) hu_1_1
 clear hO
 obtain ⟨rfl, hlu_1_0, hcu_1_0⟩ := hu_1_0.sl_len
 obtain ⟨rfl, hlu_1_1, hcu_1_1⟩ := hu_1_1.sl_len
 clear hio hsub
 obtain ⟨I, hI, hC⟩ : ∃ I : Nat → Prop, I = (fun k => k ∈ blocks [.box gu_1 28 [.slice Au_1_0 u_1_0.length cu_1_0, .slice Au_1_1 u_1_1.length cu_1_1, .int .i64 u_1_2]]) ∧ Cx I O0 w w ([.ro (.sl (.int .i64)) [.slice Au_1_1 u_1_1.length cu_1_1] u_1_1, .ro (.sl (.int .i64)) [.slice Au_1_0 u_1_0.length cu_1_0] u_1_0, .box gu_1 28 [.slice Au_1_0 u_1_0.length cu_1_0, .slice Au_1_1 u_1_1.length cu_1_1, .int .i64 u_1_2]]) := ⟨_, rfl, hC⟩
 refine calls_of_Wc Try.func78 rfl (by rw [Try.ntmps78]; exact Nat.le_of_ble_eq_true rfl) fun KR hKR => ?_
 refine Wc.seq fun K4 hK4 => ?_
 refine rg ?_
 refine lp (.int .i64 0) (pu_assign rfl) ?_
 refine ln ?_
 refine hK4 _ _ ?_
 refine Wc.seq fun K5 hK5 => ?_
 refine rg ?_
 refine lp (.pointer (some ((⟨gu_1, 0, none⟩ : Addr).add 1))) (pu_field (sz := 1) Try.underlying28 rfl Try.sizeOf22 (by decide) rfl rfl) ?_
 refine lv (.slice Au_1_1 u_1_1.length cu_1_1) (ld_fld (hC.bx (i := 2) rfl) Try.isAgg22 rfl rfl) ?_
 refine lp (.int .i64 h_0) (pu_move rfl) ?_
 obtain ⟨x6, h7, hb⟩ := bd hb
 obtain ⟨ad8, cs9, hA, hc10, hr11⟩ := hC.elr (i := 0) rfl (get_some h7).2
 subst hA
 refine lp (.pointer (some (ad8.add (h_0.toNat * 1)))) (pu_index (a := h_0) Try.underlying22 Try.sizeOf3 rfl rfl (get_some h7).1) ?_
 obtain ⟨rfl, hr11'⟩ := hr11
 refine lv (.int .i64 x6) (ld_one Try.isAgg3 rfl (hc10 0 _ rfl)) ?_
 obtain ⟨y12, h13, hb⟩ := bd hb
 refine lex.cl (⟨_, _, op_call (vs := [.int .i64 x6]) Try.call79 rfl rfl rfl, diagram_Opposite_ok n hC.lt (wrap_I64 hr11') h13⟩) ?_
 rintro _ w15 ⟨rfl, hr14, hK⟩
 replace hC := hC.merge hK
 clear hK
 refine lp (.int .i64 y12) (pu_assign rfl) ?_
 refine ln ?_
 refine hK5 _ _ ?_
 obtain rfl := os hb
 subst hI
 refine Wc.ret ?_
 refine hKR _ _ ?_
 refine ⟨_, res1 Try.results78 (show RV _ _ _ (.tmp _) (.int .i64 y12) from rfl), _, rfl, rfl, hr14, hC.sel [2] (by decide)⟩

set_option maxRecDepth 100000 in
set_option maxHeartbeats 4000000 in
theorem diagram_cycle_diagram_Strands_c2_ok (n : Nat) {w : World} {O0 : List Nat} (hO : ∀ k ∈ O0, k < w.heap.size) {start_0 : Int} (hstart_0 : I64 start_0) {gnext_1_0 : Nat} {Anext_1_0_0 : Option Addr} {mnext_1_0_0 cnext_1_0_0 : Nat} {next_1_0_0 : List Int} (hnext_1_0_0 : Rep O0 w (.sl (.int .i64)) [.slice Anext_1_0_0 mnext_1_0_0 cnext_1_0_0] next_1_0_0) {Anext_1_0_1 : Option Addr} {mnext_1_0_1 cnext_1_0_1 : Nat} {next_1_0_1 : List Int} (hnext_1_0_1 : Rep O0 w (.sl (.int .i64)) [.slice Anext_1_0_1 mnext_1_0_1 cnext_1_0_1] next_1_0_1) {next_1_0_2 : Int} (hnext_1_0_2 : I64 next_1_0_2) (hio : Tk O0 w [.box gnext_1_0 28 [.slice Anext_1_0_0 mnext_1_0_0 cnext_1_0_0, .slice Anext_1_0_1 mnext_1_0_1 cnext_1_0_1, .int .i64 next_1_0_2]]) {r : (List Int)} (hb : F.diagram_cycle_diagram_Strands_c2 n start_0 next_1_0_0 next_1_0_1 next_1_0_2 = some r) :
    Calls Try.prog 85 #[.int .i64 start_0, .func (.func 78) #[] #[.pointer (some ⟨gnext_1_0, 0, none⟩)]] w fun e w' => ∃ v, e = .returned v ∧ ∃ (A0 : Option Addr) (m0 c0 : Nat), v = .slice A0 m0 c0 ∧ Cx (fun k => k ∈ blocks [.box gnext_1_0 28 [.slice Anext_1_0_0 mnext_1_0_0 cnext_1_0_0, .slice Anext_1_0_1 mnext_1_0_1 cnext_1_0_1, .int .i64 next_1_0_2]]) O0 w w' [.own 3 (.int .i64) (.slice A0 m0 c0) r, .box gnext_1_0 28 [.slice Anext_1_0_0 mnext_1_0_0 cnext_1_0_0, .slice Anext_1_0_1 mnext_1_0_1 cnext_1_0_1, .int .i64 next_1_0_2]] := by
 unfold F.diagram_cycle_diagram_Strands_c2 at hb
 have hC := Cx.startTk hO hio
 have hsub := hio.2.2
 replace hC := hC.argTk (by first | exact hsub | exact fun k hk => hsub k (by simpa [blocks, Fact.blk] using hk)) hnext_1_0_0
 replace hC := hC.argTk (by first | exact hsub | exact fun k hk => hsub k (by simpa [blocks, Fact.blk] using hk)) hnext_1_0_1
 clear hO
 obtain ⟨rfl, hlnext_1_0_0, hcnext_1_0_0⟩ := hnext_1_0_0.sl_len
 obtain ⟨rfl, hlnext_1_0_1, hcnext_1_0_1⟩ := hnext_1_0_1.sl_len
 clear hio hsub
 obtain ⟨I, hI, hC⟩ : ∃ I : Nat → Prop, I = (fun k => k ∈ blocks [.box gnext_1_0 28 [.slice Anext_1_0_0 next_1_0_0.length cnext_1_0_0, .slice Anext_1_0_1 next_1_0_1.length cnext_1_0_1, .int .i64 next_1_0_2]]) ∧ Cx I O0 w w ([.ro (.sl (.int .i64)) [.slice Anext_1_0_1 next_1_0_1.length cnext_1_0_1] next_1_0_1, .ro (.sl (.int .i64)) [.slice Anext_1_0_0 next_1_0_0.length cnext_1_0_0] next_1_0_0, .box gnext_1_0 28 [.slice Anext_1_0_0 next_1_0_0.length cnext_1_0_0, .slice Anext_1_0_1 next_1_0_1.length cnext_1_0_1, .int .i64 next_1_0_2]]) := ⟨_, rfl, hC⟩
 refine calls_of_Wc Try.func85 rfl (by rw [Try.ntmps85]; exact Nat.le_of_ble_eq_true rfl) fun KR hKR => ?_
 refine Wc.seq fun K4 hK4 => ?_
 refine rg ?_
 refine lp (.slice none 0 0) (pu_assign rfl) ?_
 refine ln ?_
 refine hK4 _ _ ?_
 refine Wc.seq fun K5 hK5 => ?_
 refine rg ?_
 refine lp (.int .i64 start_0) (pu_move rfl) ?_
 refine lex.op (hC.lit (s := (.int .i64)) (vs := [.int .i64 start_0]) (xs := [start_0]) Try.underlying22 Try.type3 rfl rfl (Nat.le_of_ble_eq_true rfl) rfl rfl (by simp [Value.cells, Sh.n]) rfl (show Elems _ _ (.int .i64) ([.int .i64 start_0] ++ ([])) ([start_0] : List Int) from Elems.cons (⟨rfl, I64.wr hstart_0⟩) (Elems.nil _ _ _))) ?_
 rintro _ w10 ⟨A6, c7, rfl, hl8, hc9, hC, hF, hN⟩
 clear hF hN
 refine lp (.slice A6 ((([start_0] : List Int)).length) c7) (pu_assign rfl) ?_
 refine ln ?_
 refine hK5 _ _ ?_
 refine Wc.seq fun K12 hK12 => ?_
 refine Wc.seq fun K13 hK13 => ?_
 refine rg ?_
 refine lp (.func (.func 78) #[] #[.pointer (some ⟨gnext_1_0, 0, none⟩)]) (pu_move rfl) ?_
 refine lp (.int .i64 start_0) (pu_move rfl) ?_
 replace hC : Cx I O0 w w10 ([.box gnext_1_0 28 [.slice Anext_1_0_0 next_1_0_0.length cnext_1_0_0, .slice Anext_1_0_1 next_1_0_1.length cnext_1_0_1, .int .i64 next_1_0_2]] ++ [.own 3 (.int .i64) (.slice A6 ((([start_0] : List Int)).length) c7) ([start_0] : List Int), .ro (.sl (.int .i64)) [.slice Anext_1_0_1 next_1_0_1.length cnext_1_0_1] next_1_0_1, .ro (.sl (.int .i64)) [.slice Anext_1_0_0 next_1_0_0.length cnext_1_0_0] next_1_0_0]) := hC.sel [3, 0, 1, 2] (by decide)
 obtain ⟨y14, h15, hb⟩ := bd hb
 refine lex.cl (⟨_, _, op_callv (vs := [.int .i64 start_0, .pointer (some ⟨gnext_1_0, 0, none⟩)]) (ca := #[.pointer (some ⟨gnext_1_0, 0, none⟩)]) Try.call78 rfl rfl rfl, diagram_Strands_c2_ok n hC.lt hstart_0 (hC.rd (i := 3) rfl) (hC.rd (i := 2) rfl) hnext_1_0_2 hC.give h15⟩) ?_
 rintro _ w17 ⟨rfl, hr16, hK⟩
 replace hC := hC.back hK
 clear hK
 refine lp (.int .i64 y14) (pu_assign rfl) ?_
 refine ln ?_
 refine hK13 _ _ ?_
 obtain ⟨o18, hl0, hb⟩ := bd hb
 refine Wc.cut (fun E wv => ∃ (l5_0 : List Int) (v6_0 : Int) (Al5_0 : Option Addr) (ml5_0 cl5_0 : Nat), E 4 = .slice none 0 0 ∧ E 5 = .slice Al5_0 ml5_0 cl5_0 ∧ I64 v6_0 ∧ Cx I O0 w wv [.own 3 (.int .i64) (.slice Al5_0 ml5_0 cl5_0) l5_0, .box gnext_1_0 28 [.slice Anext_1_0_0 next_1_0_0.length cnext_1_0_0, .slice Anext_1_0_1 next_1_0_1.length cnext_1_0_1, .int .i64 next_1_0_2], .ro (.sl (.int .i64)) [.slice Anext_1_0_0 next_1_0_0.length cnext_1_0_0] next_1_0_0, .ro (.sl (.int .i64)) [.slice Anext_1_0_1 next_1_0_1.length cnext_1_0_1] next_1_0_1] ∧ (some l5_0 : Option ((List Int))) = some r) (fun K19 hK19 => ?_) ?_
 refine Wc.block ?_
 refine Wc.loop (fun m E wv => ∃ (l5_0 : List Int) (v6_0 : Int) (Al5_0 : Option Addr) (ml5_0 cl5_0 : Nat), E 0 = .int .i64 start_0 ∧ E 1 = .func (.func 78) #[] #[.pointer (some ⟨gnext_1_0, 0, none⟩)] ∧ E 4 = .slice none 0 0 ∧ E 5 = .slice Al5_0 ml5_0 cl5_0 ∧ E 6 = .int .i64 v6_0 ∧ I64 v6_0 ∧ Cx I O0 w wv [.box gnext_1_0 28 [.slice Anext_1_0_0 next_1_0_0.length cnext_1_0_0, .slice Anext_1_0_1 next_1_0_1.length cnext_1_0_1, .int .i64 next_1_0_2], .ro (.sl (.int .i64)) [.slice Anext_1_0_0 next_1_0_0.length cnext_1_0_0] next_1_0_0, .ro (.sl (.int .i64)) [.slice Anext_1_0_1 next_1_0_1.length cnext_1_0_1] next_1_0_1, .own 3 (.int .i64) (.slice Al5_0 ml5_0 cl5_0) l5_0] ∧ loopN m (F.diagram_cycle_diagram_Strands_c2_b0 n start_0 next_1_0_0 next_1_0_1 next_1_0_2) (l5_0, v6_0) = some o18) n ⟨([start_0] : List Int), y14, A6, (([start_0] : List Int)).length, c7, rfl, rfl, rfl, rfl, rfl, hr16, hC.sel [0, 3, 2, 1] (by decide), hl0⟩ ?_
 have hbK0 := hb
 clear hb hC hl0
 rintro m21 E23 w22 ⟨l5_0, v6_0, Al5_0, ml5_0, cl5_0, e0, e1, e4, e5, e6, hrv6_0, hC, hl0⟩ K20 hK20
 obtain ⟨m21', o24, rfl, hb, hl0⟩ := loopN_some hl0
 unfold F.diagram_cycle_diagram_Strands_c2_b0 at hb
 obtain ⟨rfl, hll5_0, hcl5_0⟩ := (hC.ow (i := 3) rfl).sl_len
 refine Wc.seq fun K25 hK25 => ?_
 refine Wc.seq fun K26 hK26 => ?_
 refine rg ?_
 refine lp (.int .i64 v6_0) (pu_move e6) ?_
 refine lp (.int .i64 start_0) (pu_move e0) ?_
 refine lp (.bool (!(decide (v6_0 = start_0)))) (pu_neq (k := .i64) (a := v6_0) (b := start_0) rfl rfl) ?_
 refine ln ?_
 refine hK26 _ _ ?_
 refine Wc.cond (t := (!(decide (v6_0 = start_0)))) (rfl) (fun hq27 => ?_) (fun hq27 => ?_)
 replace hb := tt hq27 hb
 refine Wc.skip ?_
 refine hK25 _ _ ?_
 refine Wc.seq fun K28 hK28 => ?_
 refine Wc.block ?_
 refine rg ?_
 refine lp (.slice Al5_0 l5_0.length cl5_0) (pu_move e5) ?_
 refine lp (.int .i64 v6_0) (pu_move e6) ?_
 refine lex.op (hC.lit (s := (.int .i64)) (vs := [.int .i64 v6_0]) (xs := [v6_0]) Try.underlying22 Try.type3 rfl rfl (Nat.le_of_ble_eq_true rfl) rfl rfl (by simp [Value.cells, Sh.n]) rfl (show Elems _ _ (.int .i64) ([.int .i64 v6_0] ++ ([])) ([v6_0] : List Int) from Elems.cons (⟨rfl, I64.wr hrv6_0⟩) (Elems.nil _ _ _))) ?_
 rintro _ w33 ⟨A29, c30, rfl, hl31, hc32, hC, hF, hN⟩
 clear hF hN
 obtain ⟨u35, h36, hb⟩ := bd hb
 refine lex.op (hC.app (i := 4) (s := (.int .i64)) (xs := l5_0) (ys := ([v6_0] : List Int)) (m := ((([v6_0] : List Int)).length)) rfl Try.underlying22 Try.underlying22 Try.type3 rfl rfl rfl (hC.srco (i := 0) rfl) rfl rfl (by have := lim_some h36; simp at this ⊢ <;> omega) (by decide)) ?_
 rintro _ w41 ⟨A37, c38, rfl, hl39, hc40, hC, hF, hN⟩
 clear hF hN
 refine lp (.slice A37 ((l5_0 ++ ([v6_0] : List Int)).length) c38) (pu_assign rfl) ?_
 refine ln ?_
 refine hK28 _ _ ?_
 refine rg ?_
 refine lp (.func (.func 78) #[] #[.pointer (some ⟨gnext_1_0, 0, none⟩)]) (pu_move e1) ?_
 refine lp (.int .i64 v6_0) (pu_move e6) ?_
 replace hC : Cx I O0 w w41 ([.box gnext_1_0 28 [.slice Anext_1_0_0 next_1_0_0.length cnext_1_0_0, .slice Anext_1_0_1 next_1_0_1.length cnext_1_0_1, .int .i64 next_1_0_2]] ++ [.own 3 (.int .i64) (.slice A29 ((([v6_0] : List Int)).length) c30) ([v6_0] : List Int), .ro (.sl (.int .i64)) [.slice Anext_1_0_0 next_1_0_0.length cnext_1_0_0] next_1_0_0, .ro (.sl (.int .i64)) [.slice Anext_1_0_1 next_1_0_1.length cnext_1_0_1] next_1_0_1, .own 3 (.int .i64) (.slice A37 ((l5_0 ++ ([v6_0] : List Int)).length) c38) (l5_0 ++ ([v6_0] : List Int))]) := hC.sel [1, 0, 2, 3, 4] (by decide)
 obtain ⟨y42, h43, hb⟩ := bd hb
 refine lex.cl (⟨_, _, op_callv (vs := [.int .i64 v6_0, .pointer (some ⟨gnext_1_0, 0, none⟩)]) (ca := #[.pointer (some ⟨gnext_1_0, 0, none⟩)]) Try.call78 rfl rfl rfl, diagram_Strands_c2_ok n hC.lt hrv6_0 (hC.rd (i := 2) rfl) (hC.rd (i := 3) rfl) hnext_1_0_2 hC.give h43⟩) ?_
 rintro _ w45 ⟨rfl, hr44, hK⟩
 replace hC := hC.back hK
 clear hK
 refine lp (.int .i64 y42) (pu_assign rfl) ?_
 refine ln ?_
 obtain rfl := os hb
 exact hK20 m21' _ _ (Nat.lt_succ_self _) ⟨(l5_0 ++ ([v6_0] : List Int)), y42, A37, (l5_0 ++ ([v6_0] : List Int)).length, c38, e0, e1, e4, rfl, rfl, hr44, hC.sel [0, 2, 3, 4] (by decide), lN hl0⟩
 replace hb := tf hq27 hb
 refine Wc.exit rfl ?_
 obtain rfl := os hb
 obtain rfl := (lX hl0).symm
 exact hK19 _ _ ⟨l5_0, v6_0, Al5_0, l5_0.length, cl5_0, e4, e5, hrv6_0, hC.sel [3, 0, 1, 2] (by decide), hbK0⟩
 clear hb hC hl0
 rintro E47 w46 ⟨l5_0, v6_0, Al5_0, ml5_0, cl5_0, e4, e5, hrv6_0, hC, hb⟩
 obtain ⟨rfl, hll5_0, hcl5_0⟩ := (hC.ow (i := 0) rfl).sl_len
 refine hK12 _ _ ?_
 refine Wc.seq fun K48 hK48 => ?_
 refine rg ?_
 refine lp (.slice Al5_0 l5_0.length cl5_0) (pu_move e5) ?_
 refine lp (.slice Al5_0 l5_0.length cl5_0) (pu_assign rfl) ?_
 refine ln ?_
 refine hK48 _ _ ?_
 obtain rfl := os hb
 subst hI
 refine Wc.ret ?_
 refine hKR _ _ ?_
 refine ⟨_, res1 Try.results85 (show RV _ _ _ (.tmp _) (.slice Al5_0 l5_0.length cl5_0) from rfl), _, rfl, Al5_0, l5_0.length, cl5_0, rfl, hC.sel [0, 1] (by decide)⟩
end Go.Proofs.Yticemffhlapnnaa
