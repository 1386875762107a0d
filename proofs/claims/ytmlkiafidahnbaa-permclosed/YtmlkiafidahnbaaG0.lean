/- The walks: part 0. -/
import Derived.Test.YtmlkiafidahnbaaS
set_option linter.unusedVariables false
set_option linter.unusedSimpArgs false
namespace Go.Proofs.Ytmlkiafidahnbaa
open Ev
set_option maxRecDepth 100000 in
set_option maxHeartbeats 4000000 in
theorem perm_Valid_ok (n : Nat) {w : World} {O0 : List Nat} (hO : ∀ k ∈ O0, k < w.heap.size) {Ap_0 : Option Addr} {mp_0 cp_0 : Nat} {p_0 : List Int} (hp_0 : Rep O0 w (.sl (.int .i64)) [.slice Ap_0 mp_0 cp_0] p_0) {r : Bool} (hb : F.perm_Valid n p_0 = some r) :
    Calls Try.prog 19 #[.slice Ap_0 mp_0 cp_0] w fun e w' => ∃ v, e = .returned v ∧ v = .bool r ∧ Cx (fun _ => False) O0 w w' [] := by
 unfold F.perm_Valid at hb
 have hC := Cx.start hO
 replace hC := hC.arg rfl hp_0
 clear hO
 obtain ⟨rfl, hlp_0, hcp_0⟩ := hp_0.sl_len
 refine calls_of_Wc Try.func19 rfl (by rw [Try.ntmps19]; exact Nat.le_of_ble_eq_true rfl) fun KR hKR => ?_
 refine Wc.seq fun K2 hK2 => ?_
 refine rg ?_
 refine lp (.bool false) (pu_assign rfl) ?_
 refine ln ?_
 refine hK2 _ _ ?_
 refine Wc.seq fun K3 hK3 => ?_
 refine rg ?_
 refine lp (.slice Ap_0 p_0.length cp_0) (pu_move rfl) ?_
 refine lp (.int .i64 (p_0.length : Int)) (pu_len (A := Ap_0) (n := p_0.length) (m := cp_0) Try.underlying29 rfl) ?_
 obtain ⟨u4, h5, hb⟩ := bd hb
 refine lex.op (hC.make (s := .bool) (n := (p_0.length : Int)) Try.underlying63 Try.type4 rfl rfl rfl rfl rfl (pos_some h5).1 (pos_some h5).2 (by decide)) ?_
 rintro _ w10 ⟨A6, c7, rfl, hl8, hc9, hC, hF, hN⟩
 clear hF hN
 refine lp (.slice A6 (((List.replicate (p_0.length : Int).toNat false)).length) c7) (pu_assign rfl) ?_
 refine ln ?_
 refine hK3 _ _ ?_
 refine Wc.seq fun K12 hK12 => ?_
 refine Wc.seq fun K13 hK13 => ?_
 refine rg ?_
 refine lp (.slice Ap_0 p_0.length cp_0) (pu_move rfl) ?_
 refine lp (.int .i64 (p_0.length : Int)) (pu_len (A := Ap_0) (n := p_0.length) (m := cp_0) Try.underlying29 rfl) ?_
 refine lp (.int .i64 0) (pu_move rfl) ?_
 refine ln ?_
 refine hK13 _ _ ?_
 obtain ⟨o14, hl0, hb⟩ := bd hb
 refine Wc.cut (fun E wv => ∃ (v11_0 : Int) (qf11_0 : List Bool), E 2 = .bool false ∧ I64 v11_0 ∧ Cx (fun _ => False) O0 w wv [] ∧ (some true : Option (Bool)) = some r) (fun K15 hK15 => ?_) ?_
 refine Wc.block ?_
 refine Wc.loop (fun m E wv => ∃ (v11_0 : Int) (qf11_0 : List Bool), E 0 = .slice Ap_0 p_0.length cp_0 ∧ E 2 = .bool false ∧ E 3 = .slice A6 (((List.replicate (p_0.length : Int).toNat false)).length) c7 ∧ E 9 = .slice Ap_0 p_0.length cp_0 ∧ E 10 = .int .i64 (p_0.length : Int) ∧ E 11 = .int .i64 v11_0 ∧ I64 v11_0 ∧ Cx (fun _ => False) O0 w wv [.ro (.sl (.int .i64)) [.slice Ap_0 p_0.length cp_0] p_0, .own 4 .bool (.slice A6 (((List.replicate (p_0.length : Int).toNat false)).length) c7) qf11_0] ∧ loopN m (F.perm_Valid_b0 n p_0) (v11_0, qf11_0) = some o14) n ⟨0, (List.replicate (p_0.length : Int).toNat false), rfl, rfl, rfl, rfl, rfl, rfl, (show I64 0 from by unfold I64; omega), hC.sel [1, 0] (by decide), hl0⟩ ?_
 have hbK0 := hb
 clear hb hC hl0
 rintro m17 E19 w18 ⟨v11_0, qf11_0, e0, e2, e3, e9, e10, e11, hrv11_0, hC, hl0⟩ K16 hK16
 obtain ⟨m17', o20, rfl, hb, hl0⟩ := loopN_some hl0
 unfold F.perm_Valid_b0 at hb
 refine Wc.seq fun K21 hK21 => ?_
 refine rg ?_
 refine lp (.bool (decide (v11_0 < (p_0.length : Int)))) (pu_lss (k := .i64) (a := v11_0) (b := (p_0.length : Int)) e11 e10) ?_
 refine ln ?_
 refine hK21 _ _ ?_
 refine Wc.seq fun K22 hK22 => ?_
 refine Wc.cond (t := (decide (v11_0 < (p_0.length : Int)))) (rfl) (fun hq23 => ?_) (fun hq23 => ?_)
 replace hb := tt hq23 hb
 refine Wc.skip ?_
 refine hK22 _ _ ?_
 refine Wc.seq fun K24 hK24 => ?_
 refine Wc.block ?_
 refine Wc.seq fun K25 hK25 => ?_
 refine rg ?_
 obtain ⟨x26, h27, hb⟩ := bd hb
 obtain ⟨ad28, cs29, hA, hc30, hr31⟩ := hC.elr (i := 0) rfl (get_some h27).2
 subst hA
 refine lp (.pointer (some (ad28.add (v11_0.toNat * 1)))) (pu_index (a := v11_0) Try.underlying29 Try.sizeOf3 e9 e11 (get_some h27).1) ?_
 obtain ⟨rfl, hr31'⟩ := hr31
 refine lv (.int .i64 x26) (ld_one Try.isAgg3 rfl (hc30 0 _ rfl)) ?_
 refine lp (.int .i64 x26) (pu_assign rfl) ?_
 refine ln ?_
 refine hK25 _ _ ?_
 refine Wc.seq fun K32 hK32 => ?_
 refine Wc.seq fun K33 hK33 => ?_
 refine rg ?_
 refine lp (.int .i64 x26) (pu_move rfl) ?_
 refine lp (.bool (decide (x26 < 0))) (pu_lss (k := .i64) (a := x26) (b := 0) rfl rfl) ?_
 refine lp (.bool (decide (x26 < 0))) (pu_move rfl) ?_
 rcases bS (decide (x26 < 0)) with hq34 | hq34
 replace hb := tt hq34 hb
 refine gs rfl rfl (decide (x26 < 0)) rfl hq34 ?_
 refine gs rfl rfl (decide (x26 < 0)) rfl hq34 ?_
 refine gs rfl rfl (decide (x26 < 0)) rfl hq34 ?_
 refine gs rfl rfl (decide (x26 < 0)) rfl hq34 ?_
 refine lp (.bool true) (pu_pickT (q := (decide (x26 < 0))) rfl hq34 rfl) ?_
 refine lp (.bool true) (pu_move rfl) ?_
 refine gs rfl rfl true rfl rfl ?_
 refine gs rfl rfl true rfl rfl ?_
 refine gs rfl rfl true rfl rfl ?_
 refine gs rfl rfl true rfl rfl ?_
 refine lp (.bool true) (pu_pickT (q := true) rfl rfl rfl) ?_
 refine ln ?_
 refine hK33 _ _ ?_
 refine Wc.cond_true (rfl) ?_
 refine Wc.seq fun K35 hK35 => ?_
 refine rg ?_
 refine lp (.bool false) (pu_assign rfl) ?_
 refine ln ?_
 refine hK35 _ _ ?_
 obtain rfl := os hb
 obtain rfl := (lX hl0).symm
 replace hb := hbK0
 obtain rfl := os hb
 refine Wc.ret ?_
 refine hKR _ _ ?_
 refine ⟨_, res1 Try.results19 (show RV _ _ _ (.tmp _) (.bool false) from rfl), _, rfl, rfl, hC.sel [] (by decide)⟩
 replace hb := tf hq34 hb
 refine gp rfl rfl (decide (x26 < 0)) rfl hq34 (.int .i64 x26) (pu_move rfl) ?_
 refine gp rfl rfl (decide (x26 < 0)) rfl hq34 (.slice (some ad28) p_0.length cp_0) (pu_move e0) ?_
 refine gp rfl rfl (decide (x26 < 0)) rfl hq34 (.int .i64 (p_0.length : Int)) (pu_len (A := (some ad28)) (n := p_0.length) (m := cp_0) Try.underlying29 rfl) ?_
 refine gp rfl rfl (decide (x26 < 0)) rfl hq34 (.bool (decide ((p_0.length : Int) ≤ x26))) (pu_geq (k := .i64) (a := x26) (b := (p_0.length : Int)) rfl rfl) ?_
 refine lp (.bool (decide ((p_0.length : Int) ≤ x26))) (pu_pickF (q := (decide (x26 < 0))) rfl hq34 rfl) ?_
 refine lp (.bool (decide ((p_0.length : Int) ≤ x26))) (pu_move rfl) ?_
 rcases bS (decide ((p_0.length : Int) ≤ x26)) with hq36 | hq36
 replace hb := tt hq36 hb
 refine gs rfl rfl (decide ((p_0.length : Int) ≤ x26)) rfl hq36 ?_
 refine gs rfl rfl (decide ((p_0.length : Int) ≤ x26)) rfl hq36 ?_
 refine gs rfl rfl (decide ((p_0.length : Int) ≤ x26)) rfl hq36 ?_
 refine gs rfl rfl (decide ((p_0.length : Int) ≤ x26)) rfl hq36 ?_
 refine lp (.bool true) (pu_pickT (q := (decide ((p_0.length : Int) ≤ x26))) rfl hq36 rfl) ?_
 refine ln ?_
 refine hK33 _ _ ?_
 refine Wc.cond_true (rfl) ?_
 refine Wc.seq fun K37 hK37 => ?_
 refine rg ?_
 refine lp (.bool false) (pu_assign rfl) ?_
 refine ln ?_
 refine hK37 _ _ ?_
 obtain rfl := os hb
 obtain rfl := (lX hl0).symm
 replace hb := hbK0
 obtain rfl := os hb
 refine Wc.ret ?_
 refine hKR _ _ ?_
 refine ⟨_, res1 Try.results19 (show RV _ _ _ (.tmp _) (.bool false) from rfl), _, rfl, rfl, hC.sel [] (by decide)⟩
 replace hb := tf hq36 hb
 refine gp rfl rfl (decide ((p_0.length : Int) ≤ x26)) rfl hq36 (.slice A6 (((List.replicate (p_0.length : Int).toNat false)).length) c7) (pu_move e3) ?_
 refine gp rfl rfl (decide ((p_0.length : Int) ≤ x26)) rfl hq36 (.int .i64 x26) (pu_move rfl) ?_
 obtain ⟨x38, h39, hb⟩ := bd hb
 obtain ⟨ad40, cs41, hA, hc42, hr43⟩ := hC.elo (i := 1) rfl (get_some h39).2
 subst hA
 refine gp rfl rfl (decide ((p_0.length : Int) ≤ x26)) rfl hq36 (.pointer (some (ad40.add (x26.toNat * 1)))) (pu_index (a := x26) Try.underlying63 Try.sizeOf4 rfl rfl (by rw [(hC.ow (i := 1) rfl).sl_len.1]; exact (get_some h39).1)) ?_
 obtain rfl := (show _ = _ from hr43)
 refine gv rfl rfl (decide ((p_0.length : Int) ≤ x26)) rfl hq36 (.bool x38) (ld_one Try.isAgg4 rfl (hc42 0 _ rfl)) ?_
 refine lp (.bool x38) (pu_pickF (q := (decide ((p_0.length : Int) ≤ x26))) rfl hq36 rfl) ?_
 refine ln ?_
 refine hK33 _ _ ?_
 refine Wc.cond (t := x38) (rfl) (fun hq44 => ?_) (fun hq44 => ?_)
 replace hb := tt hq44 hb
 refine Wc.seq fun K45 hK45 => ?_
 refine rg ?_
 refine lp (.bool false) (pu_assign rfl) ?_
 refine ln ?_
 refine hK45 _ _ ?_
 obtain rfl := os hb
 obtain rfl := (lX hl0).symm
 replace hb := hbK0
 obtain rfl := os hb
 refine Wc.ret ?_
 refine hKR _ _ ?_
 refine ⟨_, res1 Try.results19 (show RV _ _ _ (.tmp _) (.bool false) from rfl), _, rfl, rfl, hC.sel [] (by decide)⟩
 replace hb := tf hq44 hb
 refine Wc.skip ?_
 refine hK32 _ _ ?_
 refine Wc.fresh fun E46 hE => ?_
 have e0 := (congrFun hE 0).trans e0
 have e2 := (congrFun hE 2).trans e2
 have e3 := (congrFun hE 3).trans e3
 have e5 : E46 5 = .int .i64 x26 := (congrFun hE 5).trans rfl
 have e9 := (congrFun hE 9).trans e9
 have e10 := (congrFun hE 10).trans e10
 have e11 := (congrFun hE 11).trans e11
 have e12 : E46 12 = .bool (decide (v11_0 < (p_0.length : Int))) := (congrFun hE 12).trans rfl
 have e28 : E46 28 = .bool x38 := (congrFun hE 28).trans rfl
 clear hE
 refine rg ?_
 refine lp (.slice (some ad40) (((List.replicate (p_0.length : Int).toNat false)).length) c7) (pu_move e3) ?_
 refine lp (.int .i64 x26) (pu_move e5) ?_
 obtain ⟨x47, h48, hb⟩ := bd hb
 obtain ⟨ad49, cs50, hA, hc51, hr52⟩ := hC.elo (i := 1) rfl (get_some h48).2
 obtain rfl := Option.some.inj hA
 refine lp (.pointer (some (ad40.add (x26.toNat * 1)))) (pu_index (a := x26) Try.underlying63 Try.sizeOf4 rfl rfl (by rw [(hC.ow (i := 1) rfl).sl_len.1]; exact (get_some h48).1)) ?_
 refine lex.sk (hC.put (i := 1) rfl rfl Try.sizeOf4 (k := x26.toNat) (a := true) (by have := (get_some h48).1; simp at this ⊢; omega) (show Rep _ _ .bool _ _ from rfl) rfl rfl rfl) ?_
 rintro w53 ⟨hC, hF⟩
 refine ln ?_
 refine hK24 _ _ ?_
 refine rg ?_
 obtain ⟨z54, h55, hb⟩ := bd hb
 refine lp (.int .i64 z54) (pu_addc (a := v11_0) (b := 1) e11 rfl h55) ?_
 refine lp (.int .i64 z54) (pu_move rfl) ?_
 refine ln ?_
 obtain rfl := os hb
 exact hK16 m17' _ _ (Nat.lt_succ_self _) ⟨z54, (qf11_0.set x26.toNat true), e0, e2, e3, e9, e10, rfl, (chk_rng h55), hC.sel [0, 1] (by decide), lN hl0⟩
 replace hb := tf hq23 hb
 refine Wc.exit rfl ?_
 obtain rfl := os hb
 obtain rfl := (lX hl0).symm
 exact hK15 _ _ ⟨v11_0, qf11_0, e2, hrv11_0, hC.sel [] (by decide), hbK0⟩
 clear hb hC hl0
 rintro E57 w56 ⟨v11_0, qf11_0, e2, hrv11_0, hC, hb⟩
 refine hK12 _ _ ?_
 refine Wc.seq fun K58 hK58 => ?_
 refine rg ?_
 refine lp (.bool true) (pu_assign rfl) ?_
 refine ln ?_
 refine hK58 _ _ ?_
 obtain rfl := os hb
 refine Wc.ret ?_
 refine hKR _ _ ?_
 refine ⟨_, res1 Try.results19 (show RV _ _ _ (.tmp _) (.bool true) from rfl), _, rfl, rfl, hC.sel [] (by decide)⟩

set_option maxRecDepth 100000 in
set_option maxHeartbeats 4000000 in
theorem perm_Mul_ok (n : Nat) {w : World} {O0 : List Nat} (hO : ∀ k ∈ O0, k < w.heap.size) {Ap_0 : Option Addr} {mp_0 cp_0 : Nat} {p_0 : List Int} (hp_0 : Rep O0 w (.sl (.int .i64)) [.slice Ap_0 mp_0 cp_0] p_0) {Aq_1 : Option Addr} {mq_1 cq_1 : Nat} {q_1 : List Int} (hq_1 : Rep O0 w (.sl (.int .i64)) [.slice Aq_1 mq_1 cq_1] q_1) {r : (List Int) × Int} (hb : F.perm_Mul n p_0 q_1 = some r) :
    Calls Try.prog 20 #[.slice Ap_0 mp_0 cp_0, .slice Aq_1 mq_1 cq_1] w fun e w' => ∃ v, e = .returned v ∧ ∃ (A0 : Option Addr) (m0 c0 : Nat), v = .tuple #[.slice A0 m0 c0, .int .i64 r.2] ∧ I64 r.2 ∧ Cx (fun _ => False) O0 w w' [.own 3 (.int .i64) (.slice A0 m0 c0) r.1] := by
 unfold F.perm_Mul at hb
 have hC := Cx.start hO
 replace hC := hC.arg rfl hp_0
 replace hC := hC.arg rfl hq_1
 clear hO
 obtain ⟨rfl, hlp_0, hcp_0⟩ := hp_0.sl_len
 obtain ⟨rfl, hlq_1, hcq_1⟩ := hq_1.sl_len
 refine calls_of_Wc Try.func20 rfl (by rw [Try.ntmps20]; exact Nat.le_of_ble_eq_true rfl) fun KR hKR => ?_
 refine Wc.seq fun K3 hK3 => ?_
 refine rg ?_
 refine lp (.slice none 0 0) (pu_assign rfl) ?_
 refine lp (.int .i64 0) (pu_assign rfl) ?_
 refine ln ?_
 refine hK3 _ _ ?_
 refine Wc.seq fun K4 hK4 => ?_
 refine Wc.seq fun K5 hK5 => ?_
 refine rg ?_
 refine lp (.slice Ap_0 p_0.length cp_0) (pu_move rfl) ?_
 obtain ⟨y6, h7, hb⟩ := bd hb
 refine lex.cl (⟨_, _, op_call (vs := [.slice Ap_0 p_0.length cp_0]) Try.call19 rfl rfl rfl, perm_Valid_ok n hC.lt (hC.rd (i := 1) rfl) h7⟩) ?_
 rintro _ w8 ⟨rfl, hK⟩
 replace hC := hC.merge hK
 clear hK
 refine lp (.bool (!y6)) (pu_not (q := y6) rfl) ?_
 refine lp (.bool (!y6)) (pu_move rfl) ?_
 rcases bS (!y6) with hq9 | hq9
 replace hb := tt hq9 hb
 refine gs rfl rfl (!y6) rfl hq9 ?_
 refine gs rfl rfl (!y6) rfl hq9 ?_
 refine gs rfl rfl (!y6) rfl hq9 ?_
 refine lp (.bool true) (pu_pickT (q := (!y6)) rfl hq9 rfl) ?_
 refine lp (.bool true) (pu_move rfl) ?_
 refine gs rfl rfl true rfl rfl ?_
 refine gs rfl rfl true rfl rfl ?_
 refine gs rfl rfl true rfl rfl ?_
 refine gs rfl rfl true rfl rfl ?_
 refine gs rfl rfl true rfl rfl ?_
 refine lp (.bool true) (pu_pickT (q := true) rfl rfl rfl) ?_
 refine ln ?_
 refine hK5 _ _ ?_
 refine Wc.cond_true (rfl) ?_
 refine Wc.seq fun K10 hK10 => ?_
 refine rg ?_
 refine lp (.slice none 0 0) (pu_assign rfl) ?_
 refine lp (.int .i64 1) (pu_assign rfl) ?_
 refine ln ?_
 refine hK10 _ _ ?_
 replace hC := hC.nil 3 (.int .i64)
 obtain rfl := os hb
 refine Wc.ret ?_
 refine hKR _ _ ?_
 refine ⟨_, res2 Try.results20 (show RV _ _ _ (.tmp _) (.slice none 0 0) from rfl) (show RV _ _ _ (.tmp _) (.int .i64 1) from rfl), _, rfl, none, 0, 0, rfl, (show I64 1 from by unfold I64; omega), hC.sel [0] (by decide)⟩
 replace hb := tf hq9 hb
 refine gp rfl rfl (!y6) rfl hq9 (.slice Aq_1 q_1.length cq_1) (pu_move rfl) ?_
 obtain ⟨y12, h13, hb⟩ := bd hb
 refine lex.gcl (want_t rfl rfl (show _ = Value.bool (!y6) from rfl) hq9) (⟨_, _, op_call (vs := [.slice Aq_1 q_1.length cq_1]) Try.call19 rfl rfl rfl, perm_Valid_ok n hC.lt (hC.rd (i := 0) rfl) h13⟩) ?_
 rintro _ w14 ⟨rfl, hK⟩
 replace hC := hC.merge hK
 clear hK
 refine gp rfl rfl (!y6) rfl hq9 (.bool (!y12)) (pu_not (q := y12) rfl) ?_
 refine lp (.bool (!y12)) (pu_pickF (q := (!y6)) rfl hq9 rfl) ?_
 refine lp (.bool (!y12)) (pu_move rfl) ?_
 rcases bS (!y12) with hq15 | hq15
 replace hb := tt hq15 hb
 refine gs rfl rfl (!y12) rfl hq15 ?_
 refine gs rfl rfl (!y12) rfl hq15 ?_
 refine gs rfl rfl (!y12) rfl hq15 ?_
 refine gs rfl rfl (!y12) rfl hq15 ?_
 refine gs rfl rfl (!y12) rfl hq15 ?_
 refine lp (.bool true) (pu_pickT (q := (!y12)) rfl hq15 rfl) ?_
 refine ln ?_
 refine hK5 _ _ ?_
 refine Wc.fresh fun E16 hE => ?_
 have e0 : E16 0 = .slice Ap_0 p_0.length cp_0 := (congrFun hE 0).trans rfl
 have e1 : E16 1 = .slice Aq_1 q_1.length cq_1 := (congrFun hE 1).trans rfl
 have e4 : E16 4 = .slice none 0 0 := (congrFun hE 4).trans rfl
 have e5 : E16 5 = .int .i64 0 := (congrFun hE 5).trans rfl
 have e23 : E16 23 = .bool true := (congrFun hE 23).trans rfl
 clear hE
 refine Wc.cond_true (e23) ?_
 refine Wc.seq fun K17 hK17 => ?_
 refine rg ?_
 refine lp (.slice none 0 0) (pu_assign rfl) ?_
 refine lp (.int .i64 1) (pu_assign rfl) ?_
 refine ln ?_
 refine hK17 _ _ ?_
 replace hC := hC.nil 3 (.int .i64)
 obtain rfl := os hb
 refine Wc.ret ?_
 refine hKR _ _ ?_
 refine ⟨_, res2 Try.results20 (show RV _ _ _ (.tmp _) (.slice none 0 0) from rfl) (show RV _ _ _ (.tmp _) (.int .i64 1) from rfl), _, rfl, none, 0, 0, rfl, (show I64 1 from by unfold I64; omega), hC.sel [0] (by decide)⟩
 replace hb := tf hq15 hb
 refine gp rfl rfl (!y12) rfl hq15 (.slice Ap_0 p_0.length cp_0) (pu_move rfl) ?_
 refine gp rfl rfl (!y12) rfl hq15 (.int .i64 (p_0.length : Int)) (pu_len (A := Ap_0) (n := p_0.length) (m := cp_0) Try.underlying29 rfl) ?_
 refine gp rfl rfl (!y12) rfl hq15 (.slice Aq_1 q_1.length cq_1) (pu_move rfl) ?_
 refine gp rfl rfl (!y12) rfl hq15 (.int .i64 (q_1.length : Int)) (pu_len (A := Aq_1) (n := q_1.length) (m := cq_1) Try.underlying29 rfl) ?_
 refine gp rfl rfl (!y12) rfl hq15 (.bool (!(decide ((p_0.length : Int) = (q_1.length : Int))))) (pu_neq (k := .i64) (a := (p_0.length : Int)) (b := (q_1.length : Int)) rfl rfl) ?_
 refine lp (.bool (!(decide ((p_0.length : Int) = (q_1.length : Int))))) (pu_pickF (q := (!y12)) rfl hq15 rfl) ?_
 refine ln ?_
 refine hK5 _ _ ?_
 refine Wc.fresh fun E19 hE => ?_
 have e0 : E19 0 = .slice Ap_0 p_0.length cp_0 := (congrFun hE 0).trans rfl
 have e1 : E19 1 = .slice Aq_1 q_1.length cq_1 := (congrFun hE 1).trans rfl
 have e4 : E19 4 = .slice none 0 0 := (congrFun hE 4).trans rfl
 have e5 : E19 5 = .int .i64 0 := (congrFun hE 5).trans rfl
 have e23 : E19 23 = .bool (!(decide ((p_0.length : Int) = (q_1.length : Int)))) := (congrFun hE 23).trans rfl
 clear hE
 refine Wc.cond (t := (!(decide ((p_0.length : Int) = (q_1.length : Int))))) (e23) (fun hq20 => ?_) (fun hq20 => ?_)
 replace hb := tt hq20 hb
 refine Wc.seq fun K21 hK21 => ?_
 refine rg ?_
 refine lp (.slice none 0 0) (pu_assign rfl) ?_
 refine lp (.int .i64 1) (pu_assign rfl) ?_
 refine ln ?_
 refine hK21 _ _ ?_
 replace hC := hC.nil 3 (.int .i64)
 obtain rfl := os hb
 refine Wc.ret ?_
 refine hKR _ _ ?_
 refine ⟨_, res2 Try.results20 (show RV _ _ _ (.tmp _) (.slice none 0 0) from rfl) (show RV _ _ _ (.tmp _) (.int .i64 1) from rfl), _, rfl, none, 0, 0, rfl, (show I64 1 from by unfold I64; omega), hC.sel [0] (by decide)⟩
 replace hb := tf hq20 hb
 refine Wc.skip ?_
 refine hK4 _ _ ?_
 refine Wc.seq fun K23 hK23 => ?_
 refine rg ?_
 refine lp (.slice Ap_0 p_0.length cp_0) (pu_move e0) ?_
 refine lp (.int .i64 (p_0.length : Int)) (pu_len (A := Ap_0) (n := p_0.length) (m := cp_0) Try.underlying29 rfl) ?_
 obtain ⟨u24, h25, hb⟩ := bd hb
 refine lex.op (hC.make (s := (.int .i64)) (n := (p_0.length : Int)) Try.underlying29 Try.type3 rfl rfl rfl rfl rfl (pos_some h25).1 (pos_some h25).2 (by decide)) ?_
 rintro _ w30 ⟨A26, c27, rfl, hl28, hc29, hC, hF, hN⟩
 clear hF hN
 refine lp (.slice A26 (((List.replicate (p_0.length : Int).toNat (0 : Int))).length) c27) (pu_assign rfl) ?_
 refine ln ?_
 refine hK23 _ _ ?_
 refine Wc.seq fun K32 hK32 => ?_
 refine Wc.seq fun K33 hK33 => ?_
 refine rg ?_
 refine lp (.slice Ap_0 p_0.length cp_0) (pu_move e0) ?_
 refine lp (.int .i64 (p_0.length : Int)) (pu_len (A := Ap_0) (n := p_0.length) (m := cp_0) Try.underlying29 rfl) ?_
 refine lp (.int .i64 0) (pu_move rfl) ?_
 refine ln ?_
 refine hK33 _ _ ?_
 obtain ⟨o34, hl0, hb⟩ := bd hb
 refine Wc.cut (fun E wv => ∃ (v29_0 : Int) (qf31_0 : List Int), E 4 = .slice none 0 0 ∧ E 5 = .int .i64 0 ∧ E 6 = .slice A26 (((List.replicate (p_0.length : Int).toNat (0 : Int))).length) c27 ∧ I64 v29_0 ∧ Cx (fun _ => False) O0 w wv [.own 3 (.int .i64) (.slice A26 (((List.replicate (p_0.length : Int).toNat (0 : Int))).length) c27) qf31_0] ∧ (some (qf31_0, 0) : Option ((List Int) × Int)) = some r) (fun K35 hK35 => ?_) ?_
 refine Wc.block ?_
 refine Wc.loop (fun m E wv => ∃ (v29_0 : Int) (qf31_0 : List Int), E 1 = .slice Aq_1 q_1.length cq_1 ∧ E 4 = .slice none 0 0 ∧ E 5 = .int .i64 0 ∧ E 6 = .slice A26 (((List.replicate (p_0.length : Int).toNat (0 : Int))).length) c27 ∧ E 27 = .slice Ap_0 p_0.length cp_0 ∧ E 28 = .int .i64 (p_0.length : Int) ∧ E 29 = .int .i64 v29_0 ∧ I64 v29_0 ∧ Cx (fun _ => False) O0 w wv [.ro (.sl (.int .i64)) [.slice Aq_1 q_1.length cq_1] q_1, .own 3 (.int .i64) (.slice A26 (((List.replicate (p_0.length : Int).toNat (0 : Int))).length) c27) qf31_0, .ro (.sl (.int .i64)) [.slice Ap_0 p_0.length cp_0] p_0] ∧ loopN m (F.perm_Mul_b0 n p_0 q_1) (v29_0, qf31_0) = some o34) n ⟨0, (List.replicate (p_0.length : Int).toNat (0 : Int)), e1, e4, e5, rfl, rfl, rfl, rfl, (show I64 0 from by unfold I64; omega), hC.sel [1, 0, 2] (by decide), hl0⟩ ?_
 have hbK0 := hb
 clear hb hC hl0
 rintro m37 E39 w38 ⟨v29_0, qf31_0, e1, e4, e5, e6, e27, e28, e29, hrv29_0, hC, hl0⟩ K36 hK36
 obtain ⟨m37', o40, rfl, hb, hl0⟩ := loopN_some hl0
 unfold F.perm_Mul_b0 at hb
 refine Wc.seq fun K41 hK41 => ?_
 refine rg ?_
 refine lp (.bool (decide (v29_0 < (p_0.length : Int)))) (pu_lss (k := .i64) (a := v29_0) (b := (p_0.length : Int)) e29 e28) ?_
 refine ln ?_
 refine hK41 _ _ ?_
 refine Wc.seq fun K42 hK42 => ?_
 refine Wc.cond (t := (decide (v29_0 < (p_0.length : Int)))) (rfl) (fun hq43 => ?_) (fun hq43 => ?_)
 replace hb := tt hq43 hb
 refine Wc.skip ?_
 refine hK42 _ _ ?_
 refine Wc.seq fun K44 hK44 => ?_
 refine Wc.block ?_
 refine Wc.seq fun K45 hK45 => ?_
 refine rg ?_
 refine lp (.int .i64 v29_0) (pu_move e29) ?_
 obtain ⟨x46, h47, hb⟩ := bd hb
 obtain ⟨ad48, cs49, hA, hc50, hr51⟩ := hC.elr (i := 2) rfl (get_some h47).2
 subst hA
 refine lp (.pointer (some (ad48.add (v29_0.toNat * 1)))) (pu_index (a := v29_0) Try.underlying29 Try.sizeOf3 e27 e29 (get_some h47).1) ?_
 obtain ⟨rfl, hr51'⟩ := hr51
 refine lv (.int .i64 x46) (ld_one Try.isAgg3 rfl (hc50 0 _ rfl)) ?_
 refine lp (.int .i64 v29_0) (pu_assign rfl) ?_
 refine lp (.int .i64 x46) (pu_assign rfl) ?_
 refine ln ?_
 refine hK45 _ _ ?_
 refine rg ?_
 refine lp (.slice A26 (((List.replicate (p_0.length : Int).toNat (0 : Int))).length) c27) (pu_move e6) ?_
 refine lp (.int .i64 v29_0) (pu_move rfl) ?_
 refine lp (.slice Aq_1 q_1.length cq_1) (pu_move e1) ?_
 refine lp (.int .i64 x46) (pu_move rfl) ?_
 obtain ⟨x52, h53, hb⟩ := bd hb
 obtain ⟨ad54, cs55, hA, hc56, hr57⟩ := hC.elr (i := 0) rfl (get_some h53).2
 subst hA
 refine lp (.pointer (some (ad54.add (x46.toNat * 1)))) (pu_index (a := x46) Try.underlying29 Try.sizeOf3 rfl rfl (get_some h53).1) ?_
 obtain ⟨rfl, hr57'⟩ := hr57
 refine lv (.int .i64 x52) (ld_one Try.isAgg3 rfl (hc56 0 _ rfl)) ?_
 obtain ⟨x58, h59, hb⟩ := bd hb
 obtain ⟨ad60, cs61, hA, hc62, hr63⟩ := hC.elo (i := 1) rfl (get_some h59).2
 subst hA
 refine lp (.pointer (some (ad60.add (v29_0.toNat * 1)))) (pu_index (a := v29_0) Try.underlying29 Try.sizeOf3 rfl rfl (by rw [(hC.ow (i := 1) rfl).sl_len.1]; exact (get_some h59).1)) ?_
 refine lex.sk (hC.put (i := 1) rfl rfl Try.sizeOf3 (k := v29_0.toNat) (a := x52) (by have := (get_some h59).1; simp at this ⊢; omega) (⟨rfl, I64.wr (wrap_I64 hr57')⟩) rfl rfl rfl) ?_
 rintro w64 ⟨hC, hF⟩
 refine ln ?_
 refine hK44 _ _ ?_
 refine rg ?_
 obtain ⟨z65, h66, hb⟩ := bd hb
 refine lp (.int .i64 z65) (pu_addc (a := v29_0) (b := 1) e29 rfl h66) ?_
 refine lp (.int .i64 z65) (pu_move rfl) ?_
 refine ln ?_
 obtain rfl := os hb
 exact hK36 m37' _ _ (Nat.lt_succ_self _) ⟨z65, (qf31_0.set v29_0.toNat x52), e1, e4, e5, e6, e27, e28, rfl, (chk_rng h66), hC.sel [0, 1, 2] (by decide), lN hl0⟩
 replace hb := tf hq43 hb
 refine Wc.exit rfl ?_
 obtain rfl := os hb
 obtain rfl := (lX hl0).symm
 exact hK35 _ _ ⟨v29_0, qf31_0, e4, e5, e6, hrv29_0, hC.sel [1] (by decide), hbK0⟩
 clear hb hC hl0
 rintro E68 w67 ⟨v29_0, qf31_0, e4, e5, e6, hrv29_0, hC, hb⟩
 refine hK32 _ _ ?_
 refine Wc.seq fun K69 hK69 => ?_
 refine rg ?_
 refine lp (.slice A26 (((List.replicate (p_0.length : Int).toNat (0 : Int))).length) c27) (pu_move e6) ?_
 refine lp (.slice A26 (((List.replicate (p_0.length : Int).toNat (0 : Int))).length) c27) (pu_assign rfl) ?_
 refine lp (.int .i64 0) (pu_assign rfl) ?_
 refine ln ?_
 refine hK69 _ _ ?_
 obtain rfl := os hb
 refine Wc.ret ?_
 refine hKR _ _ ?_
 refine ⟨_, res2 Try.results20 (show RV _ _ _ (.tmp _) (.slice A26 (((List.replicate (p_0.length : Int).toNat (0 : Int))).length) c27) from rfl) (show RV _ _ _ (.tmp _) (.int .i64 0) from rfl), _, rfl, A26, ((List.replicate (p_0.length : Int).toNat (0 : Int))).length, c27, rfl, (show I64 0 from by unfold I64; omega), hC.sel [0] (by decide)⟩

set_option maxRecDepth 100000 in
set_option maxHeartbeats 4000000 in
theorem perm_All_ok {w : World} {O0 : List Nat} {a : Int} (hO : ∀ k ∈ O0, k < w.heap.size) : Calls Try.prog 12 #[.int .i64 a] w fun e w' => ∃ v, e = .returned v ∧ ∃ gb, v = .func (.func 40) #[] #[.pointer (some ⟨gb, 0, none⟩)] ∧ Cx (fun _ => False) O0 w w' [.box gb 3 [.int .i64 a]] := by
 have hC := Cx.start hO
 refine calls_of_Wc Try.func12 rfl (by rw [Try.ntmps12]; exact Nat.le_of_ble_eq_true rfl) fun KR hKR => ?_
 refine Wc.seq fun K1 hK1 => ?_
 refine rg ?_
 refine lex.op (hC.box (cs := [.int .i64 a]) rfl rfl) ?_
 rintro _ w2 ⟨g1, rfl, hC, hF, hG⟩
 refine lp (.nilFunc) (pu_assign rfl) ?_
 refine ln ?_
 refine hK1 _ _ ?_
 refine Wc.seq fun K2 hK2 => ?_
 refine rg ?_
 refine lp (.func (.func 40) #[] #[.pointer (some ⟨g1, 0, none⟩)]) (pu_funcc (l := [.pointer (some ⟨g1, 0, none⟩)]) rfl) ?_
 refine lp (.func (.func 40) #[] #[.pointer (some ⟨g1, 0, none⟩)]) (pu_assign rfl) ?_
 refine ln ?_
 refine hK2 _ _ ?_
 refine Wc.ret ?_
 refine hKR _ _ ?_
 exact ⟨_, res1 Try.results12 (show RV _ _ _ (.tmp _) (.func (.func 40) #[] #[.pointer (some ⟨g1, 0, none⟩)]) from rfl), _, rfl, g1, rfl, hC⟩

set_option maxRecDepth 100000 in
set_option maxHeartbeats 4000000 in
theorem slices_Clone_Perm_int_ok (n : Nat) {w : World} {O0 : List Nat} (hO : ∀ k ∈ O0, k < w.heap.size) {As_0 : Option Addr} {ms_0 cs_0 : Nat} {s_0 : List Int} (hs_0 : Rep O0 w (.sl (.int .i64)) [.slice As_0 ms_0 cs_0] s_0) {r : (List Int)} (hb : F.slices_Clone_Perm_int n s_0 = some r) :
    Calls Try.prog 42 #[.slice As_0 ms_0 cs_0] w fun e w' => ∃ v, e = .returned v ∧ ∃ (A0 : Option Addr) (m0 c0 : Nat), v = .slice A0 m0 c0 ∧ Cx (fun _ => False) O0 w w' [.own 3 (.int .i64) (.slice A0 m0 c0) r] := by
 unfold F.slices_Clone_Perm_int at hb
 have hC := Cx.start hO
 replace hC := hC.arg rfl hs_0
 clear hO
 obtain ⟨rfl, hls_0, hcs_0⟩ := hs_0.sl_len
 refine calls_of_Wc Try.func42 rfl (by rw [Try.ntmps42]; exact Nat.le_of_ble_eq_true rfl) fun KR hKR => ?_
 refine Wc.seq fun K2 hK2 => ?_
 refine rg ?_
 refine lp (.slice none 0 0) (pu_assign rfl) ?_
 refine ln ?_
 refine hK2 _ _ ?_
 refine Wc.seq fun K3 hK3 => ?_
 refine Wc.seq fun K4 hK4 => ?_
 refine rg ?_
 refine lp (.slice As_0 s_0.length cs_0) (pu_move rfl) ?_
 refine lp (.bool As_0.isNone) (pu_eqlnil Try.underlying29 rfl rfl) ?_
 refine ln ?_
 refine hK4 _ _ ?_
 refine Wc.cond (t := As_0.isNone) (rfl) (fun hq5 => ?_) (fun hq5 => ?_)
 have hz : As_0 = none := by simpa using hq5
 have hx := (hC.rd (i := 0) rfl).none_nil' hz
 replace hb : some ([]) = some r := by have hb2 := hb; rw [hx] at hb2; first | exact hb2 | simpa [lim] using hb2
 refine Wc.seq fun K7 hK7 => ?_
 refine rg ?_
 refine lp (.slice none 0 0) (pu_assign rfl) ?_
 refine ln ?_
 refine hK7 _ _ ?_
 replace hC := hC.nil 3 (.int .i64)
 obtain rfl := os hb
 refine Wc.ret ?_
 refine hKR _ _ ?_
 refine ⟨_, res1 Try.results42 (show RV _ _ _ (.tmp _) (.slice none 0 0) from rfl), _, rfl, none, 0, 0, rfl, hC.sel [0] (by decide)⟩
 refine Wc.skip ?_
 refine hK3 _ _ ?_
 refine Wc.seq fun K9 hK9 => ?_
 refine rg ?_
 refine lex.op (hC.lit (s := (.int .i64)) (vs := []) (xs := []) Try.underlying29 Try.type3 rfl rfl (Nat.le_of_ble_eq_true rfl) rfl rfl (by simp [Value.cells, Sh.n]) rfl (show Elems _ _ (.int .i64) ([]) ([] : List Int) from Elems.nil _ _ _)) ?_
 rintro _ w14 ⟨A10, c11, rfl, hl12, hc13, hC, hF, hN⟩
 clear hF hN
 refine lp (.slice As_0 s_0.length cs_0) (pu_move rfl) ?_
 obtain ⟨u16, h17, hb⟩ := bd hb
 refine lex.op (hC.app (i := 0) (s := (.int .i64)) (xs := ([] : List Int)) (ys := s_0) (m := s_0.length) rfl Try.underlying29 Try.underlying29 Try.type3 rfl rfl rfl (hC.srcr (i := 1) rfl) rfl rfl (by have := lim_some h17; simp at this ⊢ <;> omega) (by decide)) ?_
 rintro _ w22 ⟨A18, c19, rfl, hl20, hc21, hC, hF, hN⟩
 clear hF hN
 refine lp (.slice A18 ((([] : List Int) ++ s_0).length) c19) (pu_assign rfl) ?_
 refine ln ?_
 refine hK9 _ _ ?_
 obtain rfl := os hb
 refine Wc.ret ?_
 refine hKR _ _ ?_
 refine ⟨_, res1 Try.results42 (show RV _ _ _ (.tmp _) (.slice A18 ((([] : List Int) ++ s_0).length) c19) from rfl), _, rfl, A18, (([] : List Int) ++ s_0).length, c19, rfl, hC.sel [0] (by decide)⟩

def slices_Reverse_Perm_int_tailRen : Go.Shelf.Ren := ⟨fun x => match x with | 35 => 52 | _ => 0, fun x => match x with | 0 => 0 | 3 => 3 | 4 => 4 | 22 => 29 | 23 => 3 | _ => 0, fun _ => 0⟩
theorem slices_Reverse_Perm_int_tail : Go.Proofs.SlLaysN.n35 Try.prog slices_Reverse_Perm_int_tailRen where
  mixed := mixed
  f35 := ⟨"slices.Reverse[unravel/perm.Perm,int]", by decide, by kernel_rfl⟩
  t0 := Try.underlying0
  a0 := Try.isAgg0
  z0 := Try.sizeOf0
  v0 := Try.zeroValue0
  t3 := Try.underlying3
  a3 := Try.isAgg3
  z3 := Try.sizeOf3
  v3 := Try.zeroValue3
  t4 := Try.underlying4
  a4 := Try.isAgg4
  z4 := Try.sizeOf4
  v4 := Try.zeroValue4
  t22 := Try.underlying29
  a22 := Try.isAgg29
  z22 := Try.sizeOf29
  v22 := Try.zeroValue29
  t23 := Try.underlying3
  a23 := Try.isAgg3
  z23 := Try.sizeOf3
  v23 := Try.zeroValue3

set_option maxRecDepth 100000 in
set_option maxHeartbeats 4000000 in
theorem perm_advance_ok (n : Nat) {w : World} {O0 : List Nat} (hO : ∀ k ∈ O0, k < w.heap.size) {Ap_0 : Option Addr} {mp_0 cp_0 : Nat} {p_0 : List Int} (hio : Tk O0 w [.own 3 (.int .i64) (.slice Ap_0 mp_0 cp_0) p_0]) {r : Bool × (List Int)} (hb : F.perm_advance n p_0 = some r) :
    Calls Try.prog 41 #[.slice Ap_0 mp_0 cp_0] w fun e w' => ∃ v, e = .returned v ∧ v = .bool r.1 ∧ Cx (fun k => k ∈ blocks [.own 3 (.int .i64) (.slice Ap_0 mp_0 cp_0) p_0]) O0 w w' [.own 3 (.int .i64) (.slice Ap_0 mp_0 cp_0) r.2] := by
 unfold F.perm_advance at hb
 have hC := Cx.startTk hO hio
 have hsub := hio.2.2
 clear hO
 obtain ⟨rfl, hlp_0, hcp_0⟩ := (hC.ow (i := 0) rfl).sl_len
 clear hio hsub
 obtain ⟨I, hI, hC⟩ : ∃ I : Nat → Prop, I = (fun k => k ∈ blocks [.own 3 (.int .i64) (.slice Ap_0 p_0.length cp_0) p_0]) ∧ Cx I O0 w w ([.own 3 (.int .i64) (.slice Ap_0 p_0.length cp_0) p_0]) := ⟨_, rfl, hC⟩
 refine calls_of_Wc Try.func41 rfl (by rw [Try.ntmps41]; exact Nat.le_of_ble_eq_true rfl) fun KR hKR => ?_
 refine Wc.seq fun K2 hK2 => ?_
 refine rg ?_
 refine lp (.bool false) (pu_assign rfl) ?_
 refine ln ?_
 refine hK2 _ _ ?_
 refine Wc.seq fun K3 hK3 => ?_
 refine rg ?_
 refine lp (.slice Ap_0 p_0.length cp_0) (pu_move rfl) ?_
 refine lp (.int .i64 (p_0.length : Int)) (pu_len (A := Ap_0) (n := p_0.length) (m := cp_0) Try.underlying29 rfl) ?_
 obtain ⟨z4, h5, hb⟩ := bd hb
 refine lp (.int .i64 z4) (pu_subc (a := (p_0.length : Int)) (b := 2) rfl rfl h5) ?_
 refine lp (.int .i64 z4) (pu_assign rfl) ?_
 refine ln ?_
 refine hK3 _ _ ?_
 refine Wc.seq fun K6 hK6 => ?_
 obtain ⟨o7, hl0, hb⟩ := bd hb
 refine Wc.cut (fun E wv => ∃ (v3_0 : Int), E 0 = .slice Ap_0 p_0.length cp_0 ∧ E 2 = .bool false ∧ E 3 = .int .i64 v3_0 ∧ I64 v3_0 ∧ Cx I O0 w wv [.own 3 (.int .i64) (.slice Ap_0 p_0.length cp_0) p_0] ∧ (cond (decide (v3_0 < 0)) (some (false, p_0)) ((chk ((p_0.length : Int) - 1)).bind fun z45 => ((loopN n (F.perm_advance_b1 n p_0 v3_0) z45).bind fun o48 => match o48 with     | v4_1 => (get p_0 v4_1).bind fun x81 => (get p_0 v3_0).bind fun x88 => (get p_0 v3_0).bind fun x95 => (get (p_0.set v3_0.toNat x81) v4_1).bind fun x103 => (chk (v3_0 + 1)).bind fun z112 => (cut z112 (((p_0.set v3_0.toNat x81).set v4_1.toNat x88).length : Int) ((p_0.set v3_0.toNat x81).set v4_1.toNat x88).length).bind fun u114 => some (true, (((p_0.set v3_0.toNat x81).set v4_1.toNat x88).take z112.toNat ++ (((p_0.set v3_0.toNat x81).set v4_1.toNat x88).drop z112.toNat).reverse)))) : Option (Bool × (List Int))) = some r) (fun K8 hK8 => ?_) ?_
 refine Wc.block ?_
 refine Wc.loop (fun m E wv => ∃ (v3_0 : Int), E 0 = .slice Ap_0 p_0.length cp_0 ∧ E 2 = .bool false ∧ E 3 = .int .i64 v3_0 ∧ I64 v3_0 ∧ Cx I O0 w wv [.own 3 (.int .i64) (.slice Ap_0 p_0.length cp_0) p_0] ∧ loopN m (F.perm_advance_b0 n p_0) v3_0 = some o7) n ⟨z4, rfl, rfl, rfl, (chk_rng h5), hC.sel [0] (by decide), hl0⟩ ?_
 have hbK0 := hb
 clear hb hC hl0
 rintro m10 E12 w11 ⟨v3_0, e0, e2, e3, hrv3_0, hC, hl0⟩ K9 hK9
 obtain ⟨m10', o13, rfl, hb, hl0⟩ := loopN_some hl0
 unfold F.perm_advance_b0 at hb
 refine Wc.seq fun K14 hK14 => ?_
 refine Wc.seq fun K15 hK15 => ?_
 refine Wc.regionMix [] (frm [] ([] : List Fact) ([] : List Fact)) (fun _ => rfl) mixed (by decide +kernel) (by decide +kernel) fun w17 hw16 => ?_
 replace hC := hC.step (Fr.of_drew hw16)
 have hM := Fr.refl (fun k => k ∈ blocks ([] : List Fact)) w17
 clear hw16
 have hS := hC
 refine mp (.int .i64 v3_0) (pu_move e3) ?_
 refine mp (.bool (decide (0 ≤ v3_0))) (pu_geq (k := .i64) (a := v3_0) (b := 0) rfl rfl) ?_
 refine mp (.bool (decide (0 ≤ v3_0))) (pu_move rfl) ?_
 rcases bS (decide (0 ≤ v3_0)) with hq18 | hq18
 replace hb := tt hq18 hb
 refine mixE.gpure rfl (want_t rfl rfl (show _ = Value.bool (decide (0 ≤ v3_0)) from rfl) hq18) (v := .slice Ap_0 p_0.length cp_0) (pu_move e0) ?_
 refine mixE.gpure rfl (want_t rfl rfl (show _ = Value.bool (decide (0 ≤ v3_0)) from rfl) hq18) (v := .int .i64 v3_0) (pu_move e3) ?_
 obtain ⟨x19, h20, hb⟩ := bd hb
 obtain ⟨ad21, cs22, hA, ho25, hc23, hr24⟩ := hS.elo2 (i := 0) rfl (get_some h20).2 [] (by decide)
 subst hA
 refine mixE.gpure rfl (want_t rfl rfl (show _ = Value.bool (decide (0 ≤ v3_0)) from rfl) hq18) (v := .pointer (some (ad21.add (v3_0.toNat * 1)))) (pu_index (a := v3_0) Try.underlying29 Try.sizeOf3 rfl rfl (get_some h20).1) ?_
 obtain ⟨rfl, hr24'⟩ := hr24
 refine mixE.gload rfl (want_t rfl rfl (show _ = Value.bool (decide (0 ≤ v3_0)) from rfl) hq18) hM (v := .int .i64 x19) (fun _ hF => ld_one Try.isAgg3 rfl (hF.cell (hc23 0 _ rfl) (off1 ho25))) ?_
 refine mixE.gpure rfl (want_t rfl rfl (show _ = Value.bool (decide (0 ≤ v3_0)) from rfl) hq18) (v := .slice (some ad21) p_0.length cp_0) (pu_move e0) ?_
 refine mixE.gpure rfl (want_t rfl rfl (show _ = Value.bool (decide (0 ≤ v3_0)) from rfl) hq18) (v := .int .i64 v3_0) (pu_move e3) ?_
 obtain ⟨z26, h27, hb⟩ := bd hb
 refine mixE.gpure rfl (want_t rfl rfl (show _ = Value.bool (decide (0 ≤ v3_0)) from rfl) hq18) (v := .int .i64 z26) (pu_addc (a := v3_0) (b := 1) rfl rfl h27) ?_
 obtain ⟨x28, h29, hb⟩ := bd hb
 obtain ⟨ad30, cs31, hA, ho34, hc32, hr33⟩ := hS.elo2 (i := 0) rfl (get_some h29).2 [] (by decide)
 obtain rfl := Option.some.inj hA
 refine mixE.gpure rfl (want_t rfl rfl (show _ = Value.bool (decide (0 ≤ v3_0)) from rfl) hq18) (v := .pointer (some (ad21.add (z26.toNat * 1)))) (pu_index (a := z26) Try.underlying29 Try.sizeOf3 rfl rfl (get_some h29).1) ?_
 obtain ⟨rfl, hr33'⟩ := hr33
 refine mixE.gload rfl (want_t rfl rfl (show _ = Value.bool (decide (0 ≤ v3_0)) from rfl) hq18) hM (v := .int .i64 x28) (fun _ hF => ld_one Try.isAgg3 rfl (hF.cell (hc32 0 _ rfl) (off1 ho34))) ?_
 refine mixE.gpure rfl (want_t rfl rfl (show _ = Value.bool (decide (0 ≤ v3_0)) from rfl) hq18) (v := .bool (decide (x28 < x19))) (pu_gtr (k := .i64) (a := x19) (b := x28) rfl rfl) ?_
 refine mp (.bool (decide (x28 < x19))) (pu_pickT (q := (decide (0 ≤ v3_0))) rfl hq18 rfl) ?_
 refine mixE.nil ?_
 clear hS hM
 refine hK15 _ _ ?_
 refine Wc.cond (t := (decide (x28 < x19))) (rfl) (fun hq35 => ?_) (fun hq35 => ?_)
 replace hb := tt hq35 hb
 refine Wc.skip ?_
 refine hK14 _ _ ?_
 refine Wc.block ?_
 refine rg ?_
 refine lp (.int .i64 v3_0) (pu_move e3) ?_
 obtain ⟨z36, h37, hb⟩ := bd hb
 refine lp (.int .i64 z36) (pu_subc (a := v3_0) (b := 1) rfl rfl h37) ?_
 refine lp (.int .i64 z36) (pu_assign rfl) ?_
 refine ln ?_
 obtain rfl := os hb
 exact hK9 m10' _ _ (Nat.lt_succ_self _) ⟨z36, e0, e2, rfl, (chk_rng h37), hC.sel [0] (by decide), lN hl0⟩
 replace hb := tf hq35 hb
 refine Wc.exit rfl ?_
 obtain rfl := os hb
 obtain rfl := (lX hl0).symm
 exact hK8 _ _ ⟨v3_0, e0, e2, e3, hrv3_0, hC.sel [0] (by decide), hbK0⟩
 replace hb := tf hq18 hb
 refine mixE.gskip (want_f rfl rfl (show _ = Value.bool (decide (0 ≤ v3_0)) from rfl) hq18) ?_
 refine mixE.gskip (want_f rfl rfl (show _ = Value.bool (decide (0 ≤ v3_0)) from rfl) hq18) ?_
 refine mixE.gskip (want_f rfl rfl (show _ = Value.bool (decide (0 ≤ v3_0)) from rfl) hq18) ?_
 refine mixE.gskip (want_f rfl rfl (show _ = Value.bool (decide (0 ≤ v3_0)) from rfl) hq18) ?_
 refine mixE.gskip (want_f rfl rfl (show _ = Value.bool (decide (0 ≤ v3_0)) from rfl) hq18) ?_
 refine mixE.gskip (want_f rfl rfl (show _ = Value.bool (decide (0 ≤ v3_0)) from rfl) hq18) ?_
 refine mixE.gskip (want_f rfl rfl (show _ = Value.bool (decide (0 ≤ v3_0)) from rfl) hq18) ?_
 refine mixE.gskip (want_f rfl rfl (show _ = Value.bool (decide (0 ≤ v3_0)) from rfl) hq18) ?_
 refine mixE.gskip (want_f rfl rfl (show _ = Value.bool (decide (0 ≤ v3_0)) from rfl) hq18) ?_
 refine mixE.gskip (want_f rfl rfl (show _ = Value.bool (decide (0 ≤ v3_0)) from rfl) hq18) ?_
 refine mp (.bool false) (pu_pickF (q := (decide (0 ≤ v3_0))) rfl hq18 rfl) ?_
 refine mixE.nil ?_
 clear hS hM
 refine hK15 _ _ ?_
 refine Wc.cond_false (rfl) ?_
 refine Wc.exit rfl ?_
 obtain rfl := os hb
 obtain rfl := (lX hl0).symm
 exact hK8 _ _ ⟨v3_0, e0, e2, e3, hrv3_0, hC.sel [0] (by decide), hbK0⟩
 clear hb hC hl0
 rintro E39 w38 ⟨v3_0, e0, e2, e3, hrv3_0, hC, hb⟩
 refine hK6 _ _ ?_
 refine Wc.seq fun K40 hK40 => ?_
 refine Wc.seq fun K41 hK41 => ?_
 refine rg ?_
 refine lp (.int .i64 v3_0) (pu_move e3) ?_
 refine lp (.bool (decide (v3_0 < 0))) (pu_lss (k := .i64) (a := v3_0) (b := 0) rfl rfl) ?_
 refine ln ?_
 refine hK41 _ _ ?_
 refine Wc.cond (t := (decide (v3_0 < 0))) (rfl) (fun hq42 => ?_) (fun hq42 => ?_)
 replace hb := tt hq42 hb
 refine Wc.seq fun K43 hK43 => ?_
 refine rg ?_
 refine lp (.bool false) (pu_assign rfl) ?_
 refine ln ?_
 refine hK43 _ _ ?_
 obtain rfl := os hb
 subst hI
 refine Wc.ret ?_
 refine hKR _ _ ?_
 refine ⟨_, res1 Try.results41 (show RV _ _ _ (.tmp _) (.bool false) from rfl), _, rfl, rfl, hC.sel [0] (by decide)⟩
 replace hb := tf hq42 hb
 refine Wc.skip ?_
 refine hK40 _ _ ?_
 refine Wc.seq fun K44 hK44 => ?_
 refine rg ?_
 refine lp (.slice Ap_0 p_0.length cp_0) (pu_move e0) ?_
 refine lp (.int .i64 (p_0.length : Int)) (pu_len (A := Ap_0) (n := p_0.length) (m := cp_0) Try.underlying29 rfl) ?_
 obtain ⟨z45, h46, hb⟩ := bd hb
 refine lp (.int .i64 z45) (pu_subc (a := (p_0.length : Int)) (b := 1) rfl rfl h46) ?_
 refine lp (.int .i64 z45) (pu_assign rfl) ?_
 refine ln ?_
 refine hK44 _ _ ?_
 refine Wc.seq fun K47 hK47 => ?_
 obtain ⟨o48, hl1, hb⟩ := bd hb
 refine Wc.cut (fun E wv => ∃ (v4_1 : Int), E 0 = .slice Ap_0 p_0.length cp_0 ∧ E 2 = .bool false ∧ E 3 = .int .i64 v3_0 ∧ E 4 = .int .i64 v4_1 ∧ I64 v4_1 ∧ Cx I O0 w wv [.own 3 (.int .i64) (.slice Ap_0 p_0.length cp_0) p_0] ∧ ((get p_0 v4_1).bind fun x81 => (get p_0 v3_0).bind fun x88 => (get p_0 v3_0).bind fun x95 => (get (p_0.set v3_0.toNat x81) v4_1).bind fun x103 => (chk (v3_0 + 1)).bind fun z112 => (cut z112 (((p_0.set v3_0.toNat x81).set v4_1.toNat x88).length : Int) ((p_0.set v3_0.toNat x81).set v4_1.toNat x88).length).bind fun u114 => some (true, (((p_0.set v3_0.toNat x81).set v4_1.toNat x88).take z112.toNat ++ (((p_0.set v3_0.toNat x81).set v4_1.toNat x88).drop z112.toNat).reverse)) : Option (Bool × (List Int))) = some r) (fun K49 hK49 => ?_) ?_
 refine Wc.block ?_
 refine Wc.loop (fun m E wv => ∃ (v4_1 : Int), E 0 = .slice Ap_0 p_0.length cp_0 ∧ E 2 = .bool false ∧ E 3 = .int .i64 v3_0 ∧ E 4 = .int .i64 v4_1 ∧ I64 v4_1 ∧ Cx I O0 w wv [.own 3 (.int .i64) (.slice Ap_0 p_0.length cp_0) p_0] ∧ loopN m (F.perm_advance_b1 n p_0 v3_0) v4_1 = some o48) n ⟨z45, e0, e2, e3, rfl, (chk_rng h46), hC.sel [0] (by decide), hl1⟩ ?_
 have hbK1 := hb
 clear hb hC hl1
 rintro m51 E53 w52 ⟨v4_1, e0, e2, e3, e4, hrv4_1, hC, hl1⟩ K50 hK50
 obtain ⟨m51', o54, rfl, hb, hl1⟩ := loopN_some hl1
 unfold F.perm_advance_b1 at hb
 refine Wc.seq fun K55 hK55 => ?_
 refine Wc.seq fun K56 hK56 => ?_
 refine Wc.regionMix [] (frm [] ([] : List Fact) ([] : List Fact)) (fun _ => rfl) mixed (by decide +kernel) (by decide +kernel) fun w58 hw57 => ?_
 replace hC := hC.step (Fr.of_drew hw57)
 have hM := Fr.refl (fun k => k ∈ blocks ([] : List Fact)) w58
 clear hw57
 have hS := hC
 refine mp (.slice Ap_0 p_0.length cp_0) (pu_move e0) ?_
 refine mp (.int .i64 v4_1) (pu_move e4) ?_
 obtain ⟨x59, h60, hb⟩ := bd hb
 obtain ⟨ad61, cs62, hA, ho65, hc63, hr64⟩ := hS.elo2 (i := 0) rfl (get_some h60).2 [] (by decide)
 subst hA
 refine mp (.pointer (some (ad61.add (v4_1.toNat * 1)))) (pu_index (a := v4_1) Try.underlying29 Try.sizeOf3 rfl rfl (get_some h60).1) ?_
 obtain ⟨rfl, hr64'⟩ := hr64
 refine mixE.load hM (v := .int .i64 x59) (fun _ hF => ld_one Try.isAgg3 rfl (hF.cell (hc63 0 _ rfl) (off1 ho65))) ?_
 refine mp (.slice (some ad61) p_0.length cp_0) (pu_move e0) ?_
 refine mp (.int .i64 v3_0) (pu_move e3) ?_
 obtain ⟨x66, h67, hb⟩ := bd hb
 obtain ⟨ad68, cs69, hA, ho72, hc70, hr71⟩ := hS.elo2 (i := 0) rfl (get_some h67).2 [] (by decide)
 obtain rfl := Option.some.inj hA
 refine mp (.pointer (some (ad61.add (v3_0.toNat * 1)))) (pu_index (a := v3_0) Try.underlying29 Try.sizeOf3 rfl rfl (get_some h67).1) ?_
 obtain ⟨rfl, hr71'⟩ := hr71
 refine mixE.load hM (v := .int .i64 x66) (fun _ hF => ld_one Try.isAgg3 rfl (hF.cell (hc70 0 _ rfl) (off1 ho72))) ?_
 refine mp (.bool (decide (x59 < x66))) (pu_lss (k := .i64) (a := x59) (b := x66) rfl rfl) ?_
 refine mixE.nil ?_
 clear hS hM
 refine hK56 _ _ ?_
 refine Wc.cond (t := (decide (x59 < x66))) (rfl) (fun hq73 => ?_) (fun hq73 => ?_)
 replace hb := tt hq73 hb
 refine Wc.skip ?_
 refine hK55 _ _ ?_
 refine Wc.block ?_
 refine rg ?_
 refine lp (.int .i64 v4_1) (pu_move e4) ?_
 obtain ⟨z74, h75, hb⟩ := bd hb
 refine lp (.int .i64 z74) (pu_subc (a := v4_1) (b := 1) rfl rfl h75) ?_
 refine lp (.int .i64 z74) (pu_assign rfl) ?_
 refine ln ?_
 obtain rfl := os hb
 exact hK50 m51' _ _ (Nat.lt_succ_self _) ⟨z74, e0, e2, e3, rfl, (chk_rng h75), hC.sel [0] (by decide), lN hl1⟩
 replace hb := tf hq73 hb
 refine Wc.exit rfl ?_
 obtain rfl := os hb
 obtain rfl := (lX hl1).symm
 exact hK49 _ _ ⟨v4_1, e0, e2, e3, e4, hrv4_1, hC.sel [0] (by decide), hbK1⟩
 clear hb hC hl1
 rintro E77 w76 ⟨v4_1, e0, e2, e3, e4, hrv4_1, hC, hb⟩
 refine hK47 _ _ ?_
 refine Wc.seq fun K78 hK78 => ?_
 refine Wc.regionMix [] (frm [] ([] : List Fact) [.own 3 (.int .i64) (.slice Ap_0 p_0.length cp_0) p_0]) (fun _ => rfl) mixed (by decide +kernel) (by decide +kernel) fun w80 hw79 => ?_
 replace hC := hC.step (Fr.of_drew hw79)
 have hM := Fr.refl (fun k => k ∈ blocks ([] : List Fact)) w80
 clear hw79
 have hS := hC
 have hD : Fr (fun k => k ∈ blocks (([] : List Fact) ++ [.own 3 (.int .i64) (.slice Ap_0 p_0.length cp_0) p_0])) w80 w80 := hM.wide
 have hUf1 : Beside (([] : List Fact) ++ [.own 3 (.int .i64) (.slice Ap_0 p_0.length cp_0) p_0]) w80 (.slice Ap_0 p_0.length cp_0) := Beside.of (i := 0) rfl
 refine mp (.slice Ap_0 p_0.length cp_0) (pu_move e0) ?_
 refine mp (.int .i64 v3_0) (pu_move e3) ?_
 refine mp (.slice Ap_0 p_0.length cp_0) (pu_move e0) ?_
 refine mp (.int .i64 v4_1) (pu_move e4) ?_
 refine mp (.slice Ap_0 p_0.length cp_0) (pu_move e0) ?_
 refine mp (.int .i64 v4_1) (pu_move e4) ?_
 obtain ⟨x81, h82, hb⟩ := bd hb
 obtain ⟨ad83, cs84, hA, ho87, hc85, hr86⟩ := hS.elo2 (i := 0) rfl (get_some h82).2 [] (by decide)
 subst hA
 refine mp (.pointer (some (ad83.add (v4_1.toNat * 1)))) (pu_index (a := v4_1) Try.underlying29 Try.sizeOf3 rfl rfl (get_some h82).1) ?_
 obtain ⟨rfl, hr86'⟩ := hr86
 refine mixE.load hM (v := .int .i64 x81) (fun _ hF => ld_one Try.isAgg3 rfl (hF.cell (hc85 0 _ rfl) (off1 ho87))) ?_
 refine mp (.slice (some ad83) p_0.length cp_0) (pu_move e0) ?_
 refine mp (.int .i64 v3_0) (pu_move e3) ?_
 obtain ⟨x88, h89, hb⟩ := bd hb
 obtain ⟨ad90, cs91, hA, ho94, hc92, hr93⟩ := hS.elo2 (i := 0) rfl (get_some h89).2 [] (by decide)
 obtain rfl := Option.some.inj hA
 refine mp (.pointer (some (ad83.add (v3_0.toNat * 1)))) (pu_index (a := v3_0) Try.underlying29 Try.sizeOf3 rfl rfl (get_some h89).1) ?_
 obtain ⟨rfl, hr93'⟩ := hr93
 refine mixE.load hM (v := .int .i64 x88) (fun _ hF => ld_one Try.isAgg3 rfl (hF.cell (hc92 0 _ rfl) (off1 ho94))) ?_
 obtain ⟨x95, h96, hb⟩ := bd hb
 obtain ⟨ad97, cs98, hA, ho101, hc99, hr100⟩ := hS.elo2 (i := 0) rfl (get_some h96).2 [] (by decide)
 obtain rfl := Option.some.inj hA
 refine mp (.pointer (some (ad83.add (v3_0.toNat * 1)))) (pu_index (a := v3_0) Try.underlying29 Try.sizeOf3 rfl rfl (get_some h96).1) ?_
 refine mixE.sk hD (hC.put (i := 0) rfl rfl Try.sizeOf3 (k := v3_0.toNat) (a := x81) (by have := (get_some h96).1; simp at this ⊢; omega) (⟨rfl, I64.wr (wrap_I64 hr86')⟩) rfl rfl rfl) ?_
 rintro w102 ⟨hC, hF⟩
 replace hD := hD.beside hUf1 hF
 clear hF
 refine ⟨hD, ?_⟩
 obtain ⟨x103, h104, hb⟩ := bd hb
 obtain ⟨ad105, cs106, hA, hc107, hr108⟩ := hC.elo (i := 0) rfl (get_some h104).2
 obtain rfl := Option.some.inj hA
 refine mp (.pointer (some (ad83.add (v4_1.toNat * 1)))) (pu_index (a := v4_1) Try.underlying29 Try.sizeOf3 rfl rfl (by rw [(hC.ow (i := 0) rfl).sl_len.1]; exact (get_some h104).1)) ?_
 refine mixE.sk hD (hC.put (i := 0) rfl rfl Try.sizeOf3 (k := v4_1.toNat) (a := x88) (by have := (get_some h104).1; simp at this ⊢; omega) (⟨rfl, I64.wr (wrap_I64 hr93')⟩) rfl rfl rfl) ?_
 rintro w109 ⟨hC, hF⟩
 replace hD := hD.beside hUf1 hF
 clear hF
 refine ⟨hD, ?_⟩
 refine mixE.nil ?_
 clear hS hM
 clear hD
 refine hK78 _ _ ?_
 refine Wc.fresh fun E110 hE => ?_
 have e0 := (congrFun hE 0).trans e0
 have e2 := (congrFun hE 2).trans e2
 have e3 := (congrFun hE 3).trans e3
 clear hE
 refine Wc.seq fun K111 hK111 => ?_
 refine rg ?_
 refine lp (.slice (some ad83) p_0.length cp_0) (pu_move e0) ?_
 refine lp (.int .i64 v3_0) (pu_move e3) ?_
 obtain ⟨z112, h113, hb⟩ := bd hb
 refine lp (.int .i64 z112) (pu_addc (a := v3_0) (b := 1) rfl rfl h113) ?_
 obtain ⟨u114, h115, hb⟩ := bd hb
 refine lp (.slice (if cp_0 = z112.toNat then (some ad83) else (some ad83).map (·.add (z112.toNat * 1))) (p_0.length - z112.toNat) (cp_0 - z112.toNat)) (pu_slice_l (a := z112) Try.underlying29 Try.sizeOf3 rfl rfl (by have h1 := cut_some h115; have h2 := (hC.ow (i := 0) rfl).sl_len; omega)) ?_
 refine lex.cl (⟨_, _, op_call (vs := [.slice (if cp_0 = z112.toNat then (some ad83) else (some ad83).map (·.add (z112.toNat * 1))) (p_0.length - z112.toNat) (cp_0 - z112.toNat)]) Try.call52 rfl rfl rfl, Cx.revTail slices_Reverse_Perm_int_tail hC (i := 0) rfl (by have h1 := cut_some h115; omega)⟩) ?_
 rintro _ w116 ⟨rfl, hC, hF⟩
 clear hF
 refine ln ?_
 refine hK111 _ _ ?_
 refine Wc.seq fun K117 hK117 => ?_
 refine rg ?_
 refine lp (.bool true) (pu_assign rfl) ?_
 refine ln ?_
 refine hK117 _ _ ?_
 obtain rfl := os hb
 subst hI
 refine Wc.ret ?_
 refine hKR _ _ ?_
 refine ⟨_, res1 Try.results41 (show RV _ _ _ (.tmp _) (.bool true) from rfl), _, rfl, rfl, hC.sel [0] (by decide)⟩

set_option maxRecDepth 100000 in
set_option maxHeartbeats 4000000 in
theorem perm_All_c1_it (n : Nat) {Sg Xg : Type} (step : List Int → Sg → Option (Sg ⊕ Xg)) {gu_1 : Nat} {u_1_0 : Int} (hu_1_0 : I64 u_1_0) : IterF Try.prog 40 #[.pointer (some ⟨gu_1, 0, none⟩)] 3 [.box gu_1 3 [.int .i64 u_1_0]] step (fun sg => F.perm_All_c1 step n sg u_1_0) := by
 intro l I O0 w JJ JX sg r T w1 hY hJ hb hC
 unfold F.perm_All_c1 at hb
 refine calls_of_Wc Try.func40 rfl (by rw [Try.ntmps40]; exact Nat.le_of_ble_eq_true rfl) fun KR hKR => ?_
 refine Wc.seq fun K2 hK2 => ?_
 refine Wc.seq fun K3 hK3 => ?_
 refine rg ?_
 replace hC : Cx I O0 w w1 ([.box gu_1 3 [.int .i64 u_1_0]] ++ T) := hC
 refine lv (.int .i64 u_1_0) (ld_one Try.isAgg3 rfl ((hC.bx (i := 0) rfl).cell (j := 0) rfl)) ?_
 refine lp (.bool (decide (u_1_0 < 0))) (pu_lss (k := .i64) (a := u_1_0) (b := 0) rfl rfl) ?_
 refine lp (.bool (decide (u_1_0 < 0))) (pu_move rfl) ?_
 rcases bS (decide (u_1_0 < 0)) with hq4 | hq4
 replace hb := tt hq4 hb
 refine gs rfl rfl (decide (u_1_0 < 0)) rfl hq4 ?_
 refine gs rfl rfl (decide (u_1_0 < 0)) rfl hq4 ?_
 refine lp (.bool true) (pu_pickT (q := (decide (u_1_0 < 0))) rfl hq4 rfl) ?_
 refine ln ?_
 refine hK3 _ _ ?_
 refine Wc.cond_true (rfl) ?_
 obtain rfl := os hb
 refine Wc.ret ?_
 refine hKR _ _ ?_
 exact ⟨_, res0 Try.results40, _, rfl, .inl ⟨_, _, rfl, hJ, hC.selT [0] (by decide)⟩⟩
 replace hb := tf hq4 hb
 refine gv rfl rfl (decide (u_1_0 < 0)) rfl hq4 (.int .i64 u_1_0) (ld_one Try.isAgg3 rfl ((hC.bx (i := 0) rfl).cell (j := 0) rfl)) ?_
 refine gp rfl rfl (decide (u_1_0 < 0)) rfl hq4 (.bool (decide (8 < u_1_0))) (pu_gtr (k := .i64) (a := u_1_0) (b := 8) rfl rfl) ?_
 refine lp (.bool (decide (8 < u_1_0))) (pu_pickF (q := (decide (u_1_0 < 0))) rfl hq4 rfl) ?_
 refine ln ?_
 refine hK3 _ _ ?_
 refine Wc.cond (t := (decide (8 < u_1_0))) (rfl) (fun hq5 => ?_) (fun hq5 => ?_)
 replace hb := tt hq5 hb
 obtain rfl := os hb
 refine Wc.ret ?_
 refine hKR _ _ ?_
 exact ⟨_, res0 Try.results40, _, rfl, .inl ⟨_, _, rfl, hJ, hC.selT [0] (by decide)⟩⟩
 replace hb := tf hq5 hb
 refine Wc.skip ?_
 refine hK2 _ _ ?_
 refine Wc.seq fun K6 hK6 => ?_
 refine rg ?_
 refine lv (.int .i64 u_1_0) (ld_one Try.isAgg3 rfl ((hC.bx (i := 0) rfl).cell (j := 0) rfl)) ?_
 obtain ⟨u7, h8, hb⟩ := bd hb
 refine lex.op (hC.make (s := (.int .i64)) (n := u_1_0) Try.underlying29 Try.type3 rfl rfl rfl rfl rfl (pos_some h8).1 (pos_some h8).2 (by decide)) ?_
 rintro _ w13 ⟨A9, c10, rfl, hl11, hc12, hC, hF, hN⟩
 clear hF hN
 replace hC : Cx I O0 w w13 ([.own 3 (.int .i64) (.slice A9 (((List.replicate u_1_0.toNat (0 : Int))).length) c10) (List.replicate u_1_0.toNat (0 : Int)), .box gu_1 3 [.int .i64 u_1_0]] ++ T) := hC
 refine lp (.slice A9 (((List.replicate u_1_0.toNat (0 : Int))).length) c10) (pu_assign rfl) ?_
 refine ln ?_
 refine hK6 _ _ ?_
 refine Wc.seq fun K15 hK15 => ?_
 refine Wc.seq fun K16 hK16 => ?_
 refine rg ?_
 refine lp (.slice A9 (((List.replicate u_1_0.toNat (0 : Int))).length) c10) (pu_move rfl) ?_
 refine lp (.int .i64 (((List.replicate u_1_0.toNat (0 : Int))).length : Int)) (pu_len (A := A9) (n := ((List.replicate u_1_0.toNat (0 : Int))).length) (m := c10) Try.underlying29 rfl) ?_
 refine lp (.int .i64 0) (pu_move rfl) ?_
 refine ln ?_
 refine hK16 _ _ ?_
 refine Wc.fresh fun E17 hE => ?_
 have e0 : E17 0 = .func (.yield l) #[] #[] := (congrFun hE 0).trans rfl
 have e3 : E17 3 = .slice A9 (((List.replicate u_1_0.toNat (0 : Int))).length) c10 := (congrFun hE 3).trans rfl
 have e15 : E17 15 = .int .i64 (((List.replicate u_1_0.toNat (0 : Int))).length : Int) := (congrFun hE 15).trans rfl
 have e16 : E17 16 = .int .i64 0 := (congrFun hE 16).trans rfl
 clear hE
 obtain ⟨o18, hl0, hb⟩ := bd hb
 refine Wc.cut (fun E wv => ∃ (T_0 : List Fact) (s_0 : Sg) (v16_0 : Int) (qf14_0 : List Int), E 0 = .func (.yield l) #[] #[] ∧ E 3 = .slice A9 (((List.replicate u_1_0.toNat (0 : Int))).length) c10 ∧ I64 v16_0 ∧ JJ s_0 T_0 ∧ Cx I O0 w wv ([.own 3 (.int .i64) (.slice A9 (((List.replicate u_1_0.toNat (0 : Int))).length) c10) qf14_0, .box gu_1 3 [.int .i64 u_1_0]] ++ T_0) ∧ (((loopN n (F.perm_All_c1_b1 step n) (s_0, true, qf14_0)).bind fun o42 => match o42 with     | (.inl (s_1, v5_1, qf14_1)) => some (.inl s_1)     | (.inr q) => some q) : Option (Sg ⊕ Xg)) = some r) (fun K19 hK19 => ?_) ?_
 refine Wc.block ?_
 refine Wc.loop (fun m E wv => ∃ (T_0 : List Fact) (s_0 : Sg) (v16_0 : Int) (qf14_0 : List Int), E 0 = .func (.yield l) #[] #[] ∧ E 3 = .slice A9 (((List.replicate u_1_0.toNat (0 : Int))).length) c10 ∧ E 15 = .int .i64 (((List.replicate u_1_0.toNat (0 : Int))).length : Int) ∧ E 16 = .int .i64 v16_0 ∧ I64 v16_0 ∧ JJ s_0 T_0 ∧ Cx I O0 w wv ([.own 3 (.int .i64) (.slice A9 (((List.replicate u_1_0.toNat (0 : Int))).length) c10) qf14_0, .box gu_1 3 [.int .i64 u_1_0]] ++ T_0) ∧ loopN m (F.perm_All_c1_b0 step n u_1_0) (s_0, v16_0, qf14_0) = some o18) n ⟨T, sg, 0, (List.replicate u_1_0.toNat (0 : Int)), e0, e3, e15, e16, (show I64 0 from by unfold I64; omega), hJ, hC.selT [0, 1] (by decide), hl0⟩ ?_
 have hbK0 := hb
 clear hb hC hl0
 rintro m21 E23 w22 ⟨T_0, s_0, v16_0, qf14_0, e0, e3, e15, e16, hrv16_0, hJ, hC, hl0⟩ K20 hK20
 obtain ⟨m21', o24, rfl, hb, hl0⟩ := loopN_some hl0
 unfold F.perm_All_c1_b0 at hb
 refine Wc.seq fun K25 hK25 => ?_
 refine rg ?_
 replace hC : Cx I O0 w w22 ([.own 3 (.int .i64) (.slice A9 (((List.replicate u_1_0.toNat (0 : Int))).length) c10) qf14_0, .box gu_1 3 [.int .i64 u_1_0]] ++ T_0) := hC
 refine lp (.bool (decide (v16_0 < (((List.replicate u_1_0.toNat (0 : Int))).length : Int)))) (pu_lss (k := .i64) (a := v16_0) (b := (((List.replicate u_1_0.toNat (0 : Int))).length : Int)) e16 e15) ?_
 refine ln ?_
 refine hK25 _ _ ?_
 refine Wc.seq fun K26 hK26 => ?_
 refine Wc.cond (t := (decide (v16_0 < (((List.replicate u_1_0.toNat (0 : Int))).length : Int)))) (rfl) (fun hq27 => ?_) (fun hq27 => ?_)
 replace hb := tt hq27 hb
 refine Wc.skip ?_
 refine hK26 _ _ ?_
 refine Wc.seq fun K28 hK28 => ?_
 refine Wc.block ?_
 refine Wc.seq fun K29 hK29 => ?_
 refine rg ?_
 refine lp (.int .i64 v16_0) (pu_move e16) ?_
 refine lp (.int .i64 v16_0) (pu_assign rfl) ?_
 refine ln ?_
 refine hK29 _ _ ?_
 refine rg ?_
 refine lp (.slice A9 (((List.replicate u_1_0.toNat (0 : Int))).length) c10) (pu_move e3) ?_
 refine lp (.int .i64 v16_0) (pu_move rfl) ?_
 refine lp (.int .i64 v16_0) (pu_move rfl) ?_
 obtain ⟨x30, h31, hb⟩ := bd hb
 obtain ⟨ad32, cs33, hA, hc34, hr35⟩ := hC.elo (i := 0) rfl (get_some h31).2
 subst hA
 refine lp (.pointer (some (ad32.add (v16_0.toNat * 1)))) (pu_index (a := v16_0) Try.underlying29 Try.sizeOf3 rfl rfl (by rw [(hC.ow (i := 0) rfl).sl_len.1]; exact (get_some h31).1)) ?_
 replace hC : Cx I O0 w w22 ([.own 3 (.int .i64) (.slice (some ad32) (((List.replicate u_1_0.toNat (0 : Int))).length) c10) qf14_0, .box gu_1 3 [.int .i64 u_1_0]] ++ T_0) := hC
 refine lex.sk (hC.put (i := 0) rfl rfl Try.sizeOf3 (k := v16_0.toNat) (a := v16_0) (by have := (get_some h31).1; simp at this ⊢; omega) (⟨rfl, I64.wr hrv16_0⟩) rfl rfl rfl) ?_
 rintro w36 ⟨hC, hF⟩
 refine ln ?_
 refine hK28 _ _ ?_
 refine rg ?_
 replace hC : Cx I O0 w w36 ([.own 3 (.int .i64) (.slice (some ad32) (((List.replicate u_1_0.toNat (0 : Int))).length) c10) (qf14_0.set v16_0.toNat v16_0), .box gu_1 3 [.int .i64 u_1_0]] ++ T_0) := hC
 obtain ⟨z37, h38, hb⟩ := bd hb
 refine lp (.int .i64 z37) (pu_addc (a := v16_0) (b := 1) e16 rfl h38) ?_
 refine lp (.int .i64 z37) (pu_move rfl) ?_
 refine ln ?_
 obtain rfl := os hb
 exact hK20 m21' _ _ (Nat.lt_succ_self _) ⟨T_0, s_0, z37, (qf14_0.set v16_0.toNat v16_0), e0, e3, e15, rfl, (chk_rng h38), hJ, hC.selT [0, 1] (by decide), lN hl0⟩
 replace hb := tf hq27 hb
 refine Wc.exit rfl ?_
 obtain rfl := os hb
 obtain rfl := (lX hl0).symm
 exact hK19 _ _ ⟨T_0, s_0, v16_0, qf14_0, e0, e3, hrv16_0, hJ, hC.selT [0, 1] (by decide), hbK0⟩
 clear hb hC hl0
 rintro E40 w39 ⟨T_0, s_0, v16_0, qf14_0, e0, e3, hrv16_0, hJ, hC, hb⟩
 refine hK15 _ _ ?_
 refine Wc.seq fun K41 hK41 => ?_
 refine rg ?_
 replace hC : Cx I O0 w w39 ([.own 3 (.int .i64) (.slice A9 (((List.replicate u_1_0.toNat (0 : Int))).length) c10) qf14_0, .box gu_1 3 [.int .i64 u_1_0]] ++ T_0) := hC
 refine lp (.bool true) (pu_assign rfl) ?_
 refine ln ?_
 refine hK41 _ _ ?_
 obtain ⟨o42, hl1, hb⟩ := bd hb
 refine Wc.cut (fun E wv => ∃ (T_1 : List Fact) (s_1 : Sg) (v5_1 : Bool) (qf14_1 : List Int), JJ s_1 T_1 ∧ Cx I O0 w wv ([.box gu_1 3 [.int .i64 u_1_0]] ++ T_1) ∧ (some (.inl s_1) : Option (Sg ⊕ Xg)) = some r) (fun K43 hK43 => ?_) ?_
 refine Wc.block ?_
 refine Wc.loop (fun m E wv => ∃ (T_1 : List Fact) (s_1 : Sg) (v5_1 : Bool) (qf14_1 : List Int), E 0 = .func (.yield l) #[] #[] ∧ E 3 = .slice A9 (((List.replicate u_1_0.toNat (0 : Int))).length) c10 ∧ E 5 = .bool v5_1 ∧ JJ s_1 T_1 ∧ Cx I O0 w wv ([.own 3 (.int .i64) (.slice A9 (((List.replicate u_1_0.toNat (0 : Int))).length) c10) qf14_1, .box gu_1 3 [.int .i64 u_1_0]] ++ T_1) ∧ loopN m (F.perm_All_c1_b1 step n) (s_1, v5_1, qf14_1) = some o42) n ⟨T_0, s_0, true, qf14_0, e0, e3, rfl, hJ, hC.selT [0, 1] (by decide), hl1⟩ ?_
 have hbK1 := hb
 clear hb hC hl1
 rintro m45 E47 w46 ⟨T_1, s_1, v5_1, qf14_1, e0, e3, e5, hJ, hC, hl1⟩ K44 hK44
 obtain ⟨m45', o48, rfl, hb, hl1⟩ := loopN_some hl1
 unfold F.perm_All_c1_b1 at hb
 refine Wc.seq fun K49 hK49 => ?_
 refine Wc.seq fun K50 hK50 => ?_
 refine rg ?_
 replace hC : Cx I O0 w w46 ([.own 3 (.int .i64) (.slice A9 (((List.replicate u_1_0.toNat (0 : Int))).length) c10) qf14_1, .box gu_1 3 [.int .i64 u_1_0]] ++ T_1) := hC
 refine lp (.bool v5_1) (pu_move e5) ?_
 refine ln ?_
 refine hK50 _ _ ?_
 refine Wc.cond (t := v5_1) (rfl) (fun hq51 => ?_) (fun hq51 => ?_)
 replace hb := tt hq51 hb
 refine Wc.skip ?_
 refine hK49 _ _ ?_
 refine Wc.seq fun K52 hK52 => ?_
 refine Wc.block ?_
 refine Wc.seq fun K53 hK53 => ?_
 refine rg ?_
 refine lp (.func (.yield l) #[] #[]) (pu_move e0) ?_
 refine lp (.slice A9 (((List.replicate u_1_0.toNat (0 : Int))).length) c10) (pu_move e3) ?_
 obtain ⟨y54, h55, hb⟩ := bd hb
 refine lex.cl (⟨_, _, op_call (vs := [.slice A9 (((List.replicate u_1_0.toNat (0 : Int))).length) c10]) Try.call42 rfl rfl rfl, slices_Clone_Perm_int_ok n (hC.lentLt [.slice A9 (((List.replicate u_1_0.toNat (0 : Int))).length) c10]) ((hC.ow (i := 0) rfl).lend (vs := [.slice A9 (((List.replicate u_1_0.toNat (0 : Int))).length) c10]) (by simp)) h55⟩) ?_
 rintro _ w60 ⟨A56, m57, c58, rfl, hK⟩
 replace hC := hC.mergeF hK rfl
 clear hK
 obtain ⟨rfl, hl61, hc62⟩ := (hC.ow (i := 0) rfl).sl_len
 replace hC : Cx I O0 w w60 ([.own 3 (.int .i64) (.slice A56 y54.length c58) y54, .own 3 (.int .i64) (.slice A9 (((List.replicate u_1_0.toNat (0 : Int))).length) c10) qf14_1, .box gu_1 3 [.int .i64 u_1_0]] ++ T_1) := hC
 replace hC := hC.selT [0, 1, 2] (by decide)
 replace hC : Cx I O0 w w60 (([.own 3 (.int .i64) (.slice A56 y54.length c58) y54] ++ [.own 3 (.int .i64) (.slice A9 (((List.replicate u_1_0.toNat (0 : Int))).length) c10) qf14_1, .box gu_1 3 [.int .i64 u_1_0]]) ++ T_1) := hC
 obtain ⟨o63, h64, hb⟩ := bd hb
 obtain ⟨fn65, tm66, as67, bd68, hy69, hR70⟩ := hY _ _ _ _ _ _ _ _ hJ h64 hC.yarg
 refine lex.yield (op_yield (vs := [.slice A56 y54.length c58]) rfl rfl rfl hy69) hR70 ?_
 rintro _ w71 (⟨s72, T73, he74, rfl, hJ, hC⟩ | ⟨s75, T76, he74, rfl, hX, hC⟩)
 subst he74
 replace hb := sumL hb
 replace hC : Cx I O0 w w71 ([.own 3 (.int .i64) (.slice A9 (((List.replicate u_1_0.toNat (0 : Int))).length) c10) qf14_1, .box gu_1 3 [.int .i64 u_1_0]] ++ T73) := hC.comm
 refine ⟨_, rfl, ?_⟩
 replace hC : Cx I O0 w w71 ([.own 3 (.int .i64) (.slice A9 (((List.replicate u_1_0.toNat (0 : Int))).length) c10) qf14_1, .box gu_1 3 [.int .i64 u_1_0]] ++ T73) := hC
 refine lp (.bool false) (pu_not (q := true) rfl) ?_
 refine ln ?_
 refine hK53 _ _ ?_
 refine Wc.cond_false (rfl) ?_
 refine Wc.skip ?_
 refine hK52 _ _ ?_
 refine rg ?_
 refine lp (.slice A9 (((List.replicate u_1_0.toNat (0 : Int))).length) c10) (pu_move e3) ?_
 replace hC := hC.selT [0, 1] (by decide)
 replace hC : Cx I O0 w w71 ([.own 3 (.int .i64) (.slice A9 (((List.replicate u_1_0.toNat (0 : Int))).length) c10) qf14_1] ++ ([.box gu_1 3 [.int .i64 u_1_0]] ++ T73)) := hC
 obtain ⟨y77, h78, hb⟩ := bd hb
 refine lex.cl (⟨_, _, op_call (vs := [.slice A9 (((List.replicate u_1_0.toNat (0 : Int))).length) c10]) Try.call41 rfl rfl rfl, perm_advance_ok n hC.lt hC.give h78⟩) ?_
 rintro _ w79 ⟨rfl, hK⟩
 replace hC := hC.back hK
 clear hK
 replace hC : Cx I O0 w w79 ([.own 3 (.int .i64) (.slice A9 (((List.replicate u_1_0.toNat (0 : Int))).length) c10) y77.2, .box gu_1 3 [.int .i64 u_1_0]] ++ T73) := hC
 refine lp (.bool y77.1) (pu_assign rfl) ?_
 refine ln ?_
 obtain rfl := os hb
 exact hK44 m45' _ _ (Nat.lt_succ_self _) ⟨T73, s72, y77.1, y77.2, e0, e3, rfl, hJ, hC.selT [0, 1] (by decide), lN hl1⟩
 subst he74
 replace hb := sumR hb
 replace hC : Cx I O0 w w71 ([.own 3 (.int .i64) (.slice A9 (((List.replicate u_1_0.toNat (0 : Int))).length) c10) qf14_1, .box gu_1 3 [.int .i64 u_1_0]] ++ T76) := hC.comm
 refine ⟨_, rfl, ?_⟩
 replace hC : Cx I O0 w w71 ([.own 3 (.int .i64) (.slice A9 (((List.replicate u_1_0.toNat (0 : Int))).length) c10) qf14_1, .box gu_1 3 [.int .i64 u_1_0]] ++ T76) := hC
 refine lp (.bool true) (pu_not (q := false) rfl) ?_
 refine ln ?_
 refine hK53 _ _ ?_
 refine Wc.cond_true (rfl) ?_
 obtain rfl := os hb
 obtain rfl := (lX hl1).symm
 replace hb := hbK1
 obtain rfl := os hb
 refine Wc.ret ?_
 refine hKR _ _ ?_
 exact ⟨_, res0 Try.results40, _, rfl, .inr ⟨_, _, rfl, hX, hC.selT [1] (by decide)⟩⟩
 replace hb := tf hq51 hb
 refine Wc.exit rfl ?_
 obtain rfl := os hb
 obtain rfl := (lX hl1).symm
 exact hK43 _ _ ⟨T_1, s_1, v5_1, qf14_1, hJ, hC.selT [1] (by decide), hbK1⟩
 clear hb hC hl1
 rintro E81 w80 ⟨T_1, s_1, v5_1, qf14_1, hJ, hC, hb⟩
 replace hC : Cx I O0 w w80 ([.box gu_1 3 [.int .i64 u_1_0]] ++ T_1) := hC
 obtain rfl := os hb
 refine hKR _ _ ?_
 exact ⟨_, res0 Try.results40, _, rfl, .inl ⟨_, _, rfl, hJ, hC.selT [0] (by decide)⟩⟩
end Go.Proofs.Ytmlkiafidahnbaa
