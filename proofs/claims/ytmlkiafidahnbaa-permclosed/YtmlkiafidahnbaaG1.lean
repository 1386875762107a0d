/- The walks: part 1. -/
import Derived.Test.YtmlkiafidahnbaaS
import Derived.Test.YtmlkiafidahnbaaG0
set_option linter.unusedVariables false
set_option linter.unusedSimpArgs false
namespace Go.Proofs.Ytmlkiafidahnbaa
open Ev
set_option maxRecDepth 100000 in
set_option maxHeartbeats 4000000 in
theorem perm_Cycles_ok (n : Nat) {w : World} {O0 : List Nat} (hO : ∀ k ∈ O0, k < w.heap.size) {Ap_0 : Option Addr} {mp_0 cp_0 : Nat} {p_0 : List Int} (hp_0 : Rep O0 w (.sl (.int .i64)) [.slice Ap_0 mp_0 cp_0] p_0) {r : (List (List Int))} (hb : F.perm_Cycles n p_0 = some r) :
    Calls Try.prog 24 #[.slice Ap_0 mp_0 cp_0] w fun e w' => ∃ v, e = .returned v ∧ ∃ (A0 : Option Addr) (m0 c0 : Nat), v = .slice A0 m0 c0 ∧ Cx (fun _ => False) O0 w w' [.own 28 (.sl (.int .i64)) (.slice A0 m0 c0) r] := by
 unfold F.perm_Cycles at hb
 have hC := Cx.start hO
 replace hC := hC.arg rfl hp_0
 clear hO
 obtain ⟨rfl, hlp_0, hcp_0⟩ := hp_0.sl_len
 refine calls_of_Wc Try.func24 rfl (by rw [Try.ntmps24]; exact Nat.le_of_ble_eq_true rfl) fun KR hKR => ?_
 refine Wc.seq fun K2 hK2 => ?_
 refine rg ?_
 refine lp (.slice none 0 0) (pu_assign rfl) ?_
 refine ln ?_
 refine hK2 _ _ ?_
 refine Wc.seq fun K3 hK3 => ?_
 refine Wc.seq fun K4 hK4 => ?_
 refine rg ?_
 refine lp (.slice Ap_0 p_0.length cp_0) (pu_move rfl) ?_
 obtain ⟨y5, h6, hb⟩ := bd hb
 refine lex.cl (⟨_, _, op_call (vs := [.slice Ap_0 p_0.length cp_0]) Try.call19 rfl rfl rfl, perm_Valid_ok n hC.lt (hC.rd (i := 0) rfl) h6⟩) ?_
 rintro _ w7 ⟨rfl, hK⟩
 replace hC := hC.merge hK
 clear hK
 refine lp (.bool (!y5)) (pu_not (q := y5) rfl) ?_
 refine ln ?_
 refine hK4 _ _ ?_
 refine Wc.cond (t := (!y5)) (rfl) (fun hq8 => ?_) (fun hq8 => ?_)
 replace hb := tt hq8 hb
 refine Wc.seq fun K9 hK9 => ?_
 refine rg ?_
 refine lp (.slice none 0 0) (pu_assign rfl) ?_
 refine ln ?_
 refine hK9 _ _ ?_
 replace hC := hC.nil 28 (.sl (.int .i64))
 obtain rfl := os hb
 refine Wc.ret ?_
 refine hKR _ _ ?_
 refine ⟨_, res1 Try.results24 (show RV _ _ _ (.tmp _) (.slice none 0 0) from rfl), _, rfl, none, 0, 0, rfl, hC.sel [0] (by decide)⟩
 replace hb := tf hq8 hb
 refine Wc.skip ?_
 refine hK3 _ _ ?_
 refine Wc.seq fun K11 hK11 => ?_
 refine rg ?_
 refine lp (.slice none 0 0) (pu_assign rfl) ?_
 refine ln ?_
 refine hK11 _ _ ?_
 refine Wc.seq fun K12 hK12 => ?_
 refine rg ?_
 refine lp (.slice Ap_0 p_0.length cp_0) (pu_move rfl) ?_
 refine lp (.int .i64 (p_0.length : Int)) (pu_len (A := Ap_0) (n := p_0.length) (m := cp_0) Try.underlying29 rfl) ?_
 obtain ⟨u13, h14, hb⟩ := bd hb
 refine lex.op (hC.make (s := .bool) (n := (p_0.length : Int)) Try.underlying63 Try.type4 rfl rfl rfl rfl rfl (pos_some h14).1 (pos_some h14).2 (by decide)) ?_
 rintro _ w19 ⟨A15, c16, rfl, hl17, hc18, hC, hF, hN⟩
 clear hF hN
 refine lp (.slice A15 (((List.replicate (p_0.length : Int).toNat false)).length) c16) (pu_assign rfl) ?_
 refine ln ?_
 refine hK12 _ _ ?_
 refine Wc.seq fun K21 hK21 => ?_
 refine Wc.seq fun K22 hK22 => ?_
 refine rg ?_
 refine lp (.slice Ap_0 p_0.length cp_0) (pu_move rfl) ?_
 refine lp (.int .i64 (p_0.length : Int)) (pu_len (A := Ap_0) (n := p_0.length) (m := cp_0) Try.underlying29 rfl) ?_
 refine lp (.int .i64 0) (pu_move rfl) ?_
 refine ln ?_
 refine hK22 _ _ ?_
 refine Wc.fresh fun E23 hE => ?_
 have e0 : E23 0 = .slice Ap_0 p_0.length cp_0 := (congrFun hE 0).trans rfl
 have e2 : E23 2 = .slice none 0 0 := (congrFun hE 2).trans rfl
 have e3 : E23 3 = .slice none 0 0 := (congrFun hE 3).trans rfl
 have e4 : E23 4 = .slice A15 (((List.replicate (p_0.length : Int).toNat false)).length) c16 := (congrFun hE 4).trans rfl
 have e15 : E23 15 = .int .i64 (p_0.length : Int) := (congrFun hE 15).trans rfl
 have e16 : E23 16 = .int .i64 0 := (congrFun hE 16).trans rfl
 clear hE
 replace hC := hC.nil 28 (.sl (.int .i64))
 obtain ⟨o25, hl0, hb⟩ := bd hb
 refine Wc.cut (fun E wv => ∃ (l3_0 : List (List Int)) (v16_0 : Int) (qf20_0 : List Bool) (Al3_0 : Option Addr) (ml3_0 cl3_0 : Nat), E 2 = .slice none 0 0 ∧ E 3 = .slice Al3_0 ml3_0 cl3_0 ∧ I64 v16_0 ∧ Cx (fun _ => False) O0 w wv [.own 28 (.sl (.int .i64)) (.slice Al3_0 ml3_0 cl3_0) l3_0] ∧ (some l3_0 : Option ((List (List Int)))) = some r) (fun K26 hK26 => ?_) ?_
 refine Wc.block ?_
 refine Wc.loop (fun m E wv => ∃ (l3_0 : List (List Int)) (v16_0 : Int) (qf20_0 : List Bool) (Al3_0 : Option Addr) (ml3_0 cl3_0 : Nat), E 0 = .slice Ap_0 p_0.length cp_0 ∧ E 2 = .slice none 0 0 ∧ E 3 = .slice Al3_0 ml3_0 cl3_0 ∧ E 4 = .slice A15 (((List.replicate (p_0.length : Int).toNat false)).length) c16 ∧ E 15 = .int .i64 (p_0.length : Int) ∧ E 16 = .int .i64 v16_0 ∧ I64 v16_0 ∧ Cx (fun _ => False) O0 w wv [.ro (.sl (.int .i64)) [.slice Ap_0 p_0.length cp_0] p_0, .own 28 (.sl (.int .i64)) (.slice Al3_0 ml3_0 cl3_0) l3_0, .own 4 .bool (.slice A15 (((List.replicate (p_0.length : Int).toNat false)).length) c16) qf20_0] ∧ loopN m (F.perm_Cycles_b0 n p_0) (l3_0, v16_0, qf20_0) = some o25) n ⟨([] : List (List Int)), 0, (List.replicate (p_0.length : Int).toNat false), none, 0, 0, e0, e2, e3, e4, e15, e16, (show I64 0 from by unfold I64; omega), hC.sel [2, 0, 1] (by decide), hl0⟩ ?_
 have hbK0 := hb
 clear hb hC hl0
 rintro m28 E30 w29 ⟨l3_0, v16_0, qf20_0, Al3_0, ml3_0, cl3_0, e0, e2, e3, e4, e15, e16, hrv16_0, hC, hl0⟩ K27 hK27
 obtain ⟨m28', o31, rfl, hb, hl0⟩ := loopN_some hl0
 unfold F.perm_Cycles_b0 at hb
 obtain ⟨rfl, hll3_0, hcl3_0⟩ := (hC.ow (i := 1) rfl).sl_len
 refine Wc.seq fun K32 hK32 => ?_
 refine rg ?_
 refine lp (.bool (decide (v16_0 < (p_0.length : Int)))) (pu_lss (k := .i64) (a := v16_0) (b := (p_0.length : Int)) e16 e15) ?_
 refine ln ?_
 refine hK32 _ _ ?_
 refine Wc.seq fun K33 hK33 => ?_
 refine Wc.cond (t := (decide (v16_0 < (p_0.length : Int)))) (rfl) (fun hq34 => ?_) (fun hq34 => ?_)
 replace hb := tt hq34 hb
 refine Wc.skip ?_
 refine hK33 _ _ ?_
 refine Wc.seq fun K35 hK35 => ?_
 refine Wc.block ?_
 refine Wc.seq fun K36 hK36 => ?_
 refine rg ?_
 refine lp (.int .i64 v16_0) (pu_move e16) ?_
 refine lp (.int .i64 v16_0) (pu_assign rfl) ?_
 refine ln ?_
 refine hK36 _ _ ?_
 refine Wc.seq fun K37 hK37 => ?_
 refine rg ?_
 refine lp (.slice none 0 0) (pu_assign rfl) ?_
 refine ln ?_
 refine hK37 _ _ ?_
 refine Wc.seq fun K38 hK38 => ?_
 refine Wc.seq fun K39 hK39 => ?_
 refine rg ?_
 refine lp (.int .i64 v16_0) (pu_move rfl) ?_
 refine lp (.int .i64 v16_0) (pu_assign rfl) ?_
 refine ln ?_
 refine hK39 _ _ ?_
 replace hC := hC.nil 3 (.int .i64)
 obtain ⟨o41, hl1, hb⟩ := bd hb
 refine Wc.cut (fun E wv => ∃ (l6_1 : List Int) (v7_1 : Int) (qf20_1 : List Bool) (Al6_1 : Option Addr) (ml6_1 cl6_1 : Nat), E 0 = .slice Ap_0 p_0.length cp_0 ∧ E 2 = .slice none 0 0 ∧ E 3 = .slice Al3_0 l3_0.length cl3_0 ∧ E 4 = .slice A15 (((List.replicate (p_0.length : Int).toNat false)).length) c16 ∧ E 5 = .int .i64 v16_0 ∧ E 6 = .slice Al6_1 ml6_1 cl6_1 ∧ E 7 = .int .i64 v7_1 ∧ E 15 = .int .i64 (p_0.length : Int) ∧ E 16 = .int .i64 v16_0 ∧ E 17 = .bool (decide (v16_0 < (p_0.length : Int))) ∧ I64 v7_1 ∧ Cx (fun _ => False) O0 w wv [.ro (.sl (.int .i64)) [.slice Ap_0 p_0.length cp_0] p_0, .own 28 (.sl (.int .i64)) (.slice Al3_0 l3_0.length cl3_0) l3_0, .own 4 .bool (.slice A15 (((List.replicate (p_0.length : Int).toNat false)).length) c16) qf20_1, .own 3 (.int .i64) (.slice Al6_1 ml6_1 cl6_1) l6_1] ∧ (cond (decide (0 < (l6_1.length : Int))) ((lim (l3_0.length + ([l6_1] : List (List Int)).length)).bind fun u96 => (chk (v16_0 + 1)).bind fun z103 => some (.inl ((l3_0 ++ ([l6_1] : List (List Int))), z103, qf20_1))) ((chk (v16_0 + 1)).bind fun z105 => some (.inl (l3_0, z105, qf20_1))) : Option (((List (List Int)) × Int × (List Bool)) ⊕ (((List (List Int)) × Int × (List Bool))))) = some o31) (fun K42 hK42 => ?_) ?_
 refine Wc.block ?_
 refine Wc.loop (fun m E wv => ∃ (l6_1 : List Int) (v7_1 : Int) (qf20_1 : List Bool) (Al6_1 : Option Addr) (ml6_1 cl6_1 : Nat), E 0 = .slice Ap_0 p_0.length cp_0 ∧ E 2 = .slice none 0 0 ∧ E 3 = .slice Al3_0 l3_0.length cl3_0 ∧ E 4 = .slice A15 (((List.replicate (p_0.length : Int).toNat false)).length) c16 ∧ E 5 = .int .i64 v16_0 ∧ E 6 = .slice Al6_1 ml6_1 cl6_1 ∧ E 7 = .int .i64 v7_1 ∧ E 15 = .int .i64 (p_0.length : Int) ∧ E 16 = .int .i64 v16_0 ∧ E 17 = .bool (decide (v16_0 < (p_0.length : Int))) ∧ I64 v7_1 ∧ Cx (fun _ => False) O0 w wv [.ro (.sl (.int .i64)) [.slice Ap_0 p_0.length cp_0] p_0, .own 28 (.sl (.int .i64)) (.slice Al3_0 l3_0.length cl3_0) l3_0, .own 4 .bool (.slice A15 (((List.replicate (p_0.length : Int).toNat false)).length) c16) qf20_1, .own 3 (.int .i64) (.slice Al6_1 ml6_1 cl6_1) l6_1] ∧ loopN m (F.perm_Cycles_b1 n p_0) (l6_1, v7_1, qf20_1) = some o41) n ⟨([] : List Int), v16_0, qf20_0, none, 0, 0, e0, e2, e3, e4, rfl, rfl, rfl, e15, e16, rfl, hrv16_0, hC.sel [1, 2, 3, 0] (by decide), hl1⟩ ?_
 have hbK1 := hb
 clear hb hC hl1
 rintro m44 E46 w45 ⟨l6_1, v7_1, qf20_1, Al6_1, ml6_1, cl6_1, e0, e2, e3, e4, e5, e6, e7, e15, e16, e17, hrv7_1, hC, hl1⟩ K43 hK43
 obtain ⟨m44', o47, rfl, hb, hl1⟩ := loopN_some hl1
 unfold F.perm_Cycles_b1 at hb
 obtain ⟨rfl, hll6_1, hcl6_1⟩ := (hC.ow (i := 3) rfl).sl_len
 refine Wc.seq fun K48 hK48 => ?_
 refine Wc.seq fun K49 hK49 => ?_
 refine rg ?_
 refine lp (.slice A15 (((List.replicate (p_0.length : Int).toNat false)).length) c16) (pu_move e4) ?_
 refine lp (.int .i64 v7_1) (pu_move e7) ?_
 obtain ⟨x50, h51, hb⟩ := bd hb
 obtain ⟨ad52, cs53, hA, hc54, hr55⟩ := hC.elo (i := 2) rfl (get_some h51).2
 subst hA
 refine lp (.pointer (some (ad52.add (v7_1.toNat * 1)))) (pu_index (a := v7_1) Try.underlying63 Try.sizeOf4 rfl rfl (by rw [(hC.ow (i := 2) rfl).sl_len.1]; exact (get_some h51).1)) ?_
 obtain rfl := (show _ = _ from hr55)
 refine lv (.bool x50) (ld_one Try.isAgg4 rfl (hc54 0 _ rfl)) ?_
 refine lp (.bool (!x50)) (pu_not (q := x50) rfl) ?_
 refine ln ?_
 refine hK49 _ _ ?_
 refine Wc.cond (t := (!x50)) (rfl) (fun hq56 => ?_) (fun hq56 => ?_)
 replace hb := tt hq56 hb
 refine Wc.skip ?_
 refine hK48 _ _ ?_
 refine Wc.seq fun K57 hK57 => ?_
 refine Wc.block ?_
 refine Wc.seq fun K58 hK58 => ?_
 refine rg ?_
 refine lp (.slice (some ad52) (((List.replicate (p_0.length : Int).toNat false)).length) c16) (pu_move e4) ?_
 refine lp (.int .i64 v7_1) (pu_move e7) ?_
 obtain ⟨x59, h60, hb⟩ := bd hb
 obtain ⟨ad61, cs62, hA, hc63, hr64⟩ := hC.elo (i := 2) rfl (get_some h60).2
 obtain rfl := Option.some.inj hA
 refine lp (.pointer (some (ad52.add (v7_1.toNat * 1)))) (pu_index (a := v7_1) Try.underlying63 Try.sizeOf4 rfl rfl (by rw [(hC.ow (i := 2) rfl).sl_len.1]; exact (get_some h60).1)) ?_
 refine lex.sk (hC.put (i := 2) rfl rfl Try.sizeOf4 (k := v7_1.toNat) (a := true) (by have := (get_some h60).1; simp at this ⊢; omega) (show Rep _ _ .bool _ _ from rfl) rfl rfl rfl) ?_
 rintro w65 ⟨hC, hF⟩
 refine ln ?_
 refine hK58 _ _ ?_
 refine rg ?_
 refine lp (.slice Al6_1 l6_1.length cl6_1) (pu_move e6) ?_
 refine lp (.int .i64 v7_1) (pu_move e7) ?_
 refine lex.op (hC.lit (s := (.int .i64)) (vs := [.int .i64 v7_1]) (xs := [v7_1]) Try.underlying28 Try.type3 rfl rfl (Nat.le_of_ble_eq_true rfl) rfl rfl (by simp [Value.cells, Sh.n]) rfl (show Elems _ _ (.int .i64) ([.int .i64 v7_1] ++ ([])) ([v7_1] : List Int) from Elems.cons (⟨rfl, I64.wr hrv7_1⟩) (Elems.nil _ _ _))) ?_
 rintro _ w70 ⟨A66, c67, rfl, hl68, hc69, hC, hF, hN⟩
 clear hF hN
 obtain ⟨u72, h73, hb⟩ := bd hb
 refine lex.op (hC.app (i := 4) (s := (.int .i64)) (xs := l6_1) (ys := ([v7_1] : List Int)) (m := ((([v7_1] : List Int)).length)) rfl Try.underlying28 Try.underlying28 Try.type3 rfl rfl rfl (hC.srco (i := 0) rfl) rfl rfl (by have := lim_some h73; simp at this ⊢ <;> omega) (by decide)) ?_
 rintro _ w78 ⟨A74, c75, rfl, hl76, hc77, hC, hF, hN⟩
 clear hF hN
 refine lp (.slice A74 ((l6_1 ++ ([v7_1] : List Int)).length) c75) (pu_assign rfl) ?_
 refine ln ?_
 refine hK57 _ _ ?_
 refine Wc.fresh fun E79 hE => ?_
 have e0 := (congrFun hE 0).trans e0
 have e2 := (congrFun hE 2).trans e2
 have e3 := (congrFun hE 3).trans e3
 have e4 := (congrFun hE 4).trans e4
 have e5 := (congrFun hE 5).trans e5
 have e6 : E79 6 = .slice A74 ((l6_1 ++ ([v7_1] : List Int)).length) c75 := (congrFun hE 6).trans rfl
 have e7 := (congrFun hE 7).trans e7
 have e15 := (congrFun hE 15).trans e15
 have e16 := (congrFun hE 16).trans e16
 have e17 := (congrFun hE 17).trans e17
 have e24 : E79 24 = .bool (!x50) := (congrFun hE 24).trans rfl
 clear hE
 refine rg ?_
 refine lp (.slice Ap_0 p_0.length cp_0) (pu_move e0) ?_
 refine lp (.int .i64 v7_1) (pu_move e7) ?_
 obtain ⟨x80, h81, hb⟩ := bd hb
 obtain ⟨ad82, cs83, hA, hc84, hr85⟩ := hC.elr (i := 1) rfl (get_some h81).2
 subst hA
 refine lp (.pointer (some (ad82.add (v7_1.toNat * 1)))) (pu_index (a := v7_1) Try.underlying29 Try.sizeOf3 rfl rfl (get_some h81).1) ?_
 obtain ⟨rfl, hr85'⟩ := hr85
 refine lv (.int .i64 x80) (ld_one Try.isAgg3 rfl (hc84 0 _ rfl)) ?_
 refine lp (.int .i64 x80) (pu_assign rfl) ?_
 refine ln ?_
 obtain rfl := os hb
 exact hK43 m44' _ _ (Nat.lt_succ_self _) ⟨(l6_1 ++ ([v7_1] : List Int)), x80, (qf20_1.set v7_1.toNat true), A74, (l6_1 ++ ([v7_1] : List Int)).length, c75, e0, e2, e3, e4, e5, e6, rfl, e15, e16, e17, (wrap_I64 hr85'), hC.sel [1, 2, 3, 4] (by decide), lN hl1⟩
 replace hb := tf hq56 hb
 refine Wc.exit rfl ?_
 obtain rfl := os hb
 obtain rfl := (lX hl1).symm
 exact hK42 _ _ ⟨l6_1, v7_1, qf20_1, Al6_1, l6_1.length, cl6_1, e0, e2, e3, e4, e5, e6, e7, e15, e16, e17, hrv7_1, hC.sel [0, 1, 2, 3] (by decide), hbK1⟩
 clear hb hC hl1
 rintro E87 w86 ⟨l6_1, v7_1, qf20_1, Al6_1, ml6_1, cl6_1, e0, e2, e3, e4, e5, e6, e7, e15, e16, e17, hrv7_1, hC, hb⟩
 obtain ⟨rfl, hll6_1, hcl6_1⟩ := (hC.ow (i := 3) rfl).sl_len
 refine hK38 _ _ ?_
 refine Wc.seq fun K88 hK88 => ?_
 refine rg ?_
 refine lp (.slice Al6_1 l6_1.length cl6_1) (pu_move e6) ?_
 refine lp (.int .i64 (l6_1.length : Int)) (pu_len (A := Al6_1) (n := l6_1.length) (m := cl6_1) Try.underlying28 rfl) ?_
 refine lp (.bool (decide (0 < (l6_1.length : Int)))) (pu_gtr (k := .i64) (a := (l6_1.length : Int)) (b := 0) rfl rfl) ?_
 refine ln ?_
 refine hK88 _ _ ?_
 refine Wc.cond (t := (decide (0 < (l6_1.length : Int)))) (rfl) (fun hq89 => ?_) (fun hq89 => ?_)
 replace hb := tt hq89 hb
 refine rg ?_
 refine lp (.slice Al3_0 l3_0.length cl3_0) (pu_move e3) ?_
 refine lp (.slice Al6_1 l6_1.length cl6_1) (pu_move e6) ?_
 replace hC := hC.freeze (i := 3) rfl (hC.own_new (i := 3) rfl)
 refine lex.op (hC.lit (s := (.sl (.int .i64))) (vs := [.slice Al6_1 l6_1.length cl6_1]) (xs := [l6_1]) Try.underlying23 Try.type28 rfl rfl (Nat.le_of_ble_eq_true rfl) rfl rfl (by simp [Value.cells, Sh.n]) rfl (show Elems _ _ (.sl (.int .i64)) ([.slice Al6_1 l6_1.length cl6_1] ++ ([])) ([l6_1] : List (List Int)) from Elems.cons (hC.rd (i := 3) rfl) (Elems.nil _ _ _))) ?_
 rintro _ w94 ⟨A90, c91, rfl, hl92, hc93, hC, hF, hN⟩
 clear hF hN
 obtain ⟨u96, h97, hb⟩ := bd hb
 refine lex.op (hC.app (i := 2) (s := (.sl (.int .i64))) (xs := l3_0) (ys := ([l6_1] : List (List Int))) (m := ((([l6_1] : List (List Int))).length)) rfl Try.underlying23 Try.underlying23 Try.type28 rfl rfl rfl (hC.srco (i := 0) rfl) rfl rfl (by have := lim_some h97; simp at this ⊢ <;> omega) (by decide)) ?_
 rintro _ w102 ⟨A98, c99, rfl, hl100, hc101, hC, hF, hN⟩
 clear hF hN
 refine lp (.slice A98 ((l3_0 ++ ([l6_1] : List (List Int))).length) c99) (pu_assign rfl) ?_
 refine ln ?_
 refine hK35 _ _ ?_
 refine rg ?_
 obtain ⟨z103, h104, hb⟩ := bd hb
 refine lp (.int .i64 z103) (pu_addc (a := v16_0) (b := 1) e16 rfl h104) ?_
 refine lp (.int .i64 z103) (pu_move rfl) ?_
 refine ln ?_
 obtain rfl := os hb
 exact hK27 m28' _ _ (Nat.lt_succ_self _) ⟨(l3_0 ++ ([l6_1] : List (List Int))), z103, qf20_1, A98, (l3_0 ++ ([l6_1] : List (List Int))).length, c99, e0, e2, rfl, e4, e15, rfl, (chk_rng h104), hC.sel [1, 2, 3] (by decide), lN hl0⟩
 replace hb := tf hq89 hb
 refine Wc.skip ?_
 refine hK35 _ _ ?_
 refine rg ?_
 obtain ⟨z105, h106, hb⟩ := bd hb
 refine lp (.int .i64 z105) (pu_addc (a := v16_0) (b := 1) e16 rfl h106) ?_
 refine lp (.int .i64 z105) (pu_move rfl) ?_
 refine ln ?_
 obtain rfl := os hb
 exact hK27 m28' _ _ (Nat.lt_succ_self _) ⟨l3_0, z105, qf20_1, Al3_0, l3_0.length, cl3_0, e0, e2, e3, e4, e15, rfl, (chk_rng h106), hC.sel [0, 1, 2] (by decide), lN hl0⟩
 replace hb := tf hq34 hb
 refine Wc.exit rfl ?_
 obtain rfl := os hb
 obtain rfl := (lX hl0).symm
 exact hK26 _ _ ⟨l3_0, v16_0, qf20_0, Al3_0, l3_0.length, cl3_0, e2, e3, hrv16_0, hC.sel [1] (by decide), hbK0⟩
 clear hb hC hl0
 rintro E108 w107 ⟨l3_0, v16_0, qf20_0, Al3_0, ml3_0, cl3_0, e2, e3, hrv16_0, hC, hb⟩
 obtain ⟨rfl, hll3_0, hcl3_0⟩ := (hC.ow (i := 0) rfl).sl_len
 refine hK21 _ _ ?_
 refine Wc.seq fun K109 hK109 => ?_
 refine rg ?_
 refine lp (.slice Al3_0 l3_0.length cl3_0) (pu_move e3) ?_
 refine lp (.slice Al3_0 l3_0.length cl3_0) (pu_assign rfl) ?_
 refine ln ?_
 refine hK109 _ _ ?_
 obtain rfl := os hb
 refine Wc.ret ?_
 refine hKR _ _ ?_
 refine ⟨_, res1 Try.results24 (show RV _ _ _ (.tmp _) (.slice Al3_0 l3_0.length cl3_0) from rfl), _, rfl, Al3_0, l3_0.length, cl3_0, rfl, hC.sel [0] (by decide)⟩

set_option maxRecDepth 100000 in
set_option maxHeartbeats 4000000 in
theorem perm_Type_c1_ok (n : Nat) {w : World} {O0 : List Nat} (hO : ∀ k ∈ O0, k < w.heap.size) {Aa_0 : Option Addr} {ma_0 ca_0 : Nat} {a_0 : List Int} (ha_0 : Rep O0 w (.sl (.int .i64)) [.slice Aa_0 ma_0 ca_0] a_0) {Ab_1 : Option Addr} {mb_1 cb_1 : Nat} {b_1 : List Int} (hb_1 : Rep O0 w (.sl (.int .i64)) [.slice Ab_1 mb_1 cb_1] b_1) {r : Int} (hb : F.perm_Type_c1 n a_0 b_1 = some r) :
    Calls Try.prog 46 #[.slice Aa_0 ma_0 ca_0, .slice Ab_1 mb_1 cb_1] w fun e w' => ∃ v, e = .returned v ∧ v = .int .i64 r ∧ I64 r ∧ Cx (fun _ => False) O0 w w' [] := by
 unfold F.perm_Type_c1 at hb
 have hC := Cx.start hO
 replace hC := hC.arg rfl ha_0
 replace hC := hC.arg rfl hb_1
 clear hO
 obtain ⟨rfl, hla_0, hca_0⟩ := ha_0.sl_len
 obtain ⟨rfl, hlb_1, hcb_1⟩ := hb_1.sl_len
 refine calls_of_Wc Try.func46 rfl (by rw [Try.ntmps46]; exact Nat.le_of_ble_eq_true rfl) fun KR hKR => ?_
 refine Wc.seq fun K3 hK3 => ?_
 refine rg ?_
 refine lp (.int .i64 0) (pu_assign rfl) ?_
 refine ln ?_
 refine hK3 _ _ ?_
 refine Wc.seq fun K4 hK4 => ?_
 refine rg ?_
 refine lp (.slice Ab_1 b_1.length cb_1) (pu_move rfl) ?_
 refine lp (.int .i64 (b_1.length : Int)) (pu_len (A := Ab_1) (n := b_1.length) (m := cb_1) Try.underlying28 rfl) ?_
 refine lp (.slice Aa_0 a_0.length ca_0) (pu_move rfl) ?_
 refine lp (.int .i64 (a_0.length : Int)) (pu_len (A := Aa_0) (n := a_0.length) (m := ca_0) Try.underlying28 rfl) ?_
 obtain ⟨z5, h6, hb⟩ := bd hb
 refine lp (.int .i64 z5) (pu_subc (a := (b_1.length : Int)) (b := (a_0.length : Int)) rfl rfl h6) ?_
 refine lp (.int .i64 z5) (pu_assign rfl) ?_
 refine ln ?_
 refine hK4 _ _ ?_
 obtain rfl := os hb
 refine Wc.ret ?_
 refine hKR _ _ ?_
 refine ⟨_, res1 Try.results46 (show RV _ _ _ (.tmp _) (.int .i64 z5) from rfl), _, rfl, rfl, (chk_rng h6), hC.sel [] (by decide)⟩

def slices_SortFunc_LLint_Lint_perm_Type_c1Ren : Go.Shelf.Ren := ⟨fun x => match x with | 6 => 45 | 14 => 53 | 15 => 54 | 20 => 55 | 21 => 56 | 22 => 57 | 23 => 58 | 24 => 59 | 25 => 60 | 26 => 61 | 27 => 62 | 28 => 63 | 29 => 64 | 46 => 65 | 47 => 66 | 48 => 67 | 49 => 68 | 50 => 69 | 57 => 70 | _ => 0, fun x => match x with | 0 => 0 | 3 => 3 | 4 => 4 | 5 => 5 | 9 => 9 | 22 => 23 | 24 => 28 | 25 => 65 | 39 => 73 | 45 => 77 | 46 => 78 | 50 => 68 | 53 => 84 | 55 => 86 | 66 => 87 | 70 => 91 | 76 => 93 | 77 => 94 | _ => 0, fun _ => 0⟩
theorem slices_SortFunc_LLint_Lint_perm_Type_c1Lays : Go.Proofs.SlLaysF.n6 Try.prog slices_SortFunc_LLint_Lint_perm_Type_c1Ren where
  mixed := mixed
  f6 := ⟨"slices.SortFunc[[][]int,[]int]", by decide, by kernel_rfl⟩
  f14 := ⟨"slices.pdqsortCmpFunc[[]int]", by decide, by kernel_rfl⟩
  f15 := by kernel_rfl
  f20 := ⟨"slices.insertionSortCmpFunc[[]int]", by decide, by kernel_rfl⟩
  f21 := ⟨"slices.heapSortCmpFunc[[]int]", by decide, by kernel_rfl⟩
  f22 := ⟨"slices.breakPatternsCmpFunc[[]int]", by decide, by kernel_rfl⟩
  f23 := ⟨"slices.choosePivotCmpFunc[[]int]", by decide, by kernel_rfl⟩
  f24 := ⟨"slices.reverseRangeCmpFunc[[]int]", by decide, by kernel_rfl⟩
  f25 := ⟨"slices.partialInsertionSortCmpFunc[[]int]", by decide, by kernel_rfl⟩
  f26 := ⟨"slices.partitionEqualCmpFunc[[]int]", by decide, by kernel_rfl⟩
  f27 := ⟨"slices.partitionCmpFunc[[]int]", by decide, by kernel_rfl⟩
  f28 := by kernel_rfl
  f29 := by kernel_rfl
  f46 := ⟨"slices.siftDownCmpFunc[[]int]", by decide, by kernel_rfl⟩
  f47 := by kernel_rfl
  f48 := by kernel_rfl
  f49 := ⟨"slices.medianAdjacentCmpFunc[[]int]", by decide, by kernel_rfl⟩
  f50 := ⟨"slices.medianCmpFunc[[]int]", by decide, by kernel_rfl⟩
  f57 := ⟨"slices.order2CmpFunc[[]int]", by decide, by kernel_rfl⟩
  t0 := Try.underlying0
  a0 := Try.isAgg0
  z0 := Try.sizeOf0
  v0 := Try.zeroValue0
  t3 := Try.underlying3
  a3 := Try.isAgg3
  z3 := Try.sizeOf3
  v3 := Try.zeroValue3
  t4 := Try.underlying4
  a4 := Try.isAgg4
  z4 := Try.sizeOf4
  v4 := Try.zeroValue4
  t5 := Try.underlying5
  a5 := Try.isAgg5
  z5 := Try.sizeOf5
  v5 := Try.zeroValue5
  t9 := Try.underlying9
  a9 := Try.isAgg9
  z9 := Try.sizeOf9
  v9 := Try.zeroValue9
  t22 := Try.underlying23
  a22 := Try.isAgg23
  z22 := Try.sizeOf23
  v22 := Try.zeroValue23
  a24 := Try.isAgg28
  z24 := Try.sizeOf28
  t25 := Try.underlying65
  a25 := Try.isAgg65
  z25 := Try.sizeOf65
  v25 := Try.zeroValue65
  t39 := Try.underlying73
  a39 := Try.isAgg73
  z39 := Try.sizeOf73
  v39 := Try.zeroValue73
  t45 := Try.underlying77
  a45 := Try.isAgg77
  z45 := Try.sizeOf77
  v45 := Try.zeroValue77
  t46 := Try.underlying78
  a46 := Try.isAgg78
  z46 := Try.sizeOf78
  v46 := Try.zeroValue78
  t50 := Try.underlying68
  a50 := Try.isAgg68
  z50 := Try.sizeOf68
  v50 := Try.zeroValue68
  t53 := Try.underlying84
  a53 := Try.isAgg84
  z53 := Try.sizeOf84
  v53 := Try.zeroValue84
  t55 := Try.underlying86
  a55 := Try.isAgg86
  z55 := Try.sizeOf86
  v55 := Try.zeroValue86
  t66 := Try.underlying87
  a66 := Try.isAgg87
  z66 := Try.sizeOf87
  v66 := Try.zeroValue87
  t70 := Try.underlying91
  a70 := Try.isAgg91
  z70 := Try.sizeOf91
  v70 := Try.zeroValue91
  t76 := Try.underlying93
  a76 := Try.isAgg93
  z76 := Try.sizeOf93
  v76 := Try.zeroValue93
  t77 := Try.underlying94
  a77 := Try.isAgg94
  z77 := Try.sizeOf94
  v77 := Try.zeroValue94
set_option maxRecDepth 100000 in
set_option maxHeartbeats 4000000 in
theorem slices_SortFunc_LLint_Lint_perm_Type_c1_ok (n : Nat) {w : World} {O0 : List Nat} (hO : ∀ k ∈ O0, k < w.heap.size) {A0 : Option Addr} {m0 c0 : Nat} {s_0 : List (List Int)} (hio : Tk O0 w [.own 28 (.sl (.int .i64)) (.slice A0 m0 c0) s_0]) {r : List (List Int)} (hb : F.slices_SortFunc_LLint_Lint_perm_Type_c1 n s_0 = some r) :
    Calls Try.prog 45 #[.slice A0 m0 c0, .func (.func 46) #[] #[]] w fun e w' => ∃ v, e = .returned v ∧ v = .tuple #[] ∧ Cx (fun k => k ∈ blocks [.own 28 (.sl (.int .i64)) (.slice A0 m0 c0) s_0]) O0 w w' [.own 28 (.sl (.int .i64)) (.slice A0 m0 c0) r] := by
 have hC := Cx.startTk hO hio
 unfold F.slices_SortFunc_LLint_Lint_perm_Type_c1 at hb
 split at hb
 rename_i hh
 obtain rfl := os hb
 obtain ⟨ha, hs, hl⟩ := hh
 refine (Cx.sort1 slices_SortFunc_LLint_Lint_perm_Type_c1Lays hC rfl (i := 0) rfl (g := 46) (cb := #[]) Try.call46 (fun x y : (List Int) => (F.perm_Type_c1 n x y).getD 0) hs hl ?_).mono ?_
 intro W x y u v hx hy hf h1 h2
 obtain ⟨q, hq⟩ := Option.isSome_iff_exists.1 (List.all_eq_true.1 (List.all_eq_true.1 ha x hx) y hy)
 obtain ⟨A1, c1, h1e, h1r⟩ := h1
 obtain ⟨A2, c2, h2e, h2r⟩ := h2
 obtain rfl := (List.cons.inj h1e).1
 obtain rfl := (List.cons.inj h2e).1
 rw [Array.append_empty]
 refine (perm_Type_c1_ok n (fun k hk => Nat.lt_of_lt_of_le (hC.lt k hk) hf.size) ⟨A1, c1, rfl, h1r⟩ ⟨A2, c2, rfl, h2r⟩ hq).mono ?_
 rintro e W' ⟨v, rfl, rfl, hi, hK⟩
 exact ⟨by rw [hq]; rfl, hK.fr⟩
 rintro e w' ⟨v, rfl, rfl, hK, -⟩
 exact ⟨_, rfl, rfl, hK⟩
 cases hb

set_option maxRecDepth 100000 in
set_option maxHeartbeats 4000000 in
theorem perm_Type_ok (n : Nat) {w : World} {O0 : List Nat} (hO : ∀ k ∈ O0, k < w.heap.size) {Ap_0 : Option Addr} {mp_0 cp_0 : Nat} {p_0 : List Int} (hp_0 : Rep O0 w (.sl (.int .i64)) [.slice Ap_0 mp_0 cp_0] p_0) {r : (List Int)} (hb : F.perm_Type n p_0 = some r) :
    Calls Try.prog 25 #[.slice Ap_0 mp_0 cp_0] w fun e w' => ∃ v, e = .returned v ∧ ∃ (A0 : Option Addr) (m0 c0 : Nat), v = .slice A0 m0 c0 ∧ Cx (fun _ => False) O0 w w' [.own 3 (.int .i64) (.slice A0 m0 c0) r] := by
 unfold F.perm_Type at hb
 have hC := Cx.start hO
 replace hC := hC.arg rfl hp_0
 clear hO
 obtain ⟨rfl, hlp_0, hcp_0⟩ := hp_0.sl_len
 refine calls_of_Wc Try.func25 rfl (by rw [Try.ntmps25]; exact Nat.le_of_ble_eq_true rfl) fun KR hKR => ?_
 refine Wc.seq fun K2 hK2 => ?_
 refine rg ?_
 refine lp (.slice none 0 0) (pu_assign rfl) ?_
 refine ln ?_
 refine hK2 _ _ ?_
 refine Wc.seq fun K3 hK3 => ?_
 refine rg ?_
 refine lp (.slice Ap_0 p_0.length cp_0) (pu_move rfl) ?_
 obtain ⟨y4, h5, hb⟩ := bd hb
 refine lex.cl (⟨_, _, op_call (vs := [.slice Ap_0 p_0.length cp_0]) Try.call24 rfl rfl rfl, perm_Cycles_ok n hC.lt (hC.rd (i := 0) rfl) h5⟩) ?_
 rintro _ w10 ⟨A6, m7, c8, rfl, hK⟩
 replace hC := hC.merge hK
 clear hK
 obtain ⟨rfl, hl11, hc12⟩ := (hC.ow (i := 0) rfl).sl_len
 refine lp (.slice A6 y4.length c8) (pu_assign rfl) ?_
 refine ln ?_
 refine hK3 _ _ ?_
 refine Wc.seq fun K13 hK13 => ?_
 refine rg ?_
 refine lp (.slice A6 y4.length c8) (pu_move rfl) ?_
 replace hC : Cx (fun _ => False) O0 w w10 ([.own 28 (.sl (.int .i64)) (.slice A6 y4.length c8) y4] ++ [.ro (.sl (.int .i64)) [.slice Ap_0 p_0.length cp_0] p_0]) := hC.sel [0, 1] (by decide)
 obtain ⟨y14, h15, hb⟩ := bd hb
 refine lex.cl (⟨_, _, op_call (vs := [.slice A6 y4.length c8, .func (.func 46) #[] #[]]) Try.call45 rfl rfl rfl, slices_SortFunc_LLint_Lint_perm_Type_c1_ok n hC.lt hC.give h15⟩) ?_
 rintro _ w16 ⟨rfl, hK⟩
 replace hC := hC.back hK
 clear hK
 refine ln ?_
 refine hK13 _ _ ?_
 refine Wc.seq fun K17 hK17 => ?_
 refine rg ?_
 refine lp (.slice none 0 0) (pu_assign rfl) ?_
 refine ln ?_
 refine hK17 _ _ ?_
 refine Wc.seq fun K18 hK18 => ?_
 refine Wc.seq fun K19 hK19 => ?_
 refine rg ?_
 refine lp (.slice A6 y4.length c8) (pu_move rfl) ?_
 refine lp (.int .i64 (y4.length : Int)) (pu_len (A := A6) (n := y4.length) (m := c8) Try.underlying23 rfl) ?_
 refine lp (.int .i64 0) (pu_move rfl) ?_
 refine ln ?_
 refine hK19 _ _ ?_
 refine Wc.fresh fun E20 hE => ?_
 have e2 : E20 2 = .slice none 0 0 := (congrFun hE 2).trans rfl
 have e4 : E20 4 = .slice none 0 0 := (congrFun hE 4).trans rfl
 have e11 : E20 11 = .slice A6 y4.length c8 := (congrFun hE 11).trans rfl
 have e12 : E20 12 = .int .i64 (y4.length : Int) := (congrFun hE 12).trans rfl
 have e13 : E20 13 = .int .i64 0 := (congrFun hE 13).trans rfl
 clear hE
 replace hC := hC.nil 3 (.int .i64)
 obtain ⟨o22, hl0, hb⟩ := bd hb
 refine Wc.cut (fun E wv => ∃ (l4_0 : List Int) (v13_0 : Int) (Al4_0 : Option Addr) (ml4_0 cl4_0 : Nat), E 2 = .slice none 0 0 ∧ E 4 = .slice Al4_0 ml4_0 cl4_0 ∧ I64 v13_0 ∧ Cx (fun _ => False) O0 w wv [.own 3 (.int .i64) (.slice Al4_0 ml4_0 cl4_0) l4_0] ∧ (some l4_0 : Option ((List Int))) = some r) (fun K23 hK23 => ?_) ?_
 refine Wc.block ?_
 refine Wc.loop (fun m E wv => ∃ (l4_0 : List Int) (v13_0 : Int) (Al4_0 : Option Addr) (ml4_0 cl4_0 : Nat), E 2 = .slice none 0 0 ∧ E 4 = .slice Al4_0 ml4_0 cl4_0 ∧ E 11 = .slice A6 y4.length c8 ∧ E 12 = .int .i64 (y4.length : Int) ∧ E 13 = .int .i64 v13_0 ∧ I64 v13_0 ∧ Cx (fun _ => False) O0 w wv [.own 3 (.int .i64) (.slice Al4_0 ml4_0 cl4_0) l4_0, .own 28 (.sl (.int .i64)) (.slice A6 y4.length c8) y14] ∧ loopN m (F.perm_Type_b0 n y4 y14) (l4_0, v13_0) = some o22) n ⟨([] : List Int), 0, none, 0, 0, e2, e4, e11, e12, e13, (show I64 0 from by unfold I64; omega), hC.sel [0, 1] (by decide), hl0⟩ ?_
 have hbK0 := hb
 clear hb hC hl0
 rintro m25 E27 w26 ⟨l4_0, v13_0, Al4_0, ml4_0, cl4_0, e2, e4, e11, e12, e13, hrv13_0, hC, hl0⟩ K24 hK24
 obtain ⟨m25', o28, rfl, hb, hl0⟩ := loopN_some hl0
 unfold F.perm_Type_b0 at hb
 obtain ⟨rfl, hll4_0, hcl4_0⟩ := (hC.ow (i := 0) rfl).sl_len
 refine Wc.seq fun K29 hK29 => ?_
 refine rg ?_
 refine lp (.bool (decide (v13_0 < (y4.length : Int)))) (pu_lss (k := .i64) (a := v13_0) (b := (y4.length : Int)) e13 e12) ?_
 refine ln ?_
 refine hK29 _ _ ?_
 refine Wc.seq fun K30 hK30 => ?_
 refine Wc.cond (t := (decide (v13_0 < (y4.length : Int)))) (rfl) (fun hq31 => ?_) (fun hq31 => ?_)
 replace hb := tt hq31 hb
 refine Wc.skip ?_
 refine hK30 _ _ ?_
 refine Wc.seq fun K32 hK32 => ?_
 refine Wc.block ?_
 refine Wc.seq fun K33 hK33 => ?_
 refine rg ?_
 obtain ⟨x34, h35, hb⟩ := bd hb
 obtain ⟨ad36, cs37, hA, hc38, hr39⟩ := hC.elo (i := 1) rfl (get_some h35).2
 subst hA
 refine lp (.pointer (some (ad36.add (v13_0.toNat * 1)))) (pu_index (a := v13_0) Try.underlying23 Try.sizeOf28 e11 e13 (by rw [(hC.ow (i := 1) rfl).sl_len.1]; exact (get_some h35).1)) ?_
 have hR := hr39
 obtain ⟨A40, c41, rfl, hl42, hc43, _⟩ := hr39
 replace hC := hC.ro hR
 clear hR
 refine lv (.slice A40 x34.length c41) (ld_one Try.isAgg28 rfl (hc38 0 _ rfl)) ?_
 refine lp (.slice A40 x34.length c41) (pu_assign rfl) ?_
 refine ln ?_
 refine hK33 _ _ ?_
 refine rg ?_
 refine lp (.slice Al4_0 l4_0.length cl4_0) (pu_move e4) ?_
 refine lp (.slice A40 x34.length c41) (pu_move rfl) ?_
 refine lp (.int .i64 (x34.length : Int)) (pu_len (A := A40) (n := x34.length) (m := c41) Try.underlying28 rfl) ?_
 refine lex.op (hC.lit (s := (.int .i64)) (vs := [.int .i64 (x34.length : Int)]) (xs := [(x34.length : Int)]) Try.underlying28 Try.type3 rfl rfl (Nat.le_of_ble_eq_true rfl) rfl rfl (by simp [Value.cells, Sh.n]) rfl (show Elems _ _ (.int .i64) ([.int .i64 (x34.length : Int)] ++ ([])) ([(x34.length : Int)] : List Int) from Elems.cons (⟨rfl, I64.wr (I64.len hl42 hc43)⟩) (Elems.nil _ _ _))) ?_
 rintro _ w49 ⟨A45, c46, rfl, hl47, hc48, hC, hF, hN⟩
 clear hF hN
 obtain ⟨u51, h52, hb⟩ := bd hb
 refine lex.op (hC.app (i := 2) (s := (.int .i64)) (xs := l4_0) (ys := ([(x34.length : Int)] : List Int)) (m := ((([(x34.length : Int)] : List Int)).length)) rfl Try.underlying28 Try.underlying28 Try.type3 rfl rfl rfl (hC.srco (i := 0) rfl) rfl rfl (by have := lim_some h52; simp at this ⊢ <;> omega) (by decide)) ?_
 rintro _ w57 ⟨A53, c54, rfl, hl55, hc56, hC, hF, hN⟩
 clear hF hN
 refine lp (.slice A53 ((l4_0 ++ ([(x34.length : Int)] : List Int)).length) c54) (pu_assign rfl) ?_
 refine ln ?_
 refine hK32 _ _ ?_
 refine rg ?_
 obtain ⟨z58, h59, hb⟩ := bd hb
 refine lp (.int .i64 z58) (pu_addc (a := v13_0) (b := 1) e13 rfl h59) ?_
 refine lp (.int .i64 z58) (pu_move rfl) ?_
 refine ln ?_
 obtain rfl := os hb
 exact hK24 m25' _ _ (Nat.lt_succ_self _) ⟨(l4_0 ++ ([(x34.length : Int)] : List Int)), z58, A53, (l4_0 ++ ([(x34.length : Int)] : List Int)).length, c54, e2, rfl, e11, e12, rfl, (chk_rng h59), hC.sel [2, 3] (by decide), lN hl0⟩
 replace hb := tf hq31 hb
 refine Wc.exit rfl ?_
 obtain rfl := os hb
 obtain rfl := (lX hl0).symm
 exact hK23 _ _ ⟨l4_0, v13_0, Al4_0, l4_0.length, cl4_0, e2, e4, hrv13_0, hC.sel [0] (by decide), hbK0⟩
 clear hb hC hl0
 rintro E61 w60 ⟨l4_0, v13_0, Al4_0, ml4_0, cl4_0, e2, e4, hrv13_0, hC, hb⟩
 obtain ⟨rfl, hll4_0, hcl4_0⟩ := (hC.ow (i := 0) rfl).sl_len
 refine hK18 _ _ ?_
 refine Wc.seq fun K62 hK62 => ?_
 refine rg ?_
 refine lp (.slice Al4_0 l4_0.length cl4_0) (pu_move e4) ?_
 refine lp (.slice Al4_0 l4_0.length cl4_0) (pu_assign rfl) ?_
 refine ln ?_
 refine hK62 _ _ ?_
 obtain rfl := os hb
 refine Wc.ret ?_
 refine hKR _ _ ?_
 refine ⟨_, res1 Try.results25 (show RV _ _ _ (.tmp _) (.slice Al4_0 l4_0.length cl4_0) from rfl), _, rfl, Al4_0, l4_0.length, cl4_0, rfl, hC.sel [0] (by decide)⟩

set_option maxRecDepth 100000 in
set_option maxHeartbeats 4000000 in
theorem slices_Equal_Lint_int_ok (n : Nat) {w : World} {O0 : List Nat} (hO : ∀ k ∈ O0, k < w.heap.size) {As1_0 : Option Addr} {ms1_0 cs1_0 : Nat} {s1_0 : List Int} (hs1_0 : Rep O0 w (.sl (.int .i64)) [.slice As1_0 ms1_0 cs1_0] s1_0) {As2_1 : Option Addr} {ms2_1 cs2_1 : Nat} {s2_1 : List Int} (hs2_1 : Rep O0 w (.sl (.int .i64)) [.slice As2_1 ms2_1 cs2_1] s2_1) {r : Bool} (hb : F.slices_Equal_Lint_int n s1_0 s2_1 = some r) :
    Calls Try.prog 29 #[.slice As1_0 ms1_0 cs1_0, .slice As2_1 ms2_1 cs2_1] w fun e w' => ∃ v, e = .returned v ∧ v = .bool r ∧ Cx (fun _ => False) O0 w w' [] := by
 unfold F.slices_Equal_Lint_int at hb
 have hC := Cx.start hO
 replace hC := hC.arg rfl hs1_0
 replace hC := hC.arg rfl hs2_1
 clear hO
 obtain ⟨rfl, hls1_0, hcs1_0⟩ := hs1_0.sl_len
 obtain ⟨rfl, hls2_1, hcs2_1⟩ := hs2_1.sl_len
 refine calls_of_Wc Try.func29 rfl (by rw [Try.ntmps29]; exact Nat.le_of_ble_eq_true rfl) fun KR hKR => ?_
 refine Wc.seq fun K3 hK3 => ?_
 refine rg ?_
 refine lp (.bool false) (pu_assign rfl) ?_
 refine ln ?_
 refine hK3 _ _ ?_
 refine Wc.seq fun K4 hK4 => ?_
 refine Wc.seq fun K5 hK5 => ?_
 refine rg ?_
 refine lp (.slice As1_0 s1_0.length cs1_0) (pu_move rfl) ?_
 refine lp (.int .i64 (s1_0.length : Int)) (pu_len (A := As1_0) (n := s1_0.length) (m := cs1_0) Try.underlying28 rfl) ?_
 refine lp (.slice As2_1 s2_1.length cs2_1) (pu_move rfl) ?_
 refine lp (.int .i64 (s2_1.length : Int)) (pu_len (A := As2_1) (n := s2_1.length) (m := cs2_1) Try.underlying28 rfl) ?_
 refine lp (.bool (!(decide ((s1_0.length : Int) = (s2_1.length : Int))))) (pu_neq (k := .i64) (a := (s1_0.length : Int)) (b := (s2_1.length : Int)) rfl rfl) ?_
 refine ln ?_
 refine hK5 _ _ ?_
 refine Wc.cond (t := (!(decide ((s1_0.length : Int) = (s2_1.length : Int))))) (rfl) (fun hq6 => ?_) (fun hq6 => ?_)
 replace hb := tt hq6 hb
 refine Wc.seq fun K7 hK7 => ?_
 refine rg ?_
 refine lp (.bool false) (pu_assign rfl) ?_
 refine ln ?_
 refine hK7 _ _ ?_
 obtain rfl := os hb
 refine Wc.ret ?_
 refine hKR _ _ ?_
 refine ⟨_, res1 Try.results29 (show RV _ _ _ (.tmp _) (.bool false) from rfl), _, rfl, rfl, hC.sel [] (by decide)⟩
 replace hb := tf hq6 hb
 refine Wc.skip ?_
 refine hK4 _ _ ?_
 refine Wc.seq fun K8 hK8 => ?_
 refine Wc.seq fun K9 hK9 => ?_
 refine rg ?_
 refine lp (.slice As1_0 s1_0.length cs1_0) (pu_move rfl) ?_
 refine lp (.int .i64 (s1_0.length : Int)) (pu_len (A := As1_0) (n := s1_0.length) (m := cs1_0) Try.underlying28 rfl) ?_
 refine lp (.int .i64 0) (pu_move rfl) ?_
 refine ln ?_
 refine hK9 _ _ ?_
 obtain ⟨o10, hl0, hb⟩ := bd hb
 refine Wc.cut (fun E wv => ∃ (v13_0 : Int), E 4 = .bool false ∧ I64 v13_0 ∧ Cx (fun _ => False) O0 w wv [] ∧ (some true : Option (Bool)) = some r) (fun K11 hK11 => ?_) ?_
 refine Wc.block ?_
 refine Wc.loop (fun m E wv => ∃ (v13_0 : Int), E 0 = .slice As1_0 s1_0.length cs1_0 ∧ E 1 = .slice As2_1 s2_1.length cs2_1 ∧ E 4 = .bool false ∧ E 12 = .int .i64 (s1_0.length : Int) ∧ E 13 = .int .i64 v13_0 ∧ I64 v13_0 ∧ Cx (fun _ => False) O0 w wv [.ro (.sl (.int .i64)) [.slice As1_0 s1_0.length cs1_0] s1_0, .ro (.sl (.int .i64)) [.slice As2_1 s2_1.length cs2_1] s2_1] ∧ loopN m (F.slices_Equal_Lint_int_b0 n s1_0 s2_1) v13_0 = some o10) n ⟨0, rfl, rfl, rfl, rfl, rfl, (show I64 0 from by unfold I64; omega), hC.sel [1, 0] (by decide), hl0⟩ ?_
 have hbK0 := hb
 clear hb hC hl0
 rintro m13 E15 w14 ⟨v13_0, e0, e1, e4, e12, e13, hrv13_0, hC, hl0⟩ K12 hK12
 obtain ⟨m13', o16, rfl, hb, hl0⟩ := loopN_some hl0
 unfold F.slices_Equal_Lint_int_b0 at hb
 refine Wc.seq fun K17 hK17 => ?_
 refine rg ?_
 refine lp (.bool (decide (v13_0 < (s1_0.length : Int)))) (pu_lss (k := .i64) (a := v13_0) (b := (s1_0.length : Int)) e13 e12) ?_
 refine ln ?_
 refine hK17 _ _ ?_
 refine Wc.seq fun K18 hK18 => ?_
 refine Wc.cond (t := (decide (v13_0 < (s1_0.length : Int)))) (rfl) (fun hq19 => ?_) (fun hq19 => ?_)
 replace hb := tt hq19 hb
 refine Wc.skip ?_
 refine hK18 _ _ ?_
 refine Wc.seq fun K20 hK20 => ?_
 refine Wc.block ?_
 refine Wc.seq fun K21 hK21 => ?_
 refine rg ?_
 refine lp (.int .i64 v13_0) (pu_move e13) ?_
 refine lp (.int .i64 v13_0) (pu_assign rfl) ?_
 refine ln ?_
 refine hK21 _ _ ?_
 refine Wc.seq fun K22 hK22 => ?_
 refine Wc.regionMix [] (frm [] ([] : List Fact) ([] : List Fact)) (fun _ => rfl) mixed (by decide +kernel) (by decide +kernel) fun w24 hw23 => ?_
 replace hC := hC.step (Fr.of_drew hw23)
 have hM := Fr.refl (fun k => k ∈ blocks ([] : List Fact)) w24
 clear hw23
 have hS := hC
 refine mp (.slice As1_0 s1_0.length cs1_0) (pu_move e0) ?_
 refine mp (.int .i64 v13_0) (pu_move rfl) ?_
 obtain ⟨x25, h26, hb⟩ := bd hb
 obtain ⟨ad27, cs28, hA, ho31, hc29, hr30⟩ := hS.elr2 (i := 0) rfl (get_some h26).2 []
 subst hA
 refine mp (.pointer (some (ad27.add (v13_0.toNat * 1)))) (pu_index (a := v13_0) Try.underlying28 Try.sizeOf3 rfl rfl (get_some h26).1) ?_
 obtain ⟨rfl, hr30'⟩ := hr30
 refine mixE.load hM (v := .int .i64 x25) (fun _ hF => ld_one Try.isAgg3 rfl (hF.cell (hc29 0 _ rfl) (off1 ho31))) ?_
 refine mp (.slice As2_1 s2_1.length cs2_1) (pu_move e1) ?_
 refine mp (.int .i64 v13_0) (pu_move rfl) ?_
 obtain ⟨x32, h33, hb⟩ := bd hb
 obtain ⟨ad34, cs35, hA, ho38, hc36, hr37⟩ := hS.elr2 (i := 1) rfl (get_some h33).2 []
 subst hA
 refine mp (.pointer (some (ad34.add (v13_0.toNat * 1)))) (pu_index (a := v13_0) Try.underlying28 Try.sizeOf3 rfl rfl (get_some h33).1) ?_
 obtain ⟨rfl, hr37'⟩ := hr37
 refine mixE.load hM (v := .int .i64 x32) (fun _ hF => ld_one Try.isAgg3 rfl (hF.cell (hc36 0 _ rfl) (off1 ho38))) ?_
 refine mp (.bool (!(decide (x25 = x32)))) (pu_neq (k := .i64) (a := x25) (b := x32) rfl rfl) ?_
 refine mixE.nil ?_
 clear hS hM
 refine hK22 _ _ ?_
 refine Wc.cond (t := (!(decide (x25 = x32)))) (rfl) (fun hq39 => ?_) (fun hq39 => ?_)
 replace hb := tt hq39 hb
 refine Wc.seq fun K40 hK40 => ?_
 refine rg ?_
 refine lp (.bool false) (pu_assign rfl) ?_
 refine ln ?_
 refine hK40 _ _ ?_
 obtain rfl := os hb
 obtain rfl := (lX hl0).symm
 replace hb := hbK0
 obtain rfl := os hb
 refine Wc.ret ?_
 refine hKR _ _ ?_
 refine ⟨_, res1 Try.results29 (show RV _ _ _ (.tmp _) (.bool false) from rfl), _, rfl, rfl, hC.sel [] (by decide)⟩
 replace hb := tf hq39 hb
 refine Wc.skip ?_
 refine hK20 _ _ ?_
 refine rg ?_
 obtain ⟨z41, h42, hb⟩ := bd hb
 refine lp (.int .i64 z41) (pu_addc (a := v13_0) (b := 1) e13 rfl h42) ?_
 refine lp (.int .i64 z41) (pu_move rfl) ?_
 refine ln ?_
 obtain rfl := os hb
 exact hK12 m13' _ _ (Nat.lt_succ_self _) ⟨z41, e0, e1, e4, e12, rfl, (chk_rng h42), hC.sel [0, 1] (by decide), lN hl0⟩
 replace hb := tf hq19 hb
 refine Wc.exit rfl ?_
 obtain rfl := os hb
 obtain rfl := (lX hl0).symm
 exact hK11 _ _ ⟨v13_0, e4, hrv13_0, hC.sel [] (by decide), hbK0⟩
 clear hb hC hl0
 rintro E44 w43 ⟨v13_0, e4, hrv13_0, hC, hb⟩
 refine hK8 _ _ ?_
 refine Wc.seq fun K45 hK45 => ?_
 refine rg ?_
 refine lp (.bool true) (pu_assign rfl) ?_
 refine ln ?_
 refine hK45 _ _ ?_
 obtain rfl := os hb
 refine Wc.ret ?_
 refine hKR _ _ ?_
 refine ⟨_, res1 Try.results29 (show RV _ _ _ (.tmp _) (.bool true) from rfl), _, rfl, rfl, hC.sel [] (by decide)⟩

set_option maxRecDepth 100000 in
set_option maxHeartbeats 4000000 in
theorem perm_Class_ok (n : Nat) {w : World} {O0 : List Nat} (hO : ∀ k ∈ O0, k < w.heap.size) {nx_0 : Int} (hnx_0 : I64 nx_0) {Acycles_1 : Option Addr} {mcycles_1 ccycles_1 : Nat} {cycles_1 : List Int} (hcycles_1 : Rep O0 w (.sl (.int .i64)) [.slice Acycles_1 mcycles_1 ccycles_1] cycles_1) {r : (List (List Int)) × Int} (hb : F.perm_Class n nx_0 cycles_1 = some r) :
    Calls Try.prog 14 #[.int .i64 nx_0, .slice Acycles_1 mcycles_1 ccycles_1] w fun e w' => ∃ v, e = .returned v ∧ ∃ (A0 : Option Addr) (m0 c0 : Nat), v = .tuple #[.slice A0 m0 c0, .int .i64 r.2] ∧ I64 r.2 ∧ Cx (fun _ => False) O0 w w' [.own 29 (.sl (.int .i64)) (.slice A0 m0 c0) r.1] := by
 unfold F.perm_Class at hb
 have hC := Cx.start hO
 replace hC := hC.arg rfl hcycles_1
 clear hO
 obtain ⟨rfl, hlcycles_1, hccycles_1⟩ := hcycles_1.sl_len
 replace hC : Cx (fun _ => False) O0 w w ([.ro (.sl (.int .i64)) [.slice Acycles_1 cycles_1.length ccycles_1] cycles_1] ++ marksF ([] : List Nat)) := hC
 refine calls_of_WcM Try.func14 rfl (by rw [Try.ntmps14]; exact Nat.le_of_ble_eq_true rfl) fun KR hKR => ?_
 refine Wc.seq fun K2 hK2 => ?_
 refine rg ?_
 replace hC : Cx (fun _ => False) O0 w w ([.ro (.sl (.int .i64)) [.slice Acycles_1 cycles_1.length ccycles_1] cycles_1] ++ marksF ([] : List Nat)) := hC
 refine lex.op (hC.box (cs := [.slice Acycles_1 cycles_1.length ccycles_1]) rfl rfl) ?_
 rintro _ w4 ⟨g3, rfl, hC, hF, hG⟩
 clear hG
 replace hC : Cx (fun _ => False) O0 w w4 ([.box g3 28 [.slice Acycles_1 cycles_1.length ccycles_1], .ro (.sl (.int .i64)) [.slice Acycles_1 cycles_1.length ccycles_1] cycles_1] ++ marksF ([] : List Nat)) := hC
 refine lp (.slice none 0 0) (pu_assign rfl) ?_
 refine lp (.int .i64 0) (pu_assign rfl) ?_
 refine ln ?_
 refine hK2 _ _ ?_
 refine Wc.seq fun K6 hK6 => ?_
 refine Wc.seq fun K7 hK7 => ?_
 refine rg ?_
 refine lp (.int .i64 nx_0) (pu_move rfl) ?_
 refine lp (.bool (decide (nx_0 < 1))) (pu_lss (k := .i64) (a := nx_0) (b := 1) rfl rfl) ?_
 refine lp (.bool (decide (nx_0 < 1))) (pu_move rfl) ?_
 rcases bS (decide (nx_0 < 1)) with hq8 | hq8
 replace hb := tt hq8 hb
 refine gs rfl rfl (decide (nx_0 < 1)) rfl hq8 ?_
 refine gs rfl rfl (decide (nx_0 < 1)) rfl hq8 ?_
 refine lp (.bool true) (pu_pickT (q := (decide (nx_0 < 1))) rfl hq8 rfl) ?_
 refine ln ?_
 refine hK7 _ _ ?_
 refine Wc.cond_true (rfl) ?_
 refine Wc.seq fun K9 hK9 => ?_
 refine rg ?_
 refine lp (.slice none 0 0) (pu_assign rfl) ?_
 refine lp (.int .i64 2) (pu_assign rfl) ?_
 refine ln ?_
 refine hK9 _ _ ?_
 replace hC := hC.nil 29 (.sl (.int .i64))
 replace hC : Cx (fun _ => False) O0 w w4 ([.own 29 (.sl (.int .i64)) (.slice none 0 0) ([] : List (List Int)), .box g3 28 [.slice Acycles_1 cycles_1.length ccycles_1], .ro (.sl (.int .i64)) [.slice Acycles_1 cycles_1.length ccycles_1] cycles_1] ++ marksF ([] : List Nat)) := hC
 obtain rfl := os hb
 refine Wc.ret ?_
 replace hC : Cx (fun _ => False) O0 w w4 (marksF ([] : List Nat) ++ [.own 29 (.sl (.int .i64)) (.slice none 0 0) ([] : List (List Int)), .box g3 28 [.slice Acycles_1 cycles_1.length ccycles_1], .ro (.sl (.int .i64)) [.slice Acycles_1 cycles_1.length ccycles_1] cycles_1]) := hC.perm List.perm_append_comm
 refine hKR _ _ _ _ _ _ _ rfl hC fun w11 hC => ?_
 refine ⟨_, res2 Try.results14 (show RV _ _ _ (.tmp _) (.slice none 0 0) from rfl) (show RV _ _ _ (.tmp _) (.int .i64 2) from rfl), _, rfl, none, 0, 0, rfl, (show I64 2 from by unfold I64; omega), hC.sel [0] (by decide)⟩
 replace hb := tf hq8 hb
 refine gp rfl rfl (decide (nx_0 < 1)) rfl hq8 (.int .i64 nx_0) (pu_move rfl) ?_
 refine gp rfl rfl (decide (nx_0 < 1)) rfl hq8 (.bool (decide (8 < nx_0))) (pu_gtr (k := .i64) (a := nx_0) (b := 8) rfl rfl) ?_
 refine lp (.bool (decide (8 < nx_0))) (pu_pickF (q := (decide (nx_0 < 1))) rfl hq8 rfl) ?_
 refine ln ?_
 refine hK7 _ _ ?_
 refine Wc.cond (t := (decide (8 < nx_0))) (rfl) (fun hq12 => ?_) (fun hq12 => ?_)
 replace hb := tt hq12 hb
 refine Wc.seq fun K13 hK13 => ?_
 refine rg ?_
 refine lp (.slice none 0 0) (pu_assign rfl) ?_
 refine lp (.int .i64 2) (pu_assign rfl) ?_
 refine ln ?_
 refine hK13 _ _ ?_
 replace hC := hC.nil 29 (.sl (.int .i64))
 replace hC : Cx (fun _ => False) O0 w w4 ([.own 29 (.sl (.int .i64)) (.slice none 0 0) ([] : List (List Int)), .box g3 28 [.slice Acycles_1 cycles_1.length ccycles_1], .ro (.sl (.int .i64)) [.slice Acycles_1 cycles_1.length ccycles_1] cycles_1] ++ marksF ([] : List Nat)) := hC
 obtain rfl := os hb
 refine Wc.ret ?_
 replace hC : Cx (fun _ => False) O0 w w4 (marksF ([] : List Nat) ++ [.own 29 (.sl (.int .i64)) (.slice none 0 0) ([] : List (List Int)), .box g3 28 [.slice Acycles_1 cycles_1.length ccycles_1], .ro (.sl (.int .i64)) [.slice Acycles_1 cycles_1.length ccycles_1] cycles_1]) := hC.perm List.perm_append_comm
 refine hKR _ _ _ _ _ _ _ rfl hC fun w15 hC => ?_
 refine ⟨_, res2 Try.results14 (show RV _ _ _ (.tmp _) (.slice none 0 0) from rfl) (show RV _ _ _ (.tmp _) (.int .i64 2) from rfl), _, rfl, none, 0, 0, rfl, (show I64 2 from by unfold I64; omega), hC.sel [0] (by decide)⟩
 replace hb := tf hq12 hb
 refine Wc.skip ?_
 refine hK6 _ _ ?_
 refine Wc.seq fun K16 hK16 => ?_
 refine rg ?_
 refine lp (.int .i64 nx_0) (pu_move rfl) ?_
 refine lp (.int .i64 nx_0) (pu_assign rfl) ?_
 refine ln ?_
 refine hK16 _ _ ?_
 refine Wc.fresh fun E17 hE => ?_
 have e0 : E17 0 = .int .i64 nx_0 := (congrFun hE 0).trans rfl
 have e3 : E17 3 = .pointer (some ⟨g3, 0, none⟩) := (congrFun hE 3).trans rfl
 have e4 : E17 4 = .slice none 0 0 := (congrFun hE 4).trans rfl
 have e5 : E17 5 = .int .i64 0 := (congrFun hE 5).trans rfl
 have e6 : E17 6 = .int .i64 nx_0 := (congrFun hE 6).trans rfl
 clear hE
 refine Wc.seq fun K18 hK18 => ?_
 refine Wc.seq fun K19 hK19 => ?_
 refine rg ?_
 refine lv (.slice Acycles_1 cycles_1.length ccycles_1) (ld_one Try.isAgg28 e3 ((hC.bx (i := 0) rfl).cell (j := 0) rfl)) ?_
 refine lp (.int .i64 (cycles_1.length : Int)) (pu_len (A := Acycles_1) (n := cycles_1.length) (m := ccycles_1) Try.underlying28 rfl) ?_
 refine lp (.int .i64 0) (pu_move rfl) ?_
 refine ln ?_
 refine hK19 _ _ ?_
 obtain ⟨o20, hl0, hb⟩ := bd hb
 refine Wc.cut (fun E wv => ∃ (ms_0 : List Nat) (v6_0 : Int) (v20_0 : Int), E 0 = .int .i64 nx_0 ∧ E 3 = .pointer (some ⟨g3, 0, none⟩) ∧ E 4 = .slice none 0 0 ∧ E 5 = .int .i64 0 ∧ E 6 = .int .i64 v6_0 ∧ I64 v6_0 ∧ I64 v20_0 ∧ E.ms = ms_0 ∧ Cx (fun _ => False) O0 w wv ([.box g3 28 [.slice Acycles_1 cycles_1.length ccycles_1], .ro (.sl (.int .i64)) [.slice Acycles_1 cycles_1.length ccycles_1] cycles_1] ++ marksF ms_0) ∧ (cond (!(decide (v6_0 = 0))) (some ([], 1)) (((F.perm_All_c1 ((F.perm_Class_b1 n cycles_1) : List Int → (List (List Int)) → Option (((List (List Int))) ⊕ ((List (List Int))))) n ([] : List (List Int)) nx_0).bind fun o91 => match lr o91 with     | kf84_0_1 => some (kf84_0_1, 0))) : Option ((List (List Int)) × Int)) = some r) (fun K21 hK21 => ?_) ?_
 refine Wc.block ?_
 refine Wc.loop (fun m E wv => ∃ (ms_0 : List Nat) (v6_0 : Int) (v20_0 : Int), E 0 = .int .i64 nx_0 ∧ E 3 = .pointer (some ⟨g3, 0, none⟩) ∧ E 4 = .slice none 0 0 ∧ E 5 = .int .i64 0 ∧ E 6 = .int .i64 v6_0 ∧ E 18 = .slice Acycles_1 cycles_1.length ccycles_1 ∧ E 19 = .int .i64 (cycles_1.length : Int) ∧ E 20 = .int .i64 v20_0 ∧ I64 v6_0 ∧ I64 v20_0 ∧ E.ms = ms_0 ∧ Cx (fun _ => False) O0 w wv ([.box g3 28 [.slice Acycles_1 cycles_1.length ccycles_1], .ro (.sl (.int .i64)) [.slice Acycles_1 cycles_1.length ccycles_1] cycles_1] ++ marksF ms_0) ∧ loopN m (F.perm_Class_b0 n cycles_1) (v6_0, v20_0) = some o20) n ⟨([] : List Nat), nx_0, 0, e0, e3, e4, e5, e6, rfl, rfl, rfl, hnx_0, (show I64 0 from by unfold I64; omega), rfl, hC.selT [0, 1] (by decide), hl0⟩ ?_
 have hbK0 := hb
 clear hb hC hl0
 rintro m23 E25 w24 ⟨ms_0, v6_0, v20_0, e0, e3, e4, e5, e6, e18, e19, e20, hrv6_0, hrv20_0, hms, hC, hl0⟩ K22 hK22
 obtain ⟨m23', o26, rfl, hb, hl0⟩ := loopN_some hl0
 unfold F.perm_Class_b0 at hb
 refine Wc.seq fun K27 hK27 => ?_
 refine rg ?_
 replace hC : Cx (fun _ => False) O0 w w24 ([.box g3 28 [.slice Acycles_1 cycles_1.length ccycles_1], .ro (.sl (.int .i64)) [.slice Acycles_1 cycles_1.length ccycles_1] cycles_1] ++ marksF ms_0) := hC
 refine lp (.bool (decide (v20_0 < (cycles_1.length : Int)))) (pu_lss (k := .i64) (a := v20_0) (b := (cycles_1.length : Int)) e20 e19) ?_
 refine ln ?_
 refine hK27 _ _ ?_
 refine Wc.seq fun K28 hK28 => ?_
 refine Wc.cond (t := (decide (v20_0 < (cycles_1.length : Int)))) (rfl) (fun hq29 => ?_) (fun hq29 => ?_)
 replace hb := tt hq29 hb
 refine Wc.skip ?_
 refine hK28 _ _ ?_
 refine Wc.seq fun K30 hK30 => ?_
 refine Wc.block ?_
 refine Wc.seq fun K31 hK31 => ?_
 refine rg ?_
 refine lp (.int .i64 v20_0) (pu_move e20) ?_
 obtain ⟨x32, h33, hb⟩ := bd hb
 obtain ⟨ad34, cs35, hA, hc36, hr37⟩ := hC.elr (i := 1) rfl (get_some h33).2
 subst hA
 refine lp (.pointer (some (ad34.add (v20_0.toNat * 1)))) (pu_index (a := v20_0) Try.underlying28 Try.sizeOf3 e18 e20 (get_some h33).1) ?_
 replace hC : Cx (fun _ => False) O0 w w24 ([.box g3 28 [.slice (some ad34) cycles_1.length ccycles_1], .ro (.sl (.int .i64)) [.slice (some ad34) cycles_1.length ccycles_1] cycles_1] ++ marksF ms_0) := hC
 obtain ⟨rfl, hr37'⟩ := hr37
 refine lv (.int .i64 x32) (ld_one Try.isAgg3 rfl (hc36 0 _ rfl)) ?_
 refine lp (.int .i64 v20_0) (pu_assign rfl) ?_
 refine lp (.int .i64 x32) (pu_assign rfl) ?_
 refine ln ?_
 refine hK31 _ _ ?_
 refine Wc.seq fun K38 hK38 => ?_
 refine Wc.seq fun K39 hK39 => ?_
 refine rg ?_
 refine lp (.int .i64 x32) (pu_move rfl) ?_
 refine lp (.bool (decide (x32 < 1))) (pu_lss (k := .i64) (a := x32) (b := 1) rfl rfl) ?_
 refine lp (.bool (decide (x32 < 1))) (pu_move rfl) ?_
 rcases bS (decide (x32 < 1)) with hq40 | hq40
 replace hb := tt hq40 hb
 refine gs rfl rfl (decide (x32 < 1)) rfl hq40 ?_
 refine gs rfl rfl (decide (x32 < 1)) rfl hq40 ?_
 refine gs rfl rfl (decide (x32 < 1)) rfl hq40 ?_
 refine lp (.bool true) (pu_pickT (q := (decide (x32 < 1))) rfl hq40 rfl) ?_
 refine lp (.bool true) (pu_move rfl) ?_
 refine gs rfl rfl true rfl rfl ?_
 refine gs rfl rfl true rfl rfl ?_
 refine gs rfl rfl true rfl rfl ?_
 refine lex.gskip (want_n rfl rfl rfl) ?_
 refine lex.gskip (want_n rfl rfl rfl) ?_
 refine lex.gskip (want_n rfl rfl rfl) ?_
 refine lex.gskip (want_n rfl rfl rfl) ?_
 refine lex.gskip (want_n rfl rfl rfl) ?_
 refine lex.gskip (want_n rfl rfl rfl) ?_
 refine lex.gskip (want_n rfl rfl rfl) ?_
 refine gs rfl rfl true rfl rfl ?_
 refine lp (.bool true) (pu_pickT (q := true) rfl rfl rfl) ?_
 refine ln ?_
 refine hK39 _ _ ?_
 refine Wc.fresh fun E41 hE => ?_
 have e0 := (congrFun hE 0).trans e0
 have e3 := (congrFun hE 3).trans e3
 have e4 := (congrFun hE 4).trans e4
 have e5 := (congrFun hE 5).trans e5
 have e6 := (congrFun hE 6).trans e6
 have e7 : E41 7 = .int .i64 v20_0 := (congrFun hE 7).trans rfl
 have e8 : E41 8 = .int .i64 x32 := (congrFun hE 8).trans rfl
 have e18 := (congrFun hE 18).trans e18
 have e19 := (congrFun hE 19).trans e19
 have e20 := (congrFun hE 20).trans e20
 have e21 : E41 21 = .bool (decide (v20_0 < (cycles_1.length : Int))) := (congrFun hE 21).trans rfl
 have e44 : E41 44 = .bool true := (congrFun hE 44).trans rfl
 clear hE
 refine Wc.cond_true (e44) ?_
 refine Wc.seq fun K42 hK42 => ?_
 refine rg ?_
 refine lp (.slice none 0 0) (pu_assign rfl) ?_
 refine lp (.int .i64 1) (pu_assign rfl) ?_
 refine ln ?_
 refine hK42 _ _ ?_
 obtain rfl := os hb
 obtain rfl := (lX hl0).symm
 replace hb := hbK0
 replace hC := hC.nil 29 (.sl (.int .i64))
 replace hC : Cx (fun _ => False) O0 w w24 ([.own 29 (.sl (.int .i64)) (.slice none 0 0) ([] : List (List Int)), .box g3 28 [.slice (some ad34) cycles_1.length ccycles_1], .ro (.sl (.int .i64)) [.slice (some ad34) cycles_1.length ccycles_1] cycles_1] ++ marksF ms_0) := hC
 obtain rfl := os hb
 refine Wc.ret ?_
 replace hC : Cx (fun _ => False) O0 w w24 (marksF ms_0 ++ [.own 29 (.sl (.int .i64)) (.slice none 0 0) ([] : List (List Int)), .box g3 28 [.slice (some ad34) cycles_1.length ccycles_1], .ro (.sl (.int .i64)) [.slice (some ad34) cycles_1.length ccycles_1] cycles_1]) := hC.perm List.perm_append_comm
 refine hKR _ _ _ _ _ _ _ hms hC fun w44 hC => ?_
 refine ⟨_, res2 Try.results14 (show RV _ _ _ (.tmp _) (.slice none 0 0) from rfl) (show RV _ _ _ (.tmp _) (.int .i64 1) from rfl), _, rfl, none, 0, 0, rfl, (show I64 1 from by unfold I64; omega), hC.sel [0] (by decide)⟩
 replace hb := tf hq40 hb
 refine gp rfl rfl (decide (x32 < 1)) rfl hq40 (.int .i64 x32) (pu_move rfl) ?_
 refine gp rfl rfl (decide (x32 < 1)) rfl hq40 (.int .i64 v6_0) (pu_move e6) ?_
 refine gp rfl rfl (decide (x32 < 1)) rfl hq40 (.bool (decide (v6_0 < x32))) (pu_gtr (k := .i64) (a := x32) (b := v6_0) rfl rfl) ?_
 refine lp (.bool (decide (v6_0 < x32))) (pu_pickF (q := (decide (x32 < 1))) rfl hq40 rfl) ?_
 refine lp (.bool (decide (v6_0 < x32))) (pu_move rfl) ?_
 rcases bS (decide (v6_0 < x32)) with hq45 | hq45
 replace hb := tt hq45 hb
 refine gs rfl rfl (decide (v6_0 < x32)) rfl hq45 ?_
 refine gs rfl rfl (decide (v6_0 < x32)) rfl hq45 ?_
 refine gs rfl rfl (decide (v6_0 < x32)) rfl hq45 ?_
 refine lex.gskip (want_n rfl rfl rfl) ?_
 refine lex.gskip (want_n rfl rfl rfl) ?_
 refine lex.gskip (want_n rfl rfl rfl) ?_
 refine lex.gskip (want_n rfl rfl rfl) ?_
 refine lex.gskip (want_n rfl rfl rfl) ?_
 refine lex.gskip (want_n rfl rfl rfl) ?_
 refine lex.gskip (want_n rfl rfl rfl) ?_
 refine gs rfl rfl (decide (v6_0 < x32)) rfl hq45 ?_
 refine lp (.bool true) (pu_pickT (q := (decide (v6_0 < x32))) rfl hq45 rfl) ?_
 refine ln ?_
 refine hK39 _ _ ?_
 refine Wc.fresh fun E46 hE => ?_
 have e0 := (congrFun hE 0).trans e0
 have e3 := (congrFun hE 3).trans e3
 have e4 := (congrFun hE 4).trans e4
 have e5 := (congrFun hE 5).trans e5
 have e6 := (congrFun hE 6).trans e6
 have e7 : E46 7 = .int .i64 v20_0 := (congrFun hE 7).trans rfl
 have e8 : E46 8 = .int .i64 x32 := (congrFun hE 8).trans rfl
 have e18 := (congrFun hE 18).trans e18
 have e19 := (congrFun hE 19).trans e19
 have e20 := (congrFun hE 20).trans e20
 have e21 : E46 21 = .bool (decide (v20_0 < (cycles_1.length : Int))) := (congrFun hE 21).trans rfl
 have e44 : E46 44 = .bool true := (congrFun hE 44).trans rfl
 clear hE
 refine Wc.cond_true (e44) ?_
 refine Wc.seq fun K47 hK47 => ?_
 refine rg ?_
 refine lp (.slice none 0 0) (pu_assign rfl) ?_
 refine lp (.int .i64 1) (pu_assign rfl) ?_
 refine ln ?_
 refine hK47 _ _ ?_
 obtain rfl := os hb
 obtain rfl := (lX hl0).symm
 replace hb := hbK0
 replace hC := hC.nil 29 (.sl (.int .i64))
 replace hC : Cx (fun _ => False) O0 w w24 ([.own 29 (.sl (.int .i64)) (.slice none 0 0) ([] : List (List Int)), .box g3 28 [.slice (some ad34) cycles_1.length ccycles_1], .ro (.sl (.int .i64)) [.slice (some ad34) cycles_1.length ccycles_1] cycles_1] ++ marksF ms_0) := hC
 obtain rfl := os hb
 refine Wc.ret ?_
 replace hC : Cx (fun _ => False) O0 w w24 (marksF ms_0 ++ [.own 29 (.sl (.int .i64)) (.slice none 0 0) ([] : List (List Int)), .box g3 28 [.slice (some ad34) cycles_1.length ccycles_1], .ro (.sl (.int .i64)) [.slice (some ad34) cycles_1.length ccycles_1] cycles_1]) := hC.perm List.perm_append_comm
 refine hKR _ _ _ _ _ _ _ hms hC fun w49 hC => ?_
 refine ⟨_, res2 Try.results14 (show RV _ _ _ (.tmp _) (.slice none 0 0) from rfl) (show RV _ _ _ (.tmp _) (.int .i64 1) from rfl), _, rfl, none, 0, 0, rfl, (show I64 1 from by unfold I64; omega), hC.sel [0] (by decide)⟩
 replace hb := tf hq45 hb
 refine gp rfl rfl (decide (v6_0 < x32)) rfl hq45 (.int .i64 v20_0) (pu_move rfl) ?_
 refine gp rfl rfl (decide (v6_0 < x32)) rfl hq45 (.bool (decide (0 < v20_0))) (pu_gtr (k := .i64) (a := v20_0) (b := 0) rfl rfl) ?_
 refine gp rfl rfl (decide (v6_0 < x32)) rfl hq45 (.bool (decide (0 < v20_0))) (pu_move rfl) ?_
 rcases bS (decide (0 < v20_0)) with hq50 | hq50
 replace hb := tt hq50 hb
 refine gp rfl rfl (decide (0 < v20_0)) rfl hq50 (.int .i64 x32) (pu_move rfl) ?_
 refine gv rfl rfl (decide (0 < v20_0)) rfl hq50 (.slice (some ad34) cycles_1.length ccycles_1) (ld_one Try.isAgg28 e3 ((hC.bx (i := 0) rfl).cell (j := 0) rfl)) ?_
 refine gp rfl rfl (decide (0 < v20_0)) rfl hq50 (.int .i64 v20_0) (pu_move rfl) ?_
 obtain ⟨z51, h52, hb⟩ := bd hb
 refine gp rfl rfl (decide (0 < v20_0)) rfl hq50 (.int .i64 z51) (pu_subc (a := v20_0) (b := 1) rfl rfl h52) ?_
 obtain ⟨x53, h54, hb⟩ := bd hb
 obtain ⟨ad55, cs56, hA, hc57, hr58⟩ := hC.elr (i := 1) rfl (get_some h54).2
 obtain rfl := Option.some.inj hA
 refine gp rfl rfl (decide (0 < v20_0)) rfl hq50 (.pointer (some (ad34.add (z51.toNat * 1)))) (pu_index (a := z51) Try.underlying28 Try.sizeOf3 rfl rfl (get_some h54).1) ?_
 obtain ⟨rfl, hr58'⟩ := hr58
 refine gv rfl rfl (decide (0 < v20_0)) rfl hq50 (.int .i64 x53) (ld_one Try.isAgg3 rfl (hc57 0 _ rfl)) ?_
 refine gp rfl rfl (decide (0 < v20_0)) rfl hq50 (.bool (decide (x53 < x32))) (pu_gtr (k := .i64) (a := x32) (b := x53) rfl rfl) ?_
 refine gp rfl rfl (decide (v6_0 < x32)) rfl hq45 (.bool (decide (x53 < x32))) (pu_pickT (q := (decide (0 < v20_0))) rfl hq50 rfl) ?_
 refine lp (.bool (decide (x53 < x32))) (pu_pickF (q := (decide (v6_0 < x32))) rfl hq45 rfl) ?_
 refine ln ?_
 refine hK39 _ _ ?_
 refine Wc.fresh fun E59 hE => ?_
 have e0 := (congrFun hE 0).trans e0
 have e3 := (congrFun hE 3).trans e3
 have e4 := (congrFun hE 4).trans e4
 have e5 := (congrFun hE 5).trans e5
 have e6 := (congrFun hE 6).trans e6
 have e7 : E59 7 = .int .i64 v20_0 := (congrFun hE 7).trans rfl
 have e8 : E59 8 = .int .i64 x32 := (congrFun hE 8).trans rfl
 have e18 := (congrFun hE 18).trans e18
 have e19 := (congrFun hE 19).trans e19
 have e20 := (congrFun hE 20).trans e20
 have e21 : E59 21 = .bool (decide (v20_0 < (cycles_1.length : Int))) := (congrFun hE 21).trans rfl
 have e44 : E59 44 = .bool (decide (x53 < x32)) := (congrFun hE 44).trans rfl
 clear hE
 refine Wc.cond (t := (decide (x53 < x32))) (e44) (fun hq60 => ?_) (fun hq60 => ?_)
 replace hb := tt hq60 hb
 refine Wc.seq fun K61 hK61 => ?_
 refine rg ?_
 refine lp (.slice none 0 0) (pu_assign rfl) ?_
 refine lp (.int .i64 1) (pu_assign rfl) ?_
 refine ln ?_
 refine hK61 _ _ ?_
 obtain rfl := os hb
 obtain rfl := (lX hl0).symm
 replace hb := hbK0
 replace hC := hC.nil 29 (.sl (.int .i64))
 replace hC : Cx (fun _ => False) O0 w w24 ([.own 29 (.sl (.int .i64)) (.slice none 0 0) ([] : List (List Int)), .box g3 28 [.slice (some ad34) cycles_1.length ccycles_1], .ro (.sl (.int .i64)) [.slice (some ad34) cycles_1.length ccycles_1] cycles_1] ++ marksF ms_0) := hC
 obtain rfl := os hb
 refine Wc.ret ?_
 replace hC : Cx (fun _ => False) O0 w w24 (marksF ms_0 ++ [.own 29 (.sl (.int .i64)) (.slice none 0 0) ([] : List (List Int)), .box g3 28 [.slice (some ad34) cycles_1.length ccycles_1], .ro (.sl (.int .i64)) [.slice (some ad34) cycles_1.length ccycles_1] cycles_1]) := hC.perm List.perm_append_comm
 refine hKR _ _ _ _ _ _ _ hms hC fun w63 hC => ?_
 refine ⟨_, res2 Try.results14 (show RV _ _ _ (.tmp _) (.slice none 0 0) from rfl) (show RV _ _ _ (.tmp _) (.int .i64 1) from rfl), _, rfl, none, 0, 0, rfl, (show I64 1 from by unfold I64; omega), hC.sel [0] (by decide)⟩
 replace hb := tf hq60 hb
 refine Wc.skip ?_
 refine hK38 _ _ ?_
 refine rg ?_
 refine lp (.int .i64 v6_0) (pu_move e6) ?_
 refine lp (.int .i64 x32) (pu_move e8) ?_
 obtain ⟨z64, h65, hb⟩ := bd hb
 refine lp (.int .i64 z64) (pu_subc (a := v6_0) (b := x32) rfl rfl h65) ?_
 refine lp (.int .i64 z64) (pu_assign rfl) ?_
 refine ln ?_
 refine hK30 _ _ ?_
 refine rg ?_
 obtain ⟨z66, h67, hb⟩ := bd hb
 refine lp (.int .i64 z66) (pu_addc (a := v20_0) (b := 1) e20 rfl h67) ?_
 refine lp (.int .i64 z66) (pu_move rfl) ?_
 refine ln ?_
 obtain rfl := os hb
 exact hK22 m23' _ _ (Nat.lt_succ_self _) ⟨ms_0, z64, z66, e0, e3, e4, e5, rfl, e18, e19, rfl, (chk_rng h65), (chk_rng h67), hms, hC.selT [0, 1] (by decide), lN hl0⟩
 replace hb := tf hq50 hb
 refine gs rfl rfl (decide (0 < v20_0)) rfl hq50 ?_
 refine gs rfl rfl (decide (0 < v20_0)) rfl hq50 ?_
 refine gs rfl rfl (decide (0 < v20_0)) rfl hq50 ?_
 refine gs rfl rfl (decide (0 < v20_0)) rfl hq50 ?_
 refine gs rfl rfl (decide (0 < v20_0)) rfl hq50 ?_
 refine gs rfl rfl (decide (0 < v20_0)) rfl hq50 ?_
 refine gs rfl rfl (decide (0 < v20_0)) rfl hq50 ?_
 refine gp rfl rfl (decide (v6_0 < x32)) rfl hq45 (.bool false) (pu_pickF (q := (decide (0 < v20_0))) rfl hq50 rfl) ?_
 refine lp (.bool false) (pu_pickF (q := (decide (v6_0 < x32))) rfl hq45 rfl) ?_
 refine ln ?_
 refine hK39 _ _ ?_
 refine Wc.fresh fun E68 hE => ?_
 have e0 := (congrFun hE 0).trans e0
 have e3 := (congrFun hE 3).trans e3
 have e4 := (congrFun hE 4).trans e4
 have e5 := (congrFun hE 5).trans e5
 have e6 := (congrFun hE 6).trans e6
 have e7 : E68 7 = .int .i64 v20_0 := (congrFun hE 7).trans rfl
 have e8 : E68 8 = .int .i64 x32 := (congrFun hE 8).trans rfl
 have e18 := (congrFun hE 18).trans e18
 have e19 := (congrFun hE 19).trans e19
 have e20 := (congrFun hE 20).trans e20
 have e21 : E68 21 = .bool (decide (v20_0 < (cycles_1.length : Int))) := (congrFun hE 21).trans rfl
 have e44 : E68 44 = .bool false := (congrFun hE 44).trans rfl
 clear hE
 refine Wc.cond_false (e44) ?_
 refine Wc.skip ?_
 refine hK38 _ _ ?_
 refine rg ?_
 refine lp (.int .i64 v6_0) (pu_move e6) ?_
 refine lp (.int .i64 x32) (pu_move e8) ?_
 obtain ⟨z69, h70, hb⟩ := bd hb
 refine lp (.int .i64 z69) (pu_subc (a := v6_0) (b := x32) rfl rfl h70) ?_
 refine lp (.int .i64 z69) (pu_assign rfl) ?_
 refine ln ?_
 refine hK30 _ _ ?_
 refine rg ?_
 obtain ⟨z71, h72, hb⟩ := bd hb
 refine lp (.int .i64 z71) (pu_addc (a := v20_0) (b := 1) e20 rfl h72) ?_
 refine lp (.int .i64 z71) (pu_move rfl) ?_
 refine ln ?_
 obtain rfl := os hb
 exact hK22 m23' _ _ (Nat.lt_succ_self _) ⟨ms_0, z69, z71, e0, e3, e4, e5, rfl, e18, e19, rfl, (chk_rng h70), (chk_rng h72), hms, hC.selT [0, 1] (by decide), lN hl0⟩
 replace hb := tf hq29 hb
 refine Wc.exit rfl ?_
 obtain rfl := os hb
 obtain rfl := (lX hl0).symm
 exact hK21 _ _ ⟨ms_0, v6_0, v20_0, e0, e3, e4, e5, e6, hrv6_0, hrv20_0, hms, hC.selT [0, 1] (by decide), hbK0⟩
 clear hb hC hl0
 rintro E74 w73 ⟨ms_0, v6_0, v20_0, e0, e3, e4, e5, e6, hrv6_0, hrv20_0, hms, hC, hb⟩
 refine hK18 _ _ ?_
 refine Wc.seq fun K75 hK75 => ?_
 refine Wc.seq fun K76 hK76 => ?_
 refine rg ?_
 replace hC : Cx (fun _ => False) O0 w w73 ([.box g3 28 [.slice Acycles_1 cycles_1.length ccycles_1], .ro (.sl (.int .i64)) [.slice Acycles_1 cycles_1.length ccycles_1] cycles_1] ++ marksF ms_0) := hC
 refine lp (.int .i64 v6_0) (pu_move e6) ?_
 refine lp (.bool (!(decide (v6_0 = 0)))) (pu_neq (k := .i64) (a := v6_0) (b := 0) rfl rfl) ?_
 refine ln ?_
 refine hK76 _ _ ?_
 refine Wc.cond (t := (!(decide (v6_0 = 0)))) (rfl) (fun hq77 => ?_) (fun hq77 => ?_)
 replace hb := tt hq77 hb
 refine Wc.seq fun K78 hK78 => ?_
 refine rg ?_
 refine lp (.slice none 0 0) (pu_assign rfl) ?_
 refine lp (.int .i64 1) (pu_assign rfl) ?_
 refine ln ?_
 refine hK78 _ _ ?_
 replace hC := hC.nil 29 (.sl (.int .i64))
 replace hC : Cx (fun _ => False) O0 w w73 ([.own 29 (.sl (.int .i64)) (.slice none 0 0) ([] : List (List Int)), .box g3 28 [.slice Acycles_1 cycles_1.length ccycles_1], .ro (.sl (.int .i64)) [.slice Acycles_1 cycles_1.length ccycles_1] cycles_1] ++ marksF ms_0) := hC
 obtain rfl := os hb
 refine Wc.ret ?_
 replace hC : Cx (fun _ => False) O0 w w73 (marksF ms_0 ++ [.own 29 (.sl (.int .i64)) (.slice none 0 0) ([] : List (List Int)), .box g3 28 [.slice Acycles_1 cycles_1.length ccycles_1], .ro (.sl (.int .i64)) [.slice Acycles_1 cycles_1.length ccycles_1] cycles_1]) := hC.perm List.perm_append_comm
 refine hKR _ _ _ _ _ _ _ hms hC fun w80 hC => ?_
 refine ⟨_, res2 Try.results14 (show RV _ _ _ (.tmp _) (.slice none 0 0) from rfl) (show RV _ _ _ (.tmp _) (.int .i64 1) from rfl), _, rfl, none, 0, 0, rfl, (show I64 1 from by unfold I64; omega), hC.sel [0] (by decide)⟩
 replace hb := tf hq77 hb
 refine Wc.skip ?_
 refine hK75 _ _ ?_
 refine Wc.seq fun K81 hK81 => ?_
 refine rg ?_
 refine lex.op (hC.alloc (cs := [.slice none 0 0]) Try.zeroValue32 rfl) ?_
 rintro _ w83 ⟨g82, rfl, hC, hF, hG⟩
 clear hG
 refine ln ?_
 refine hK81 _ _ ?_
 refine Wc.seq fun K85 hK85 => ?_
 refine Wc.seq fun K86 hK86 => ?_
 refine rg ?_
 replace hC : Cx (fun _ => False) O0 w w83 ([.box g82 32 [.slice none 0 0], .box g3 28 [.slice Acycles_1 cycles_1.length ccycles_1], .ro (.sl (.int .i64)) [.slice Acycles_1 cycles_1.length ccycles_1] cycles_1] ++ marksF ms_0) := hC
 refine lp (.int .i64 nx_0) (pu_move e0) ?_
 refine lex.cl (⟨_, _, op_call (vs := [.int .i64 nx_0]) Try.call12 rfl rfl rfl, perm_All_ok hC.lt⟩) ?_
 rintro _ w89 ⟨g87, rfl, hK⟩
 replace hC := hC.merge hK
 clear hK
 refine ln ?_
 refine hK86 _ _ ?_
 replace hC : Cx (fun _ => False) O0 w w89 ([.box g87 3 [.int .i64 nx_0], .box g82 32 [.slice none 0 0], .box g3 28 [.slice Acycles_1 cycles_1.length ccycles_1], .ro (.sl (.int .i64)) [.slice Acycles_1 cycles_1.length ccycles_1] cycles_1] ++ marksF ms_0) := hC
 replace hC := hC.nil 29 (.sl (.int .i64))
 obtain ⟨o91, hl1, hb⟩ := bd hb
 refine Wc.cut (fun E wv => ∃ (ms_1 : List Nat) (kf84_0_1 : List (List Int)) (Akf84_0_1 : Option Addr) (mkf84_0_1 ckf84_0_1 : Nat), E 4 = .slice none 0 0 ∧ E 5 = .int .i64 0 ∧ E 9 = .pointer (some ⟨g82, 0, none⟩) ∧ E.ms = ms_1 ∧ Cx (fun _ => False) O0 w wv ([.box g82 32 [.slice Akf84_0_1 mkf84_0_1 ckf84_0_1], .own 29 (.sl (.int .i64)) (.slice Akf84_0_1 mkf84_0_1 ckf84_0_1) kf84_0_1] ++ marksF ms_1) ∧ (some (kf84_0_1, 0) : Option ((List (List Int)) × Int)) = some r) (fun K92 hK92 => ?_) ?_
 refine Wc.block ?_
 replace hC : Cx (fun _ => False) O0 w w89 ([.own 29 (.sl (.int .i64)) (.slice none 0 0) ([] : List (List Int)), .box g87 3 [.int .i64 nx_0], .box g82 32 [.slice none 0 0], .box g3 28 [.slice Acycles_1 cycles_1.length ccycles_1], .ro (.sl (.int .i64)) [.slice Acycles_1 cycles_1.length ccycles_1] cycles_1] ++ marksF ms_0) := hC
 replace hC := hC.selT [1, 3, 4, 2, 0] (by decide)
 replace hC : Cx (fun _ => False) O0 w w89 ([.box g87 3 [.int .i64 nx_0]] ++ ([.box g3 28 [.slice Acycles_1 cycles_1.length ccycles_1], .ro (.sl (.int .i64)) [.slice Acycles_1 cycles_1.length ccycles_1] cycles_1, .box g82 32 [.slice none 0 0], .own 29 (.sl (.int .i64)) (.slice none 0 0) ([] : List (List Int))] ++ marksF ms_0)) := hC
 refine Wc.rangeF (fun s L => ∃ (kf84_0_1 : List (List Int)) (Akf84_0_1 : Option Addr) (mkf84_0_1 ckf84_0_1 : Nat), kf84_0_1 = s ∧ L = ([.box g3 28 [.slice Acycles_1 cycles_1.length ccycles_1], .ro (.sl (.int .i64)) [.slice Acycles_1 cycles_1.length ccycles_1] cycles_1, .box g82 32 [.slice Akf84_0_1 mkf84_0_1 ckf84_0_1], .own 29 (.sl (.int .i64)) (.slice Akf84_0_1 mkf84_0_1 ckf84_0_1) kf84_0_1] ++ marksF ms_0)) (fun _ _ => False) ([] : List Nat) (fun _ => some 2) rfl Try.call40 (perm_All_c1_it n ((F.perm_Class_b1 n cycles_1) : List Int → (List (List Int)) → Option (((List (List Int))) ⊕ ((List (List Int))))) hnx_0) rfl (by decide) (fun v => [(53, v)]) (fun v => by simp) hC ⟨([] : List (List Int)), none, 0, 0, rfl, rfl⟩ hl1 _ (fun l v W => Wc.region (by decide +kernel) (lex.pure (v := v) (pu_assign rfl) (lex.nil ⟨rfl, rfl⟩))) ?_ ?_ ?_ ?_
 have hbK1 := hb
 clear hb hC hl1
 rintro s96 o95 x_1 Ax_1 cx_1 l97 D98 oB99 oK100 L Tp w93 ⟨kf84_0_1, Akf84_0_1, mkf84_0_1, ckf84_0_1, rfl, rfl⟩ hb hC Kn Kr Kx hKn hKr hKx
 unfold F.perm_Class_b1 at hb
 replace hC : Cx (fun _ => False) O0 w w93 (([.own 3 (.int .i64) (.slice Ax_1 x_1.length cx_1) x_1, .obj l97 oB99, .obj D98 oK100, .box g3 28 [.slice Acycles_1 cycles_1.length ccycles_1], .ro (.sl (.int .i64)) [.slice Acycles_1 cycles_1.length ccycles_1] cycles_1, .box g82 32 [.slice Akf84_0_1 mkf84_0_1 ckf84_0_1], .own 29 (.sl (.int .i64)) (.slice Akf84_0_1 mkf84_0_1 ckf84_0_1) kf84_0_1] ++ marksF ms_0) ++ Tp) := hC
 replace hC := hC.assoc
 refine Wc.fresh fun E94 hE => ?_
 have e3 := (congrFun hE 3).trans e3
 have e4 := (congrFun hE 4).trans e4
 have e5 := (congrFun hE 5).trans e5
 have e9 : E94 9 = .pointer (some ⟨g82, 0, none⟩) := (congrFun hE 9).trans rfl
 have e10 : E94 10 = .slice Ax_1 x_1.length cx_1 := congrFun hE 10
 have e53 : E94 53 = .slice Ax_1 x_1.length cx_1 := congrFun hE 53
 clear hE
 obtain ⟨rfl, hlkf84_0_1, hckf84_0_1⟩ := (hC.ow (i := 6) rfl).sl_len
 obtain ⟨-, hlx_1, hcx_1⟩ := (hC.ow (i := 0) rfl).sl_len
 refine Wc.block ?_
 refine Wc.seq fun K103 hK103 => ?_
 refine Wc.regionMix [] (frm [] ([] : List Fact) ([] : List Fact)) (fun _ => rfl) mixed (by decide +kernel) (by decide +kernel) fun w105 hw104 => ?_
 replace hC := hC.step (Fr.of_drew hw104)
 have hM := Fr.refl (fun k => k ∈ blocks ([] : List Fact)) w105
 clear hw104
 have hS := hC
 replace hC : Cx (fun _ => False) O0 w w105 ([.own 3 (.int .i64) (.slice Ax_1 x_1.length cx_1) x_1, .obj l97 oB99, .obj D98 oK100, .box g3 28 [.slice Acycles_1 cycles_1.length ccycles_1], .ro (.sl (.int .i64)) [.slice Acycles_1 cycles_1.length ccycles_1] cycles_1, .box g82 32 [.slice Akf84_0_1 kf84_0_1.length ckf84_0_1], .own 29 (.sl (.int .i64)) (.slice Akf84_0_1 kf84_0_1.length ckf84_0_1) kf84_0_1] ++ (marksF ms_0 ++ Tp)) := hC
 refine mp (.slice Ax_1 x_1.length cx_1) (pu_move e10) ?_
 obtain ⟨y106, h107, hb⟩ := bd hb
 refine mixE.cl hM (⟨_, _, op_call (vs := [.slice Ax_1 x_1.length cx_1]) Try.call25 rfl rfl rfl, perm_Type_ok n (hC.lentLt [.slice Ax_1 x_1.length cx_1]) ((hC.ow (i := 0) rfl).lend (vs := [.slice Ax_1 x_1.length cx_1]) (by simp)) h107⟩) ?_
 rintro _ w112 ⟨A108, m109, c110, rfl, hK⟩
 have hBf111 := Beside.cl (i := 0) hM hK rfl
 replace hM := hM.none hK.fr
 refine ⟨hM, ?_⟩
 replace hC := hC.mergeF hK rfl
 clear hK
 obtain ⟨rfl, hl113, hc114⟩ := (hC.ow (i := 0) rfl).sl_len
 replace hC : Cx (fun _ => False) O0 w w112 ([.own 3 (.int .i64) (.slice A108 y106.length c110) y106, .own 3 (.int .i64) (.slice Ax_1 x_1.length cx_1) x_1, .obj l97 oB99, .obj D98 oK100, .box g3 28 [.slice Acycles_1 cycles_1.length ccycles_1], .ro (.sl (.int .i64)) [.slice Acycles_1 cycles_1.length ccycles_1] cycles_1, .box g82 32 [.slice Akf84_0_1 kf84_0_1.length ckf84_0_1], .own 29 (.sl (.int .i64)) (.slice Akf84_0_1 kf84_0_1.length ckf84_0_1) kf84_0_1] ++ (marksF ms_0 ++ Tp)) := hC
 refine mixE.load hM (v := .slice Acycles_1 cycles_1.length ccycles_1) (fun _ hF => ld_one Try.isAgg28 e3 ((hS.bx2 (i := 3) rfl [] (by decide) hF).cell (j := 0) rfl)) ?_
 obtain ⟨y115, h116, hb⟩ := bd hb
 refine mixE.cl hM (⟨_, _, op_call (vs := [.slice A108 y106.length c110, .slice Acycles_1 cycles_1.length ccycles_1]) Try.call29 rfl rfl rfl, slices_Equal_Lint_int_ok n (hC.lentLt [.slice A108 y106.length c110]) ((hC.ow (i := 0) rfl).lend (vs := [.slice A108 y106.length c110]) (by simp)) ((hC.rd (i := 5) rfl).lent [.slice A108 y106.length c110]) h116⟩) ?_
 rintro _ w117 ⟨rfl, hK⟩
 replace hM := hM.none hK.fr
 refine ⟨hM, ?_⟩
 replace hC := hC.mergeF hK rfl
 clear hK
 refine mixE.nil ?_
 clear hS hM
 refine hK103 _ _ ?_
 refine Wc.cond (t := y115) (rfl) (fun hq118 => ?_) (fun hq118 => ?_)
 replace hb := tt hq118 hb
 refine rg ?_
 replace hC : Cx (fun _ => False) O0 w w117 ([.own 3 (.int .i64) (.slice A108 y106.length c110) y106, .own 3 (.int .i64) (.slice Ax_1 x_1.length cx_1) x_1, .obj l97 oB99, .obj D98 oK100, .box g3 28 [.slice Acycles_1 cycles_1.length ccycles_1], .ro (.sl (.int .i64)) [.slice Acycles_1 cycles_1.length ccycles_1] cycles_1, .box g82 32 [.slice Akf84_0_1 kf84_0_1.length ckf84_0_1], .own 29 (.sl (.int .i64)) (.slice Akf84_0_1 kf84_0_1.length ckf84_0_1) kf84_0_1] ++ (marksF ms_0 ++ Tp)) := hC
 refine lv (.slice Akf84_0_1 kf84_0_1.length ckf84_0_1) (ld_one Try.isAgg32 e9 ((hC.bx (i := 6) rfl).cell (j := 0) rfl)) ?_
 refine lp (.slice Ax_1 x_1.length cx_1) (pu_move e10) ?_
 replace hC := hC.freeze (i := 1) rfl (hC.own_new (i := 1) rfl)
 refine lex.op (hC.lit (s := (.sl (.int .i64))) (vs := [.slice Ax_1 x_1.length cx_1]) (xs := [x_1]) Try.underlying32 Try.type29 rfl rfl (Nat.le_of_ble_eq_true rfl) rfl rfl (by simp [Value.cells, Sh.n]) rfl (show Elems _ _ (.sl (.int .i64)) ([.slice Ax_1 x_1.length cx_1] ++ ([])) ([x_1] : List (List Int)) from Elems.cons (hC.rd (i := 1) rfl) (Elems.nil _ _ _))) ?_
 rintro _ w123 ⟨A119, c120, rfl, hl121, hc122, hC, hF, hN⟩
 clear hF hN
 replace hC : Cx (fun _ => False) O0 w w123 ([.own 29 (.sl (.int .i64)) (.slice A119 ((([x_1] : List (List Int))).length) c120) ([x_1] : List (List Int)), .own 3 (.int .i64) (.slice A108 y106.length c110) y106, .ro (.sl (.int .i64)) [.slice Ax_1 x_1.length cx_1] x_1, .obj l97 oB99, .obj D98 oK100, .box g3 28 [.slice Acycles_1 cycles_1.length ccycles_1], .ro (.sl (.int .i64)) [.slice Acycles_1 cycles_1.length ccycles_1] cycles_1, .box g82 32 [.slice Akf84_0_1 kf84_0_1.length ckf84_0_1], .own 29 (.sl (.int .i64)) (.slice Akf84_0_1 kf84_0_1.length ckf84_0_1) kf84_0_1] ++ (marksF ms_0 ++ Tp)) := hC
 obtain ⟨u125, h126, hb⟩ := bd hb
 refine lex.op (hC.app (i := 8) (s := (.sl (.int .i64))) (xs := kf84_0_1) (ys := ([x_1] : List (List Int))) (m := ((([x_1] : List (List Int))).length)) rfl Try.underlying32 Try.underlying32 Try.type29 rfl rfl rfl (hC.srco (i := 0) rfl) rfl rfl (by have := lim_some h126; simp at this ⊢ <;> omega) (by decide)) ?_
 rintro _ w131 ⟨A127, c128, rfl, hl129, hc130, hC, hF, hN⟩
 clear hF hN
 replace hC : Cx (fun _ => False) O0 w w131 ([.own 29 (.sl (.int .i64)) (.slice A119 ((([x_1] : List (List Int))).length) c120) ([x_1] : List (List Int)), .own 3 (.int .i64) (.slice A108 y106.length c110) y106, .ro (.sl (.int .i64)) [.slice Ax_1 x_1.length cx_1] x_1, .obj l97 oB99, .obj D98 oK100, .box g3 28 [.slice Acycles_1 cycles_1.length ccycles_1], .ro (.sl (.int .i64)) [.slice Acycles_1 cycles_1.length ccycles_1] cycles_1, .box g82 32 [.slice Akf84_0_1 kf84_0_1.length ckf84_0_1], .own 29 (.sl (.int .i64)) (.slice A127 ((kf84_0_1 ++ ([x_1] : List (List Int))).length) c128) (kf84_0_1 ++ ([x_1] : List (List Int)))] ++ (marksF ms_0 ++ Tp)) := hC
 refine lex.sk (hC.setf (i := 7) (k := 0) (v := .slice A127 ((kf84_0_1 ++ ([x_1] : List (List Int))).length) c128) rfl Try.sizeOf32 rfl (by rw [Addr.add_zero']; exact e9) rfl rfl) ?_
 rintro w132 ⟨hC, hF⟩
 refine ln ?_
 obtain rfl := os hb
 replace hC : Cx (fun _ => False) O0 w w132 ([.own 29 (.sl (.int .i64)) (.slice A119 ((([x_1] : List (List Int))).length) c120) ([x_1] : List (List Int)), .own 3 (.int .i64) (.slice A108 y106.length c110) y106, .ro (.sl (.int .i64)) [.slice Ax_1 x_1.length cx_1] x_1, .obj l97 oB99, .obj D98 oK100, .box g3 28 [.slice Acycles_1 cycles_1.length ccycles_1], .ro (.sl (.int .i64)) [.slice Acycles_1 cycles_1.length ccycles_1] cycles_1, .box g82 32 [.slice A127 ((kf84_0_1 ++ ([x_1] : List (List Int))).length) c128], .own 29 (.sl (.int .i64)) (.slice A127 ((kf84_0_1 ++ ([x_1] : List (List Int))).length) c128) (kf84_0_1 ++ ([x_1] : List (List Int)))] ++ (marksF ms_0 ++ Tp)) := hC
 replace hC := hC.selT [3, 4, 5, 6, 7, 8] (by decide)
 replace hC : Cx (fun _ => False) O0 w w132 ([.obj l97 oB99, .obj D98 oK100, .box g3 28 [.slice Acycles_1 cycles_1.length ccycles_1], .ro (.sl (.int .i64)) [.slice Acycles_1 cycles_1.length ccycles_1] cycles_1, .box g82 32 [.slice A127 ((kf84_0_1 ++ ([x_1] : List (List Int))).length) c128], .own 29 (.sl (.int .i64)) (.slice A127 ((kf84_0_1 ++ ([x_1] : List (List Int))).length) c128) (kf84_0_1 ++ ([x_1] : List (List Int)))] ++ (marksF ms_0 ++ Tp)) := hC
 exact hKn _ _ _ _ rfl ⟨(kf84_0_1 ++ ([x_1] : List (List Int))), A127, (kf84_0_1 ++ ([x_1] : List (List Int))).length, c128, rfl, rfl⟩ hC.assoc'
 replace hb := tf hq118 hb
 refine Wc.skip ?_
 obtain rfl := os hb
 replace hC : Cx (fun _ => False) O0 w w117 ([.own 3 (.int .i64) (.slice A108 y106.length c110) y106, .own 3 (.int .i64) (.slice Ax_1 x_1.length cx_1) x_1, .obj l97 oB99, .obj D98 oK100, .box g3 28 [.slice Acycles_1 cycles_1.length ccycles_1], .ro (.sl (.int .i64)) [.slice Acycles_1 cycles_1.length ccycles_1] cycles_1, .box g82 32 [.slice Akf84_0_1 kf84_0_1.length ckf84_0_1], .own 29 (.sl (.int .i64)) (.slice Akf84_0_1 kf84_0_1.length ckf84_0_1) kf84_0_1] ++ (marksF ms_0 ++ Tp)) := hC
 replace hC := hC.selT [2, 3, 4, 5, 6, 7] (by decide)
 replace hC : Cx (fun _ => False) O0 w w117 ([.obj l97 oB99, .obj D98 oK100, .box g3 28 [.slice Acycles_1 cycles_1.length ccycles_1], .ro (.sl (.int .i64)) [.slice Acycles_1 cycles_1.length ccycles_1] cycles_1, .box g82 32 [.slice Akf84_0_1 kf84_0_1.length ckf84_0_1], .own 29 (.sl (.int .i64)) (.slice Akf84_0_1 kf84_0_1.length ckf84_0_1) kf84_0_1] ++ (marksF ms_0 ++ Tp)) := hC
 exact hKn _ _ _ _ rfl ⟨kf84_0_1, Akf84_0_1, kf84_0_1.length, ckf84_0_1, rfl, rfl⟩ hC.assoc'
 rintro s D_1 L wv rfl ⟨kf84_0_1, Akf84_0_1, mkf84_0_1, ckf84_0_1, rfl, rfl⟩ hC
 replace hC : Cx (fun _ => False) O0 w wv (.obj D_1 (.deferred (some [])) :: ([.box g87 3 [.int .i64 nx_0]] ++ ([.box g3 28 [.slice Acycles_1 cycles_1.length ccycles_1], .ro (.sl (.int .i64)) [.slice Acycles_1 cycles_1.length ccycles_1] cycles_1, .box g82 32 [.slice Akf84_0_1 mkf84_0_1 ckf84_0_1], .own 29 (.sl (.int .i64)) (.slice Akf84_0_1 mkf84_0_1 ckf84_0_1) kf84_0_1] ++ marksF ms_0))) := hC
 replace hC := hC.markF
 replace hC : Cx (fun _ => False) O0 w wv ([.box g87 3 [.int .i64 nx_0], .box g3 28 [.slice Acycles_1 cycles_1.length ccycles_1], .ro (.sl (.int .i64)) [.slice Acycles_1 cycles_1.length ccycles_1] cycles_1, .box g82 32 [.slice Akf84_0_1 mkf84_0_1 ckf84_0_1], .own 29 (.sl (.int .i64)) (.slice Akf84_0_1 mkf84_0_1 ckf84_0_1) kf84_0_1] ++ marksF (D_1 :: ms_0)) := hC
 obtain ⟨rfl, hlkf84_0_1, hckf84_0_1⟩ := (hC.ow (i := 4) rfl).sl_len
 replace hC : Cx (fun _ => False) O0 w wv ([.box g87 3 [.int .i64 nx_0], .box g3 28 [.slice Acycles_1 cycles_1.length ccycles_1], .ro (.sl (.int .i64)) [.slice Acycles_1 cycles_1.length ccycles_1] cycles_1, .box g82 32 [.slice Akf84_0_1 kf84_0_1.length ckf84_0_1], .own 29 (.sl (.int .i64)) (.slice Akf84_0_1 kf84_0_1.length ckf84_0_1) kf84_0_1] ++ marksF (D_1 :: ms_0)) := hC
 exact hK92 _ _ ⟨(D_1 :: ms_0), kf84_0_1, Akf84_0_1, kf84_0_1.length, ckf84_0_1, e4, e5, rfl, (congrArg (List.cons _) hms), hC.selT [3, 4] (by decide), hb⟩
 exact fun _ _ _ _ _ h => by cases h
 exact fun _ _ _ _ _ _ _ _ h => h.elim
 clear hb hC hl1
 rintro E134 w133 ⟨ms_1, kf84_0_1, Akf84_0_1, mkf84_0_1, ckf84_0_1, e4, e5, e9, hms, hC, hb⟩
 obtain ⟨rfl, hlkf84_0_1, hckf84_0_1⟩ := (hC.ow (i := 1) rfl).sl_len
 refine hK85 _ _ ?_
 refine Wc.seq fun K135 hK135 => ?_
 refine rg ?_
 replace hC : Cx (fun _ => False) O0 w w133 ([.box g82 32 [.slice Akf84_0_1 kf84_0_1.length ckf84_0_1], .own 29 (.sl (.int .i64)) (.slice Akf84_0_1 kf84_0_1.length ckf84_0_1) kf84_0_1] ++ marksF ms_1) := hC
 refine lv (.slice Akf84_0_1 kf84_0_1.length ckf84_0_1) (ld_one Try.isAgg32 e9 ((hC.bx (i := 0) rfl).cell (j := 0) rfl)) ?_
 refine lp (.slice Akf84_0_1 kf84_0_1.length ckf84_0_1) (pu_assign rfl) ?_
 refine lp (.int .i64 0) (pu_assign rfl) ?_
 refine ln ?_
 refine hK135 _ _ ?_
 obtain rfl := os hb
 refine Wc.ret ?_
 replace hC : Cx (fun _ => False) O0 w w133 (marksF ms_1 ++ [.box g82 32 [.slice Akf84_0_1 kf84_0_1.length ckf84_0_1], .own 29 (.sl (.int .i64)) (.slice Akf84_0_1 kf84_0_1.length ckf84_0_1) kf84_0_1]) := hC.perm List.perm_append_comm
 refine hKR _ _ _ _ _ _ _ hms hC fun w136 hC => ?_
 refine ⟨_, res2 Try.results14 (show RV _ _ _ (.tmp _) (.slice Akf84_0_1 kf84_0_1.length ckf84_0_1) from rfl) (show RV _ _ _ (.tmp _) (.int .i64 0) from rfl), _, rfl, Akf84_0_1, kf84_0_1.length, ckf84_0_1, rfl, (show I64 0 from by unfold I64; omega), hC.sel [1] (by decide)⟩
end Go.Proofs.Ytmlkiafidahnbaa
