/- The walks: part 13. -/
import Derived.Test.YtmlkiafidahnbaaS
import Derived.Test.YtmlkiafidahnbaaG0
set_option linter.unusedVariables false
set_option linter.unusedSimpArgs false
namespace Go.Proofs.Ytmlkiafidahnbaa
open Ev
set_option maxRecDepth 100000 in
set_option maxHeartbeats 4000000 in
theorem perm_Inverse_ok (n : Nat) {w : World} {O0 : List Nat} (hO : ∀ k ∈ O0, k < w.heap.size) {Ap_0 : Option Addr} {mp_0 cp_0 : Nat} {p_0 : List Int} (hp_0 : Rep O0 w (.sl (.int .i64)) [.slice Ap_0 mp_0 cp_0] p_0) {r : (List Int)} (hb : F.perm_Inverse n p_0 = some r) :
    Calls Try.prog 23 #[.slice Ap_0 mp_0 cp_0] w fun e w' => ∃ v, e = .returned v ∧ ∃ (A0 : Option Addr) (m0 c0 : Nat), v = .slice A0 m0 c0 ∧ Cx (fun _ => False) O0 w w' [.own 3 (.int .i64) (.slice A0 m0 c0) r] := by
 unfold F.perm_Inverse at hb
 have hC := Cx.start hO
 replace hC := hC.arg rfl hp_0
 clear hO
 obtain ⟨rfl, hlp_0, hcp_0⟩ := hp_0.sl_len
 refine calls_of_Wc Try.func23 rfl (by rw [Try.ntmps23]; exact Nat.le_of_ble_eq_true rfl) fun KR hKR => ?_
 refine Wc.seq fun K2 hK2 => ?_
 refine rg ?_
 refine lp (.slice none 0 0) (pu_assign rfl) ?_
 refine ln ?_
 refine hK2 _ _ ?_
 refine Wc.seq fun K3 hK3 => ?_
 refine Wc.seq fun K4 hK4 => ?_
 refine rg ?_
 refine lp (.slice Ap_0 p_0.length cp_0) (pu_move rfl) ?_
 obtain ⟨y5, h6, hb⟩ := bd hb
 refine lex.cl (⟨_, _, op_call (vs := [.slice Ap_0 p_0.length cp_0]) Try.call19 rfl rfl rfl, perm_Valid_ok n hC.lt (hC.rd (i := 0) rfl) h6⟩) ?_
 rintro _ w7 ⟨rfl, hK⟩
 replace hC := hC.merge hK
 clear hK
 refine lp (.bool (!y5)) (pu_not (q := y5) rfl) ?_
 refine ln ?_
 refine hK4 _ _ ?_
 refine Wc.cond (t := (!y5)) (rfl) (fun hq8 => ?_) (fun hq8 => ?_)
 replace hb := tt hq8 hb
 refine Wc.seq fun K9 hK9 => ?_
 refine rg ?_
 refine lp (.slice none 0 0) (pu_assign rfl) ?_
 refine ln ?_
 refine hK9 _ _ ?_
 replace hC := hC.nil 3 (.int .i64)
 obtain rfl := os hb
 refine Wc.ret ?_
 refine hKR _ _ ?_
 refine ⟨_, res1 Try.results23 (show RV _ _ _ (.tmp _) (.slice none 0 0) from rfl), _, rfl, none, 0, 0, rfl, hC.sel [0] (by decide)⟩
 replace hb := tf hq8 hb
 refine Wc.skip ?_
 refine hK3 _ _ ?_
 refine Wc.seq fun K11 hK11 => ?_
 refine rg ?_
 refine lp (.slice Ap_0 p_0.length cp_0) (pu_move rfl) ?_
 refine lp (.int .i64 (p_0.length : Int)) (pu_len (A := Ap_0) (n := p_0.length) (m := cp_0) Try.underlying29 rfl) ?_
 obtain ⟨u12, h13, hb⟩ := bd hb
 refine lex.op (hC.make (s := (.int .i64)) (n := (p_0.length : Int)) Try.underlying29 Try.type3 rfl rfl rfl rfl rfl (pos_some h13).1 (pos_some h13).2 (by decide)) ?_
 rintro _ w18 ⟨A14, c15, rfl, hl16, hc17, hC, hF, hN⟩
 clear hF hN
 refine lp (.slice A14 (((List.replicate (p_0.length : Int).toNat (0 : Int))).length) c15) (pu_assign rfl) ?_
 refine ln ?_
 refine hK11 _ _ ?_
 refine Wc.seq fun K20 hK20 => ?_
 refine Wc.seq fun K21 hK21 => ?_
 refine rg ?_
 refine lp (.slice Ap_0 p_0.length cp_0) (pu_move rfl) ?_
 refine lp (.int .i64 (p_0.length : Int)) (pu_len (A := Ap_0) (n := p_0.length) (m := cp_0) Try.underlying29 rfl) ?_
 refine lp (.int .i64 0) (pu_move rfl) ?_
 refine ln ?_
 refine hK21 _ _ ?_
 refine Wc.fresh fun E22 hE => ?_
 have e2 : E22 2 = .slice none 0 0 := (congrFun hE 2).trans rfl
 have e3 : E22 3 = .slice A14 (((List.replicate (p_0.length : Int).toNat (0 : Int))).length) c15 := (congrFun hE 3).trans rfl
 have e12 : E22 12 = .slice Ap_0 p_0.length cp_0 := (congrFun hE 12).trans rfl
 have e13 : E22 13 = .int .i64 (p_0.length : Int) := (congrFun hE 13).trans rfl
 have e14 : E22 14 = .int .i64 0 := (congrFun hE 14).trans rfl
 clear hE
 obtain ⟨o23, hl0, hb⟩ := bd hb
 refine Wc.cut (fun E wv => ∃ (v14_0 : Int) (qf19_0 : List Int), E 2 = .slice none 0 0 ∧ E 3 = .slice A14 (((List.replicate (p_0.length : Int).toNat (0 : Int))).length) c15 ∧ I64 v14_0 ∧ Cx (fun _ => False) O0 w wv [.own 3 (.int .i64) (.slice A14 (((List.replicate (p_0.length : Int).toNat (0 : Int))).length) c15) qf19_0] ∧ (some qf19_0 : Option ((List Int))) = some r) (fun K24 hK24 => ?_) ?_
 refine Wc.block ?_
 refine Wc.loop (fun m E wv => ∃ (v14_0 : Int) (qf19_0 : List Int), E 2 = .slice none 0 0 ∧ E 3 = .slice A14 (((List.replicate (p_0.length : Int).toNat (0 : Int))).length) c15 ∧ E 12 = .slice Ap_0 p_0.length cp_0 ∧ E 13 = .int .i64 (p_0.length : Int) ∧ E 14 = .int .i64 v14_0 ∧ I64 v14_0 ∧ Cx (fun _ => False) O0 w wv [.own 3 (.int .i64) (.slice A14 (((List.replicate (p_0.length : Int).toNat (0 : Int))).length) c15) qf19_0, .ro (.sl (.int .i64)) [.slice Ap_0 p_0.length cp_0] p_0] ∧ loopN m (F.perm_Inverse_b0 n p_0) (v14_0, qf19_0) = some o23) n ⟨0, (List.replicate (p_0.length : Int).toNat (0 : Int)), e2, e3, e12, e13, e14, (show I64 0 from by unfold I64; omega), hC.sel [0, 1] (by decide), hl0⟩ ?_
 have hbK0 := hb
 clear hb hC hl0
 rintro m26 E28 w27 ⟨v14_0, qf19_0, e2, e3, e12, e13, e14, hrv14_0, hC, hl0⟩ K25 hK25
 obtain ⟨m26', o29, rfl, hb, hl0⟩ := loopN_some hl0
 unfold F.perm_Inverse_b0 at hb
 refine Wc.seq fun K30 hK30 => ?_
 refine rg ?_
 refine lp (.bool (decide (v14_0 < (p_0.length : Int)))) (pu_lss (k := .i64) (a := v14_0) (b := (p_0.length : Int)) e14 e13) ?_
 refine ln ?_
 refine hK30 _ _ ?_
 refine Wc.seq fun K31 hK31 => ?_
 refine Wc.cond (t := (decide (v14_0 < (p_0.length : Int)))) (rfl) (fun hq32 => ?_) (fun hq32 => ?_)
 replace hb := tt hq32 hb
 refine Wc.skip ?_
 refine hK31 _ _ ?_
 refine Wc.seq fun K33 hK33 => ?_
 refine Wc.block ?_
 refine Wc.seq fun K34 hK34 => ?_
 refine rg ?_
 refine lp (.int .i64 v14_0) (pu_move e14) ?_
 obtain ⟨x35, h36, hb⟩ := bd hb
 obtain ⟨ad37, cs38, hA, hc39, hr40⟩ := hC.elr (i := 1) rfl (get_some h36).2
 subst hA
 refine lp (.pointer (some (ad37.add (v14_0.toNat * 1)))) (pu_index (a := v14_0) Try.underlying29 Try.sizeOf3 e12 e14 (get_some h36).1) ?_
 obtain ⟨rfl, hr40'⟩ := hr40
 refine lv (.int .i64 x35) (ld_one Try.isAgg3 rfl (hc39 0 _ rfl)) ?_
 refine lp (.int .i64 v14_0) (pu_assign rfl) ?_
 refine lp (.int .i64 x35) (pu_assign rfl) ?_
 refine ln ?_
 refine hK34 _ _ ?_
 refine rg ?_
 refine lp (.slice A14 (((List.replicate (p_0.length : Int).toNat (0 : Int))).length) c15) (pu_move e3) ?_
 refine lp (.int .i64 x35) (pu_move rfl) ?_
 refine lp (.int .i64 v14_0) (pu_move rfl) ?_
 obtain ⟨x41, h42, hb⟩ := bd hb
 obtain ⟨ad43, cs44, hA, hc45, hr46⟩ := hC.elo (i := 0) rfl (get_some h42).2
 subst hA
 refine lp (.pointer (some (ad43.add (x35.toNat * 1)))) (pu_index (a := x35) Try.underlying29 Try.sizeOf3 rfl rfl (by rw [(hC.ow (i := 0) rfl).sl_len.1]; exact (get_some h42).1)) ?_
 refine lex.sk (hC.put (i := 0) rfl rfl Try.sizeOf3 (k := x35.toNat) (a := v14_0) (by have := (get_some h42).1; simp at this ⊢; omega) (⟨rfl, I64.wr hrv14_0⟩) rfl rfl rfl) ?_
 rintro w47 ⟨hC, hF⟩
 refine ln ?_
 refine hK33 _ _ ?_
 refine rg ?_
 obtain ⟨z48, h49, hb⟩ := bd hb
 refine lp (.int .i64 z48) (pu_addc (a := v14_0) (b := 1) e14 rfl h49) ?_
 refine lp (.int .i64 z48) (pu_move rfl) ?_
 refine ln ?_
 obtain rfl := os hb
 exact hK25 m26' _ _ (Nat.lt_succ_self _) ⟨z48, (qf19_0.set x35.toNat v14_0), e2, e3, e12, e13, rfl, (chk_rng h49), hC.sel [0, 1] (by decide), lN hl0⟩
 replace hb := tf hq32 hb
 refine Wc.exit rfl ?_
 obtain rfl := os hb
 obtain rfl := (lX hl0).symm
 exact hK24 _ _ ⟨v14_0, qf19_0, e2, e3, hrv14_0, hC.sel [0] (by decide), hbK0⟩
 clear hb hC hl0
 rintro E51 w50 ⟨v14_0, qf19_0, e2, e3, hrv14_0, hC, hb⟩
 refine hK20 _ _ ?_
 refine Wc.seq fun K52 hK52 => ?_
 refine rg ?_
 refine lp (.slice A14 (((List.replicate (p_0.length : Int).toNat (0 : Int))).length) c15) (pu_move e3) ?_
 refine lp (.slice A14 (((List.replicate (p_0.length : Int).toNat (0 : Int))).length) c15) (pu_assign rfl) ?_
 refine ln ?_
 refine hK52 _ _ ?_
 obtain rfl := os hb
 refine Wc.ret ?_
 refine hKR _ _ ?_
 refine ⟨_, res1 Try.results23 (show RV _ _ _ (.tmp _) (.slice A14 (((List.replicate (p_0.length : Int).toNat (0 : Int))).length) c15) from rfl), _, rfl, A14, ((List.replicate (p_0.length : Int).toNat (0 : Int))).length, c15, rfl, hC.sel [0] (by decide)⟩
end Go.Proofs.Ytmlkiafidahnbaa
