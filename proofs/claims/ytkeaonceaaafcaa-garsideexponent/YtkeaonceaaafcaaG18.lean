/- The walks: part 18. -/
import Derived.Test.YtkeaonceaaafcaaS
import Derived.Test.YtkeaonceaaafcaaG0
set_option linter.unusedVariables false
set_option linter.unusedSimpArgs false
namespace Go.Proofs.Ytkeaonceaaafcaa
open Ev
set_option maxRecDepth 100000 in
set_option maxHeartbeats 4000000 in
theorem perm_Mul_ok (n : Nat) {w : World} {O0 : List Nat} (hO : ∀ k ∈ O0, k < w.heap.size) {Ap_0 : Option Addr} {mp_0 cp_0 : Nat} {p_0 : List Int} (hp_0 : Rep O0 w (.sl (.int .i64)) [.slice Ap_0 mp_0 cp_0] p_0) {Aq_1 : Option Addr} {mq_1 cq_1 : Nat} {q_1 : List Int} (hq_1 : Rep O0 w (.sl (.int .i64)) [.slice Aq_1 mq_1 cq_1] q_1) {r : (List Int) × Int} (hb : F.perm_Mul n p_0 q_1 = some r) :
    Calls Try.prog 25 #[.slice Ap_0 mp_0 cp_0, .slice Aq_1 mq_1 cq_1] w fun e w' => ∃ v, e = .returned v ∧ ∃ (A0 : Option Addr) (m0 c0 : Nat), v = .tuple #[.slice A0 m0 c0, .int .i64 r.2] ∧ I64 r.2 ∧ Cx (fun _ => False) O0 w w' [.own 3 (.int .i64) (.slice A0 m0 c0) r.1] := by
  unfold F.perm_Mul at hb
  have hC := Cx.start hO
  replace hC := hC.arg rfl hp_0
  replace hC := hC.arg rfl hq_1
  clear hO
  obtain ⟨rfl, hlp_0, hcp_0⟩ := hp_0.sl_len
  obtain ⟨rfl, hlq_1, hcq_1⟩ := hq_1.sl_len
  refine calls_of_Wc Try.func25 rfl (by rw [Try.ntmps25]; exact Nat.le_of_ble_eq_true rfl) fun KR hKR => ?_
  refine Wc.seq fun K3 hK3 => ?_
  refine Wc.region (by decide +kernel) ?_
  refine lex.pure (v := .slice none 0 0) (pu_assign rfl) ?_
  refine lex.pure (v := .int .i64 0) (pu_assign rfl) ?_
  refine lex.nil ?_
  refine hK3 _ _ ?_
  refine Wc.seq fun K4 hK4 => ?_
  refine Wc.seq fun K5 hK5 => ?_
  refine Wc.region (by decide +kernel) ?_
  refine lex.pure (v := .slice Ap_0 p_0.length cp_0) (pu_move rfl) ?_
  obtain ⟨y6, h7, hb⟩ := bd hb
  refine lex.cl (⟨_, _, op_call (vs := [.slice Ap_0 p_0.length cp_0]) Try.call31 rfl rfl rfl, perm_Valid_ok n hC.lt (hC.rd (i := 1) rfl) h7⟩) ?_
  rintro _ w8 ⟨rfl, hK⟩
  replace hC := hC.merge hK
  clear hK
  refine lex.pure (v := .bool (!y6)) (pu_not (q := y6) rfl) ?_
  refine lex.pure (v := .bool (!y6)) (pu_move rfl) ?_
  rcases bS (!y6) with hq9 | hq9
  · replace hb := (cT hq9).symm.trans hb
    refine lex.gskip (want_f rfl rfl (show _ = Value.bool (!y6) from rfl) hq9) ?_
    refine lex.gskip (want_f rfl rfl (show _ = Value.bool (!y6) from rfl) hq9) ?_
    refine lex.gskip (want_f rfl rfl (show _ = Value.bool (!y6) from rfl) hq9) ?_
    refine lex.pure (v := .bool true) (pu_pickT (q := (!y6)) rfl hq9 rfl) ?_
    refine lex.pure (v := .bool true) (pu_move rfl) ?_
    refine lex.gskip (want_f rfl rfl (show _ = Value.bool true from rfl) rfl) ?_
    refine lex.gskip (want_f rfl rfl (show _ = Value.bool true from rfl) rfl) ?_
    refine lex.gskip (want_f rfl rfl (show _ = Value.bool true from rfl) rfl) ?_
    refine lex.gskip (want_f rfl rfl (show _ = Value.bool true from rfl) rfl) ?_
    refine lex.gskip (want_f rfl rfl (show _ = Value.bool true from rfl) rfl) ?_
    refine lex.pure (v := .bool true) (pu_pickT (q := true) rfl rfl rfl) ?_
    refine lex.nil ?_
    refine hK5 _ _ ?_
    refine Wc.cond_true (rfl) ?_
    refine Wc.seq fun K10 hK10 => ?_
    refine Wc.region (by decide +kernel) ?_
    refine lex.pure (v := .slice none 0 0) (pu_assign rfl) ?_
    refine lex.pure (v := .int .i64 1) (pu_assign rfl) ?_
    refine lex.nil ?_
    refine hK10 _ _ ?_
    replace hC := hC.nil 3 (.int .i64)
    obtain rfl := Option.some.inj hb
    refine Wc.ret ?_
    refine hKR _ _ ?_
    refine ⟨_, res2 Try.results25 (show RV _ _ _ (.tmp _) (.slice none 0 0) from rfl) (show RV _ _ _ (.tmp _) (.int .i64 1) from rfl), _, rfl, none, 0, 0, rfl, (show I64 1 from by unfold I64; omega), hC.sel [0] (by decide)⟩
  · replace hb := (cF hq9).symm.trans hb
    refine lex.gpure (want_t rfl rfl (show _ = Value.bool (!y6) from rfl) hq9) (v := .slice Aq_1 q_1.length cq_1) (pu_move rfl) ?_
    obtain ⟨y12, h13, hb⟩ := bd hb
    refine lex.gcl (want_t rfl rfl (show _ = Value.bool (!y6) from rfl) hq9) (⟨_, _, op_call (vs := [.slice Aq_1 q_1.length cq_1]) Try.call31 rfl rfl rfl, perm_Valid_ok n hC.lt (hC.rd (i := 0) rfl) h13⟩) ?_
    rintro _ w14 ⟨rfl, hK⟩
    replace hC := hC.merge hK
    clear hK
    refine lex.gpure (want_t rfl rfl (show _ = Value.bool (!y6) from rfl) hq9) (v := .bool (!y12)) (pu_not (q := y12) rfl) ?_
    refine lex.pure (v := .bool (!y12)) (pu_pickF (q := (!y6)) rfl hq9 rfl) ?_
    refine lex.pure (v := .bool (!y12)) (pu_move rfl) ?_
    rcases bS (!y12) with hq15 | hq15
    · replace hb := (cT hq15).symm.trans hb
      refine lex.gskip (want_f rfl rfl (show _ = Value.bool (!y12) from rfl) hq15) ?_
      refine lex.gskip (want_f rfl rfl (show _ = Value.bool (!y12) from rfl) hq15) ?_
      refine lex.gskip (want_f rfl rfl (show _ = Value.bool (!y12) from rfl) hq15) ?_
      refine lex.gskip (want_f rfl rfl (show _ = Value.bool (!y12) from rfl) hq15) ?_
      refine lex.gskip (want_f rfl rfl (show _ = Value.bool (!y12) from rfl) hq15) ?_
      refine lex.pure (v := .bool true) (pu_pickT (q := (!y12)) rfl hq15 rfl) ?_
      refine lex.nil ?_
      refine hK5 _ _ ?_
      refine Wc.fresh fun E16 hE => ?_
      have e0 : E16 0 = .slice Ap_0 p_0.length cp_0 := (congrFun hE 0).trans rfl
      have e1 : E16 1 = .slice Aq_1 q_1.length cq_1 := (congrFun hE 1).trans rfl
      have e4 : E16 4 = .slice none 0 0 := (congrFun hE 4).trans rfl
      have e5 : E16 5 = .int .i64 0 := (congrFun hE 5).trans rfl
      have e23 : E16 23 = .bool true := (congrFun hE 23).trans rfl
      clear hE
      refine Wc.cond_true (e23) ?_
      refine Wc.seq fun K17 hK17 => ?_
      refine Wc.region (by decide +kernel) ?_
      refine lex.pure (v := .slice none 0 0) (pu_assign rfl) ?_
      refine lex.pure (v := .int .i64 1) (pu_assign rfl) ?_
      refine lex.nil ?_
      refine hK17 _ _ ?_
      replace hC := hC.nil 3 (.int .i64)
      obtain rfl := Option.some.inj hb
      refine Wc.ret ?_
      refine hKR _ _ ?_
      refine ⟨_, res2 Try.results25 (show RV _ _ _ (.tmp _) (.slice none 0 0) from rfl) (show RV _ _ _ (.tmp _) (.int .i64 1) from rfl), _, rfl, none, 0, 0, rfl, (show I64 1 from by unfold I64; omega), hC.sel [0] (by decide)⟩
    · replace hb := (cF hq15).symm.trans hb
      refine lex.gpure (want_t rfl rfl (show _ = Value.bool (!y12) from rfl) hq15) (v := .slice Ap_0 p_0.length cp_0) (pu_move rfl) ?_
      refine lex.gpure (want_t rfl rfl (show _ = Value.bool (!y12) from rfl) hq15) (v := .int .i64 (p_0.length : Int)) (pu_len (A := Ap_0) (n := p_0.length) (m := cp_0) Try.underlying43 rfl) ?_
      refine lex.gpure (want_t rfl rfl (show _ = Value.bool (!y12) from rfl) hq15) (v := .slice Aq_1 q_1.length cq_1) (pu_move rfl) ?_
      refine lex.gpure (want_t rfl rfl (show _ = Value.bool (!y12) from rfl) hq15) (v := .int .i64 (q_1.length : Int)) (pu_len (A := Aq_1) (n := q_1.length) (m := cq_1) Try.underlying43 rfl) ?_
      refine lex.gpure (want_t rfl rfl (show _ = Value.bool (!y12) from rfl) hq15) (v := .bool (!(decide ((p_0.length : Int) = (q_1.length : Int))))) (pu_neq (k := .i64) (a := (p_0.length : Int)) (b := (q_1.length : Int)) rfl rfl) ?_
      refine lex.pure (v := .bool (!(decide ((p_0.length : Int) = (q_1.length : Int))))) (pu_pickF (q := (!y12)) rfl hq15 rfl) ?_
      refine lex.nil ?_
      refine hK5 _ _ ?_
      refine Wc.fresh fun E19 hE => ?_
      have e0 : E19 0 = .slice Ap_0 p_0.length cp_0 := (congrFun hE 0).trans rfl
      have e1 : E19 1 = .slice Aq_1 q_1.length cq_1 := (congrFun hE 1).trans rfl
      have e4 : E19 4 = .slice none 0 0 := (congrFun hE 4).trans rfl
      have e5 : E19 5 = .int .i64 0 := (congrFun hE 5).trans rfl
      have e23 : E19 23 = .bool (!(decide ((p_0.length : Int) = (q_1.length : Int)))) := (congrFun hE 23).trans rfl
      clear hE
      refine Wc.cond (t := (!(decide ((p_0.length : Int) = (q_1.length : Int))))) (e23) (fun hq20 => ?_) (fun hq20 => ?_)
      · replace hb := (cT hq20).symm.trans hb
        refine Wc.seq fun K21 hK21 => ?_
        refine Wc.region (by decide +kernel) ?_
        refine lex.pure (v := .slice none 0 0) (pu_assign rfl) ?_
        refine lex.pure (v := .int .i64 1) (pu_assign rfl) ?_
        refine lex.nil ?_
        refine hK21 _ _ ?_
        replace hC := hC.nil 3 (.int .i64)
        obtain rfl := Option.some.inj hb
        refine Wc.ret ?_
        refine hKR _ _ ?_
        refine ⟨_, res2 Try.results25 (show RV _ _ _ (.tmp _) (.slice none 0 0) from rfl) (show RV _ _ _ (.tmp _) (.int .i64 1) from rfl), _, rfl, none, 0, 0, rfl, (show I64 1 from by unfold I64; omega), hC.sel [0] (by decide)⟩
      · replace hb := (cF hq20).symm.trans hb
        refine Wc.skip ?_
        refine hK4 _ _ ?_
        refine Wc.seq fun K23 hK23 => ?_
        refine Wc.region (by decide +kernel) ?_
        refine lex.pure (v := .slice Ap_0 p_0.length cp_0) (pu_move e0) ?_
        refine lex.pure (v := .int .i64 (p_0.length : Int)) (pu_len (A := Ap_0) (n := p_0.length) (m := cp_0) Try.underlying43 rfl) ?_
        obtain ⟨u24, h25, hb⟩ := bd hb
        refine lex.op (hC.make (s := (.int .i64)) (n := (p_0.length : Int)) Try.underlying43 Try.type3 rfl rfl rfl rfl rfl (pos_some h25).1 (pos_some h25).2 (by decide)) ?_
        rintro _ w30 ⟨A26, c27, rfl, hl28, hc29, hC, hF, hN⟩
        clear hF hN
        refine lex.pure (v := .slice A26 (((List.replicate (p_0.length : Int).toNat (0 : Int))).length) c27) (pu_assign rfl) ?_
        refine lex.nil ?_
        refine hK23 _ _ ?_
        refine Wc.seq fun K32 hK32 => ?_
        refine Wc.seq fun K33 hK33 => ?_
        refine Wc.region (by decide +kernel) ?_
        refine lex.pure (v := .slice Ap_0 p_0.length cp_0) (pu_move e0) ?_
        refine lex.pure (v := .int .i64 (p_0.length : Int)) (pu_len (A := Ap_0) (n := p_0.length) (m := cp_0) Try.underlying43 rfl) ?_
        refine lex.pure (v := .int .i64 0) (pu_move rfl) ?_
        refine lex.nil ?_
        refine hK33 _ _ ?_
        obtain ⟨o34, hl0, hb⟩ := bd hb
        refine Wc.cut (fun E wv => ∃ (v29_0 : Int) (qf31_0 : List Int), E 4 = .slice none 0 0 ∧ E 5 = .int .i64 0 ∧ E 6 = .slice A26 (((List.replicate (p_0.length : Int).toNat (0 : Int))).length) c27 ∧ I64 v29_0 ∧ Cx (fun _ => False) O0 w wv [.own 3 (.int .i64) (.slice A26 (((List.replicate (p_0.length : Int).toNat (0 : Int))).length) c27) qf31_0] ∧ (some (qf31_0, 0)) = some r) (fun K35 hK35 => ?_) ?_
        · refine Wc.block ?_
          refine Wc.loop (fun m E wv => ∃ (v29_0 : Int) (qf31_0 : List Int), E 1 = .slice Aq_1 q_1.length cq_1 ∧ E 4 = .slice none 0 0 ∧ E 5 = .int .i64 0 ∧ E 6 = .slice A26 (((List.replicate (p_0.length : Int).toNat (0 : Int))).length) c27 ∧ E 27 = .slice Ap_0 p_0.length cp_0 ∧ E 28 = .int .i64 (p_0.length : Int) ∧ E 29 = .int .i64 v29_0 ∧ I64 v29_0 ∧ Cx (fun _ => False) O0 w wv [.ro (.sl (.int .i64)) [.slice Aq_1 q_1.length cq_1] q_1, .own 3 (.int .i64) (.slice A26 (((List.replicate (p_0.length : Int).toNat (0 : Int))).length) c27) qf31_0, .ro (.sl (.int .i64)) [.slice Ap_0 p_0.length cp_0] p_0] ∧ loopN m (F.perm_Mul_b0 n p_0 q_1) (v29_0, qf31_0) = some o34) n ⟨0, (List.replicate (p_0.length : Int).toNat (0 : Int)), e1, e4, e5, rfl, rfl, rfl, rfl, (show I64 0 from by unfold I64; omega), hC.sel [1, 0, 2] (by decide), hl0⟩ ?_
          have hbK0 := hb
          clear hb hC hl0
          rintro m37 E39 w38 ⟨v29_0, qf31_0, e1, e4, e5, e6, e27, e28, e29, hrv29_0, hC, hl0⟩ K36 hK36
          obtain ⟨m37', o40, rfl, hb, hl0⟩ := loopN_some hl0
          unfold F.perm_Mul_b0 at hb
          refine Wc.seq fun K41 hK41 => ?_
          refine Wc.region (by decide +kernel) ?_
          refine lex.pure (v := .bool (decide (v29_0 < (p_0.length : Int)))) (pu_lss (k := .i64) (a := v29_0) (b := (p_0.length : Int)) e29 e28) ?_
          refine lex.nil ?_
          refine hK41 _ _ ?_
          refine Wc.seq fun K42 hK42 => ?_
          refine Wc.cond (t := (decide (v29_0 < (p_0.length : Int)))) (rfl) (fun hq43 => ?_) (fun hq43 => ?_)
          · replace hb := (cT hq43).symm.trans hb
            refine Wc.skip ?_
            refine hK42 _ _ ?_
            refine Wc.seq fun K44 hK44 => ?_
            refine Wc.block ?_
            refine Wc.seq fun K45 hK45 => ?_
            refine Wc.region (by decide +kernel) ?_
            refine lex.pure (v := .int .i64 v29_0) (pu_move e29) ?_
            obtain ⟨x46, h47, hb⟩ := bd hb
            obtain ⟨ad48, cs49, hA, hc50, hr51⟩ := hC.elr (i := 2) rfl (get_some h47).2
            subst hA
            refine lex.pure (v := .pointer (some (ad48.add (v29_0.toNat * 1)))) (pu_index (a := v29_0) Try.underlying43 Try.sizeOf3 e27 e29 (get_some h47).1) ?_
            obtain ⟨rfl, hr51'⟩ := hr51
            refine lex.val (v := .int .i64 x46) (ld_one Try.isAgg3 rfl (hc50 0 _ rfl)) ?_
            refine lex.pure (v := .int .i64 v29_0) (pu_assign rfl) ?_
            refine lex.pure (v := .int .i64 x46) (pu_assign rfl) ?_
            refine lex.nil ?_
            refine hK45 _ _ ?_
            refine Wc.region (by decide +kernel) ?_
            refine lex.pure (v := .slice A26 (((List.replicate (p_0.length : Int).toNat (0 : Int))).length) c27) (pu_move e6) ?_
            refine lex.pure (v := .int .i64 v29_0) (pu_move rfl) ?_
            refine lex.pure (v := .slice Aq_1 q_1.length cq_1) (pu_move e1) ?_
            refine lex.pure (v := .int .i64 x46) (pu_move rfl) ?_
            obtain ⟨x52, h53, hb⟩ := bd hb
            obtain ⟨ad54, cs55, hA, hc56, hr57⟩ := hC.elr (i := 0) rfl (get_some h53).2
            subst hA
            refine lex.pure (v := .pointer (some (ad54.add (x46.toNat * 1)))) (pu_index (a := x46) Try.underlying43 Try.sizeOf3 rfl rfl (get_some h53).1) ?_
            obtain ⟨rfl, hr57'⟩ := hr57
            refine lex.val (v := .int .i64 x52) (ld_one Try.isAgg3 rfl (hc56 0 _ rfl)) ?_
            obtain ⟨x58, h59, hb⟩ := bd hb
            obtain ⟨ad60, cs61, hA, hc62, hr63⟩ := hC.elo (i := 1) rfl (get_some h59).2
            subst hA
            refine lex.pure (v := .pointer (some (ad60.add (v29_0.toNat * 1)))) (pu_index (a := v29_0) Try.underlying43 Try.sizeOf3 rfl rfl (by rw [(hC.ow (i := 1) rfl).sl_len.1]; exact (get_some h59).1)) ?_
            refine lex.sk (hC.put (i := 1) rfl rfl Try.sizeOf3 (k := v29_0.toNat) (a := x52) (by have := (get_some h59).1; simp at this ⊢; omega) (⟨rfl, I64.wr (wrap_I64 hr57')⟩) rfl rfl rfl) ?_
            rintro w64 ⟨hC, hF⟩
            refine lex.nil ?_
            refine hK44 _ _ ?_
            refine Wc.region (by decide +kernel) ?_
            obtain ⟨z65, h66, hb⟩ := bd hb
            refine lex.pure (v := .int .i64 z65) (pu_addc (a := v29_0) (b := 1) e29 rfl h66) ?_
            refine lex.pure (v := .int .i64 z65) (pu_move rfl) ?_
            refine lex.nil ?_
            obtain rfl := Option.some.inj hb
            exact hK36 m37' _ _ (Nat.lt_succ_self _) ⟨z65, (qf31_0.set v29_0.toNat x52), e1, e4, e5, e6, e27, e28, rfl, (chk_rng h66), hC.sel [0, 1, 2] (by decide), lN hl0⟩
          · replace hb := (cF hq43).symm.trans hb
            refine Wc.exit rfl ?_
            obtain rfl := Option.some.inj hb
            obtain rfl := (lX hl0).symm
            exact hK35 _ _ ⟨v29_0, qf31_0, e4, e5, e6, hrv29_0, hC.sel [1] (by decide), hbK0⟩
        · clear hb hC hl0
          rintro E68 w67 ⟨v29_0, qf31_0, e4, e5, e6, hrv29_0, hC, hb⟩
          refine hK32 _ _ ?_
          refine Wc.seq fun K69 hK69 => ?_
          refine Wc.region (by decide +kernel) ?_
          refine lex.pure (v := .slice A26 (((List.replicate (p_0.length : Int).toNat (0 : Int))).length) c27) (pu_move e6) ?_
          refine lex.pure (v := .slice A26 (((List.replicate (p_0.length : Int).toNat (0 : Int))).length) c27) (pu_assign rfl) ?_
          refine lex.pure (v := .int .i64 0) (pu_assign rfl) ?_
          refine lex.nil ?_
          refine hK69 _ _ ?_
          obtain rfl := Option.some.inj hb
          refine Wc.ret ?_
          refine hKR _ _ ?_
          refine ⟨_, res2 Try.results25 (show RV _ _ _ (.tmp _) (.slice A26 (((List.replicate (p_0.length : Int).toNat (0 : Int))).length) c27) from rfl) (show RV _ _ _ (.tmp _) (.int .i64 0) from rfl), _, rfl, A26, ((List.replicate (p_0.length : Int).toNat (0 : Int))).length, c27, rfl, (show I64 0 from by unfold I64; omega), hC.sel [0] (by decide)⟩

set_option maxRecDepth 100000 in
set_option maxHeartbeats 4000000 in
theorem braid_Exponent_ok (n : Nat) {w : World} {O0 : List Nat} (hO : ∀ k ∈ O0, k < w.heap.size) {b_0_0 : Int} (hb_0_0 : I64 b_0_0) {Ab_0_1 : Option Addr} {mb_0_1 cb_0_1 : Nat} {b_0_1 : List Int} (hb_0_1 : Rep O0 w (.sl (.int .i64)) [.slice Ab_0_1 mb_0_1 cb_0_1] b_0_1) {r : Int} (hb : F.braid_Exponent n b_0_0 b_0_1 = some r) :
    Calls Try.prog 27 #[.agg #[.int .i64 b_0_0, .slice Ab_0_1 mb_0_1 cb_0_1]] w fun e w' => ∃ v, e = .returned v ∧ v = .int .i64 r ∧ I64 r ∧ Cx (fun _ => False) O0 w w' [] := by
  unfold F.braid_Exponent at hb
  have hC := Cx.start hO
  replace hC := hC.arg rfl hb_0_1
  clear hO
  obtain ⟨rfl, hlb_0_1, hcb_0_1⟩ := hb_0_1.sl_len
  refine calls_of_Wc Try.func27 rfl (by rw [Try.ntmps27]; exact Nat.le_of_ble_eq_true rfl) fun KR hKR => ?_
  refine Wc.seq fun K2 hK2 => ?_
  refine Wc.region (by decide +kernel) ?_
  refine lex.op (hC.box (cs := [.int .i64 b_0_0, .slice Ab_0_1 b_0_1.length cb_0_1]) rfl rfl) ?_
  rintro _ w4 ⟨g3, rfl, hC, hF, hG⟩
  clear hG
  refine lex.pure (v := .int .i64 0) (pu_assign rfl) ?_
  refine lex.nil ?_
  refine hK2 _ _ ?_
  refine Wc.seq fun K6 hK6 => ?_
  refine Wc.seq fun K7 hK7 => ?_
  refine Wc.region (by decide +kernel) ?_
  refine lex.val (v := .agg #[.int .i64 b_0_0, .slice Ab_0_1 b_0_1.length cb_0_1]) (ld_blk (hC.bx (i := 0) rfl) Try.isAgg24 Try.sizeOf24 rfl) ?_
  obtain ⟨y8, h9, hb⟩ := bd hb
  refine lex.cl (⟨_, _, op_call (vs := [.agg #[.int .i64 b_0_0, .slice Ab_0_1 b_0_1.length cb_0_1]]) Try.call14 rfl rfl rfl, braid_Valid_ok n hC.lt hb_0_0 (hC.rd (i := 1) rfl) h9⟩) ?_
  rintro _ w10 ⟨rfl, hK⟩
  replace hC := hC.merge hK
  clear hK
  refine lex.pure (v := .bool (!y8)) (pu_not (q := y8) rfl) ?_
  refine lex.nil ?_
  refine hK7 _ _ ?_
  refine Wc.cond (t := (!y8)) (rfl) (fun hq11 => ?_) (fun hq11 => ?_)
  · replace hb := (cT hq11).symm.trans hb
    refine Wc.seq fun K12 hK12 => ?_
    refine Wc.region (by decide +kernel) ?_
    refine lex.pure (v := .int .i64 0) (pu_assign rfl) ?_
    refine lex.nil ?_
    refine hK12 _ _ ?_
    obtain rfl := Option.some.inj hb
    refine Wc.ret ?_
    refine hKR _ _ ?_
    refine ⟨_, res1 Try.results27 (show RV _ _ _ (.tmp _) (.int .i64 0) from rfl), _, rfl, rfl, (show I64 0 from by unfold I64; omega), hC.sel [] (by decide)⟩
  · replace hb := (cF hq11).symm.trans hb
    refine Wc.skip ?_
    refine hK6 _ _ ?_
    refine Wc.seq fun K13 hK13 => ?_
    refine Wc.region (by decide +kernel) ?_
    refine lex.pure (v := .int .i64 0) (pu_assign rfl) ?_
    refine lex.nil ?_
    refine hK13 _ _ ?_
    refine Wc.seq fun K14 hK14 => ?_
    refine Wc.seq fun K15 hK15 => ?_
    refine Wc.region (by decide +kernel) ?_
    refine lex.pure (v := .pointer (some ((⟨g3, 0, none⟩ : Addr).add 1))) (pu_field (sz := 1) Try.underlying24 rfl Try.sizeOf22 (by decide) rfl rfl) ?_
    refine lex.val (v := .slice Ab_0_1 b_0_1.length cb_0_1) (ld_fld (hC.bx (i := 0) rfl) Try.isAgg22 rfl rfl) ?_
    refine lex.pure (v := .int .i64 (b_0_1.length : Int)) (pu_len (A := Ab_0_1) (n := b_0_1.length) (m := cb_0_1) Try.underlying22 rfl) ?_
    refine lex.pure (v := .int .i64 0) (pu_move rfl) ?_
    refine lex.nil ?_
    refine hK15 _ _ ?_
    refine Wc.fresh fun E16 hE => ?_
    have e2 : E16 2 = .int .i64 0 := (congrFun hE 2).trans rfl
    have e3 : E16 3 = .int .i64 0 := (congrFun hE 3).trans rfl
    have e10 : E16 10 = .slice Ab_0_1 b_0_1.length cb_0_1 := (congrFun hE 10).trans rfl
    have e11 : E16 11 = .int .i64 (b_0_1.length : Int) := (congrFun hE 11).trans rfl
    have e12 : E16 12 = .int .i64 0 := (congrFun hE 12).trans rfl
    clear hE
    obtain ⟨o17, hl0, hb⟩ := bd hb
    refine Wc.cut (fun E wv => ∃ (v3_0 : Int) (v12_0 : Int), E 2 = .int .i64 0 ∧ E 3 = .int .i64 v3_0 ∧ I64 v3_0 ∧ I64 v12_0 ∧ Cx (fun _ => False) O0 w wv [] ∧ (some v3_0) = some r) (fun K18 hK18 => ?_) ?_
    · refine Wc.block ?_
      refine Wc.loop (fun m E wv => ∃ (v3_0 : Int) (v12_0 : Int), E 2 = .int .i64 0 ∧ E 3 = .int .i64 v3_0 ∧ E 10 = .slice Ab_0_1 b_0_1.length cb_0_1 ∧ E 11 = .int .i64 (b_0_1.length : Int) ∧ E 12 = .int .i64 v12_0 ∧ I64 v3_0 ∧ I64 v12_0 ∧ Cx (fun _ => False) O0 w wv [.ro (.sl (.int .i64)) [.slice Ab_0_1 b_0_1.length cb_0_1] b_0_1] ∧ loopN m (F.braid_Exponent_b0 n b_0_1) (v3_0, v12_0) = some o17) n ⟨0, 0, e2, e3, e10, e11, e12, (show I64 0 from by unfold I64; omega), (show I64 0 from by unfold I64; omega), hC.sel [1] (by decide), hl0⟩ ?_
      have hbK0 := hb
      clear hb hC hl0
      rintro m20 E22 w21 ⟨v3_0, v12_0, e2, e3, e10, e11, e12, hrv3_0, hrv12_0, hC, hl0⟩ K19 hK19
      obtain ⟨m20', o23, rfl, hb, hl0⟩ := loopN_some hl0
      unfold F.braid_Exponent_b0 at hb
      refine Wc.seq fun K24 hK24 => ?_
      refine Wc.region (by decide +kernel) ?_
      refine lex.pure (v := .bool (decide (v12_0 < (b_0_1.length : Int)))) (pu_lss (k := .i64) (a := v12_0) (b := (b_0_1.length : Int)) e12 e11) ?_
      refine lex.nil ?_
      refine hK24 _ _ ?_
      refine Wc.seq fun K25 hK25 => ?_
      refine Wc.cond (t := (decide (v12_0 < (b_0_1.length : Int)))) (rfl) (fun hq26 => ?_) (fun hq26 => ?_)
      · replace hb := (cT hq26).symm.trans hb
        refine Wc.skip ?_
        refine hK25 _ _ ?_
        refine Wc.seq fun K27 hK27 => ?_
        refine Wc.block ?_
        refine Wc.seq fun K28 hK28 => ?_
        refine Wc.region (by decide +kernel) ?_
        obtain ⟨x29, h30, hb⟩ := bd hb
        obtain ⟨ad31, cs32, hA, hc33, hr34⟩ := hC.elr (i := 0) rfl (get_some h30).2
        subst hA
        refine lex.pure (v := .pointer (some (ad31.add (v12_0.toNat * 1)))) (pu_index (a := v12_0) Try.underlying22 Try.sizeOf3 e10 e12 (get_some h30).1) ?_
        obtain ⟨rfl, hr34'⟩ := hr34
        refine lex.val (v := .int .i64 x29) (ld_one Try.isAgg3 rfl (hc33 0 _ rfl)) ?_
        refine lex.pure (v := .int .i64 x29) (pu_assign rfl) ?_
        refine lex.nil ?_
        refine hK28 _ _ ?_
        refine Wc.seq fun K35 hK35 => ?_
        refine Wc.region (by decide +kernel) ?_
        refine lex.pure (v := .int .i64 x29) (pu_move rfl) ?_
        refine lex.pure (v := .bool (decide (0 < x29))) (pu_gtr (k := .i64) (a := x29) (b := 0) rfl rfl) ?_
        refine lex.nil ?_
        refine hK35 _ _ ?_
        refine Wc.cond (t := (decide (0 < x29))) (rfl) (fun hq36 => ?_) (fun hq36 => ?_)
        · replace hb := (cT hq36).symm.trans hb
          refine Wc.region (by decide +kernel) ?_
          refine lex.pure (v := .int .i64 v3_0) (pu_move e3) ?_
          obtain ⟨z37, h38, hb⟩ := bd hb
          refine lex.pure (v := .int .i64 z37) (pu_addc (a := v3_0) (b := 1) rfl rfl h38) ?_
          refine lex.pure (v := .int .i64 z37) (pu_assign rfl) ?_
          refine lex.nil ?_
          refine hK27 _ _ ?_
          refine Wc.region (by decide +kernel) ?_
          obtain ⟨z39, h40, hb⟩ := bd hb
          refine lex.pure (v := .int .i64 z39) (pu_addc (a := v12_0) (b := 1) e12 rfl h40) ?_
          refine lex.pure (v := .int .i64 z39) (pu_move rfl) ?_
          refine lex.nil ?_
          obtain rfl := Option.some.inj hb
          exact hK19 m20' _ _ (Nat.lt_succ_self _) ⟨z37, z39, e2, rfl, e10, e11, rfl, (chk_rng h38), (chk_rng h40), hC.sel [0] (by decide), lN hl0⟩
        · replace hb := (cF hq36).symm.trans hb
          refine Wc.region (by decide +kernel) ?_
          refine lex.pure (v := .int .i64 v3_0) (pu_move e3) ?_
          obtain ⟨z41, h42, hb⟩ := bd hb
          refine lex.pure (v := .int .i64 z41) (pu_subc (a := v3_0) (b := 1) rfl rfl h42) ?_
          refine lex.pure (v := .int .i64 z41) (pu_assign rfl) ?_
          refine lex.nil ?_
          refine hK27 _ _ ?_
          refine Wc.region (by decide +kernel) ?_
          obtain ⟨z43, h44, hb⟩ := bd hb
          refine lex.pure (v := .int .i64 z43) (pu_addc (a := v12_0) (b := 1) e12 rfl h44) ?_
          refine lex.pure (v := .int .i64 z43) (pu_move rfl) ?_
          refine lex.nil ?_
          obtain rfl := Option.some.inj hb
          exact hK19 m20' _ _ (Nat.lt_succ_self _) ⟨z41, z43, e2, rfl, e10, e11, rfl, (chk_rng h42), (chk_rng h44), hC.sel [0] (by decide), lN hl0⟩
      · replace hb := (cF hq26).symm.trans hb
        refine Wc.exit rfl ?_
        obtain rfl := Option.some.inj hb
        obtain rfl := (lX hl0).symm
        exact hK18 _ _ ⟨v3_0, v12_0, e2, e3, hrv3_0, hrv12_0, hC.sel [] (by decide), hbK0⟩
    · clear hb hC hl0
      rintro E46 w45 ⟨v3_0, v12_0, e2, e3, hrv3_0, hrv12_0, hC, hb⟩
      refine hK14 _ _ ?_
      refine Wc.seq fun K47 hK47 => ?_
      refine Wc.region (by decide +kernel) ?_
      refine lex.pure (v := .int .i64 v3_0) (pu_move e3) ?_
      refine lex.pure (v := .int .i64 v3_0) (pu_assign rfl) ?_
      refine lex.nil ?_
      refine hK47 _ _ ?_
      obtain rfl := Option.some.inj hb
      refine Wc.ret ?_
      refine hKR _ _ ?_
      refine ⟨_, res1 Try.results27 (show RV _ _ _ (.tmp _) (.int .i64 v3_0) from rfl), _, rfl, rfl, hrv3_0, hC.sel [] (by decide)⟩
end Go.Proofs.Ytkeaonceaaafcaa
