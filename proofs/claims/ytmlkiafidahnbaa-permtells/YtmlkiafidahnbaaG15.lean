/- The walks: part 15. -/
import Derived.Test.YtmlkiafidahnbaaS
import Derived.Test.YtmlkiafidahnbaaG0
import Derived.Test.YtmlkiafidahnbaaG1
import Derived.Test.YtmlkiafidahnbaaG2
import Derived.Test.YtmlkiafidahnbaaG5
import Derived.Test.YtmlkiafidahnbaaG9
import Derived.Test.YtmlkiafidahnbaaG11
import Derived.Test.YtmlkiafidahnbaaG12
import Derived.Test.YtmlkiafidahnbaaG13
import Derived.Test.YtmlkiafidahnbaaG14
set_option linter.unusedVariables false
set_option linter.unusedSimpArgs false
namespace Go.Proofs.Ytmlkiafidahnbaa
open Ev
set_option maxRecDepth 100000 in
set_option maxHeartbeats 4000000 in
theorem law30_PermTells_ok (n : Nat) {w : World} {O0 : List Nat} (hO : ∀ k ∈ O0, k < w.heap.size) {Ap_0 : Option Addr} {mp_0 cp_0 : Nat} {p_0 : List Int} (hp_0 : Rep O0 w (.sl (.int .i64)) [.slice Ap_0 mp_0 cp_0] p_0) {Aq_1 : Option Addr} {mq_1 cq_1 : Nat} {q_1 : List Int} (hq_1 : Rep O0 w (.sl (.int .i64)) [.slice Aq_1 mq_1 cq_1] q_1) {r : Bool} (hb : F.law30_PermTells n p_0 q_1 = some r) :
    Calls Try.prog 5 #[.slice Ap_0 mp_0 cp_0, .slice Aq_1 mq_1 cq_1] w fun e w' => ∃ v, e = .returned v ∧ v = .bool r ∧ Cx (fun _ => False) O0 w w' [] := by
  unfold F.law30_PermTells at hb
  have hC := Cx.start hO
  replace hC := hC.arg rfl hp_0
  replace hC := hC.arg rfl hq_1
  clear hO
  obtain ⟨rfl, hlp_0, hcp_0⟩ := hp_0.sl_len
  obtain ⟨rfl, hlq_1, hcq_1⟩ := hq_1.sl_len
  refine calls_of_Wc Try.func5 rfl (by rw [Try.ntmps5]; exact Nat.le_of_ble_eq_true rfl) fun KR hKR => ?_
  refine Wc.seq fun K3 hK3 => ?_
  refine Wc.region (by decide +kernel) ?_
  refine lex.pure (v := .bool false) (pu_assign rfl) ?_
  refine lex.nil ?_
  refine hK3 _ _ ?_
  refine Wc.seq fun K4 hK4 => ?_
  refine Wc.seq fun K5 hK5 => ?_
  refine Wc.region (by decide +kernel) ?_
  obtain ⟨y6, h7, hb⟩ := bd hb
  refine lex.cl (⟨_, _, op_call (vs := []) Try.call10 rfl rfl rfl, law30_awake_ok n hC.lt  h7⟩) ?_
  rintro _ w8 ⟨rfl, hK⟩
  replace hC := hC.merge hK
  clear hK
  refine lex.pure (v := .bool (!y6)) (pu_not (q := y6) rfl) ?_
  refine lex.pure (v := .bool (!y6)) (pu_move rfl) ?_
  rcases bS (!y6) with hq9 | hq9
  · replace hb := (cT hq9).symm.trans hb
    refine lex.gskip (want_f rfl rfl (show _ = Value.bool (!y6) from rfl) hq9) ?_
    refine lex.gskip (want_f rfl rfl (show _ = Value.bool (!y6) from rfl) hq9) ?_
    refine lex.gskip (want_f rfl rfl (show _ = Value.bool (!y6) from rfl) hq9) ?_
    refine lex.pure (v := .bool true) (pu_pickT (q := (!y6)) rfl hq9 rfl) ?_
    refine lex.pure (v := .bool true) (pu_move rfl) ?_
    refine lex.gskip (want_f rfl rfl (show _ = Value.bool true from rfl) rfl) ?_
    refine lex.gskip (want_f rfl rfl (show _ = Value.bool true from rfl) rfl) ?_
    refine lex.gskip (want_f rfl rfl (show _ = Value.bool true from rfl) rfl) ?_
    refine lex.pure (v := .bool true) (pu_pickT (q := true) rfl rfl rfl) ?_
    refine lex.nil ?_
    refine hK5 _ _ ?_
    refine Wc.cond_true (rfl) ?_
    refine Wc.seq fun K10 hK10 => ?_
    refine Wc.region (by decide +kernel) ?_
    obtain ⟨y11, h12, hb⟩ := bd hb
    refine lex.cl (⟨_, _, op_call (vs := []) Try.call10 rfl rfl rfl, law30_awake_ok n hC.lt  h12⟩) ?_
    rintro _ w13 ⟨rfl, hK⟩
    replace hC := hC.merge hK
    clear hK
    refine lex.pure (v := .bool y11) (pu_assign rfl) ?_
    refine lex.nil ?_
    refine hK10 _ _ ?_
    obtain rfl := Option.some.inj hb
    refine Wc.ret ?_
    refine hKR _ _ ?_
    refine ⟨_, res1 Try.results5 (show RV _ _ _ (.tmp _) (.bool y11) from rfl), _, rfl, rfl, hC.sel [] (by decide)⟩
  · replace hb := (cF hq9).symm.trans hb
    refine lex.gpure (want_t rfl rfl (show _ = Value.bool (!y6) from rfl) hq9) (v := .slice Ap_0 p_0.length cp_0) (pu_move rfl) ?_
    refine lex.gpure (want_t rfl rfl (show _ = Value.bool (!y6) from rfl) hq9) (v := .int .i64 (p_0.length : Int)) (pu_len (A := Ap_0) (n := p_0.length) (m := cp_0) Try.underlying28 rfl) ?_
    refine lex.gpure (want_t rfl rfl (show _ = Value.bool (!y6) from rfl) hq9) (v := .bool (decide (30 < (p_0.length : Int)))) (pu_gtr (k := .i64) (a := (p_0.length : Int)) (b := 30) rfl rfl) ?_
    refine lex.pure (v := .bool (decide (30 < (p_0.length : Int)))) (pu_pickF (q := (!y6)) rfl hq9 rfl) ?_
    refine lex.pure (v := .bool (decide (30 < (p_0.length : Int)))) (pu_move rfl) ?_
    rcases bS (decide (30 < (p_0.length : Int))) with hq14 | hq14
    · replace hb := (cT hq14).symm.trans hb
      refine lex.gskip (want_f rfl rfl (show _ = Value.bool (decide (30 < (p_0.length : Int))) from rfl) hq14) ?_
      refine lex.gskip (want_f rfl rfl (show _ = Value.bool (decide (30 < (p_0.length : Int))) from rfl) hq14) ?_
      refine lex.gskip (want_f rfl rfl (show _ = Value.bool (decide (30 < (p_0.length : Int))) from rfl) hq14) ?_
      refine lex.pure (v := .bool true) (pu_pickT (q := (decide (30 < (p_0.length : Int)))) rfl hq14 rfl) ?_
      refine lex.nil ?_
      refine hK5 _ _ ?_
      refine Wc.fresh fun E15 hE => ?_
      have e0 : E15 0 = .slice Ap_0 p_0.length cp_0 := (congrFun hE 0).trans rfl
      have e1 : E15 1 = .slice Aq_1 q_1.length cq_1 := (congrFun hE 1).trans rfl
      have e4 : E15 4 = .bool false := (congrFun hE 4).trans rfl
      have e19 : E15 19 = .bool true := (congrFun hE 19).trans rfl
      clear hE
      refine Wc.cond_true (e19) ?_
      refine Wc.seq fun K16 hK16 => ?_
      refine Wc.region (by decide +kernel) ?_
      obtain ⟨y17, h18, hb⟩ := bd hb
      refine lex.cl (⟨_, _, op_call (vs := []) Try.call10 rfl rfl rfl, law30_awake_ok n hC.lt  h18⟩) ?_
      rintro _ w19 ⟨rfl, hK⟩
      replace hC := hC.merge hK
      clear hK
      refine lex.pure (v := .bool y17) (pu_assign rfl) ?_
      refine lex.nil ?_
      refine hK16 _ _ ?_
      obtain rfl := Option.some.inj hb
      refine Wc.ret ?_
      refine hKR _ _ ?_
      refine ⟨_, res1 Try.results5 (show RV _ _ _ (.tmp _) (.bool y17) from rfl), _, rfl, rfl, hC.sel [] (by decide)⟩
    · replace hb := (cF hq14).symm.trans hb
      refine lex.gpure (want_t rfl rfl (show _ = Value.bool (decide (30 < (p_0.length : Int))) from rfl) hq14) (v := .slice Aq_1 q_1.length cq_1) (pu_move rfl) ?_
      refine lex.gpure (want_t rfl rfl (show _ = Value.bool (decide (30 < (p_0.length : Int))) from rfl) hq14) (v := .int .i64 (q_1.length : Int)) (pu_len (A := Aq_1) (n := q_1.length) (m := cq_1) Try.underlying28 rfl) ?_
      refine lex.gpure (want_t rfl rfl (show _ = Value.bool (decide (30 < (p_0.length : Int))) from rfl) hq14) (v := .bool (decide (30 < (q_1.length : Int)))) (pu_gtr (k := .i64) (a := (q_1.length : Int)) (b := 30) rfl rfl) ?_
      refine lex.pure (v := .bool (decide (30 < (q_1.length : Int)))) (pu_pickF (q := (decide (30 < (p_0.length : Int)))) rfl hq14 rfl) ?_
      refine lex.nil ?_
      refine hK5 _ _ ?_
      refine Wc.fresh fun E20 hE => ?_
      have e0 : E20 0 = .slice Ap_0 p_0.length cp_0 := (congrFun hE 0).trans rfl
      have e1 : E20 1 = .slice Aq_1 q_1.length cq_1 := (congrFun hE 1).trans rfl
      have e4 : E20 4 = .bool false := (congrFun hE 4).trans rfl
      have e19 : E20 19 = .bool (decide (30 < (q_1.length : Int))) := (congrFun hE 19).trans rfl
      clear hE
      refine Wc.cond (t := (decide (30 < (q_1.length : Int)))) (e19) (fun hq21 => ?_) (fun hq21 => ?_)
      · replace hb := (cT hq21).symm.trans hb
        refine Wc.seq fun K22 hK22 => ?_
        refine Wc.region (by decide +kernel) ?_
        obtain ⟨y23, h24, hb⟩ := bd hb
        refine lex.cl (⟨_, _, op_call (vs := []) Try.call10 rfl rfl rfl, law30_awake_ok n hC.lt  h24⟩) ?_
        rintro _ w25 ⟨rfl, hK⟩
        replace hC := hC.merge hK
        clear hK
        refine lex.pure (v := .bool y23) (pu_assign rfl) ?_
        refine lex.nil ?_
        refine hK22 _ _ ?_
        obtain rfl := Option.some.inj hb
        refine Wc.ret ?_
        refine hKR _ _ ?_
        refine ⟨_, res1 Try.results5 (show RV _ _ _ (.tmp _) (.bool y23) from rfl), _, rfl, rfl, hC.sel [] (by decide)⟩
      · replace hb := (cF hq21).symm.trans hb
        refine Wc.skip ?_
        refine hK4 _ _ ?_
        refine Wc.seq fun K26 hK26 => ?_
        refine Wc.region (by decide +kernel) ?_
        refine lex.pure (v := .slice Ap_0 p_0.length cp_0) (pu_move e0) ?_
        obtain ⟨y27, h28, hb⟩ := bd hb
        refine lex.cl (⟨_, _, op_call (vs := [.slice Ap_0 p_0.length cp_0]) Try.call18 rfl rfl rfl, ref30_Valid_ok n hC.lt (hC.rd (i := 1) rfl) h28⟩) ?_
        rintro _ w29 ⟨rfl, hK⟩
        replace hC := hC.merge hK
        clear hK
        refine lex.pure (v := .bool y27) (pu_assign rfl) ?_
        refine lex.nil ?_
        refine hK26 _ _ ?_
        refine Wc.seq fun K30 hK30 => ?_
        refine Wc.seq fun K31 hK31 => ?_
        refine Wc.region (by decide +kernel) ?_
        refine lex.pure (v := .slice Ap_0 p_0.length cp_0) (pu_move e0) ?_
        obtain ⟨y32, h33, hb⟩ := bd hb
        refine lex.cl (⟨_, _, op_call (vs := [.slice Ap_0 p_0.length cp_0]) Try.call19 rfl rfl rfl, perm_Valid_ok n hC.lt (hC.rd (i := 1) rfl) h33⟩) ?_
        rintro _ w34 ⟨rfl, hK⟩
        replace hC := hC.merge hK
        clear hK
        refine lex.pure (v := .bool y27) (pu_move rfl) ?_
        refine lex.pure (v := .bool (!(y32 == y27))) (pu_neqb (p := y32) (q := y27) Try.underlying4 rfl rfl) ?_
        refine lex.nil ?_
        refine hK31 _ _ ?_
        refine Wc.cond (t := (!(y32 == y27))) (rfl) (fun hq35 => ?_) (fun hq35 => ?_)
        · replace hb := (cT hq35).symm.trans hb
          refine Wc.seq fun K36 hK36 => ?_
          refine Wc.region (by decide +kernel) ?_
          refine lex.pure (v := .bool false) (pu_assign rfl) ?_
          refine lex.nil ?_
          refine hK36 _ _ ?_
          obtain rfl := Option.some.inj hb
          refine Wc.ret ?_
          refine hKR _ _ ?_
          refine ⟨_, res1 Try.results5 (show RV _ _ _ (.tmp _) (.bool false) from rfl), _, rfl, rfl, hC.sel [] (by decide)⟩
        · replace hb := (cF hq35).symm.trans hb
          refine Wc.skip ?_
          refine hK30 _ _ ?_
          refine Wc.seq fun K37 hK37 => ?_
          refine Wc.region (by decide +kernel) ?_
          refine lex.pure (v := .slice Ap_0 p_0.length cp_0) (pu_move e0) ?_
          refine lex.pure (v := .slice Aq_1 q_1.length cq_1) (pu_move e1) ?_
          obtain ⟨y38, h39, hb⟩ := bd hb
          refine lex.cl (⟨_, _, op_call (vs := [.slice Ap_0 p_0.length cp_0, .slice Aq_1 q_1.length cq_1]) Try.call20 rfl rfl rfl, perm_Mul_ok n hC.lt (hC.rd (i := 1) rfl) (hC.rd (i := 0) rfl) h39⟩) ?_
          rintro _ w45 ⟨A40, m41, c42, rfl, hr44, hK⟩
          replace hC := hC.merge hK
          clear hK
          obtain ⟨rfl, hl46, hc47⟩ := (hC.ow (i := 0) rfl).sl_len
          refine lex.pure (v := .tuple #[.slice A40 y38.1.length c42, .int .i64 y38.2]) (pu_move rfl) ?_
          refine lex.pure (v := .slice A40 y38.1.length c42) (pu_extract rfl rfl) ?_
          refine lex.pure (v := .int .i64 y38.2) (pu_extract rfl rfl) ?_
          refine lex.pure (v := .slice A40 y38.1.length c42) (pu_assign rfl) ?_
          refine lex.pure (v := .int .i64 y38.2) (pu_assign rfl) ?_
          refine lex.nil ?_
          refine hK37 _ _ ?_
          refine Wc.fresh fun E48 hE => ?_
          have e0 : E48 0 = .slice Ap_0 p_0.length cp_0 := (congrFun hE 0).trans e0
          have e1 : E48 1 = .slice Aq_1 q_1.length cq_1 := (congrFun hE 1).trans e1
          have e4 : E48 4 = .bool false := (congrFun hE 4).trans e4
          have e5 : E48 5 = .bool y27 := (congrFun hE 5).trans rfl
          have e6 : E48 6 = .slice A40 y38.1.length c42 := (congrFun hE 6).trans rfl
          have e7 : E48 7 = .int .i64 y38.2 := (congrFun hE 7).trans rfl
          clear hE
          refine Wc.seqJ (fun E wv => E 0 = .slice Ap_0 p_0.length cp_0 ∧ E 4 = .bool false ∧ E 5 = .bool y27 ∧ Cx (fun _ => False) O0 w wv [.ro (.sl (.int .i64)) [.slice Ap_0 p_0.length cp_0] p_0] ∧ F.law30_PermTells_j0 n p_0 y27 = some r) (fun K49 hK49 => ?_) ?_
          ·
            skip
            refine Wc.seqJ (fun E wv => ∃ (v46_1 : Bool), E 0 = .slice Ap_0 p_0.length cp_0 ∧ E 1 = .slice Aq_1 q_1.length cq_1 ∧ E 4 = .bool false ∧ E 5 = .bool y27 ∧ E 6 = .slice A40 y38.1.length c42 ∧ E 7 = .int .i64 y38.2 ∧ E 46 = .bool v46_1 ∧ Cx (fun _ => False) O0 w wv [.ro (.sl (.int .i64)) [.slice Ap_0 p_0.length cp_0] p_0, .ro (.sl (.int .i64)) [.slice Aq_1 q_1.length cq_1] q_1, .own 3 (.int .i64) (.slice A40 y38.1.length c42) y38.1] ∧ F.law30_PermTells_j1 n p_0 q_1 y27 y38 v46_1 = some r) (fun K50 hK50 => ?_) ?_
            ·
              skip
              refine Wc.region (by decide +kernel) ?_
              refine lex.pure (v := .bool y27) (pu_move e5) ?_
              refine lex.pure (v := .bool (!y27)) (pu_not (q := y27) rfl) ?_
              refine lex.pure (v := .bool (!y27)) (pu_move rfl) ?_
              rcases bS (!y27) with hq51 | hq51
              · replace hb := (cT hq51).symm.trans hb
                refine lex.gskip (want_f rfl rfl (show _ = Value.bool (!y27) from rfl) hq51) ?_
                refine lex.gskip (want_f rfl rfl (show _ = Value.bool (!y27) from rfl) hq51) ?_
                refine lex.gskip (want_f rfl rfl (show _ = Value.bool (!y27) from rfl) hq51) ?_
                refine lex.pure (v := .bool true) (pu_pickT (q := (!y27)) rfl hq51 rfl) ?_
                refine lex.pure (v := .bool true) (pu_move rfl) ?_
                refine lex.gskip (want_f rfl rfl (show _ = Value.bool true from rfl) rfl) ?_
                refine lex.gskip (want_f rfl rfl (show _ = Value.bool true from rfl) rfl) ?_
                refine lex.gskip (want_f rfl rfl (show _ = Value.bool true from rfl) rfl) ?_
                refine lex.gskip (want_f rfl rfl (show _ = Value.bool true from rfl) rfl) ?_
                refine lex.gskip (want_f rfl rfl (show _ = Value.bool true from rfl) rfl) ?_
                refine lex.pure (v := .bool true) (pu_pickT (q := true) rfl rfl rfl) ?_
                refine lex.nil ?_
                exact hK50 _ _ ⟨true, e0, e1, e4, e5, e6, e7, rfl, hC.sel [2, 1, 0] (by decide), hb⟩
              · replace hb := (cF hq51).symm.trans hb
                refine lex.gpure (want_t rfl rfl (show _ = Value.bool (!y27) from rfl) hq51) (v := .slice Aq_1 q_1.length cq_1) (pu_move e1) ?_
                obtain ⟨y52, h53, hb⟩ := bd hb
                refine lex.gcl (want_t rfl rfl (show _ = Value.bool (!y27) from rfl) hq51) (⟨_, _, op_call (vs := [.slice Aq_1 q_1.length cq_1]) Try.call18 rfl rfl rfl, ref30_Valid_ok n hC.lt (hC.rd (i := 1) rfl) h53⟩) ?_
                rintro _ w54 ⟨rfl, hK⟩
                replace hC := hC.merge hK
                clear hK
                refine lex.gpure (want_t rfl rfl (show _ = Value.bool (!y27) from rfl) hq51) (v := .bool (!y52)) (pu_not (q := y52) rfl) ?_
                refine lex.pure (v := .bool (!y52)) (pu_pickF (q := (!y27)) rfl hq51 rfl) ?_
                refine lex.pure (v := .bool (!y52)) (pu_move rfl) ?_
                rcases bS (!y52) with hq55 | hq55
                · replace hb := (cT hq55).symm.trans hb
                  refine lex.gskip (want_f rfl rfl (show _ = Value.bool (!y52) from rfl) hq55) ?_
                  refine lex.gskip (want_f rfl rfl (show _ = Value.bool (!y52) from rfl) hq55) ?_
                  refine lex.gskip (want_f rfl rfl (show _ = Value.bool (!y52) from rfl) hq55) ?_
                  refine lex.gskip (want_f rfl rfl (show _ = Value.bool (!y52) from rfl) hq55) ?_
                  refine lex.gskip (want_f rfl rfl (show _ = Value.bool (!y52) from rfl) hq55) ?_
                  refine lex.pure (v := .bool true) (pu_pickT (q := (!y52)) rfl hq55 rfl) ?_
                  refine lex.nil ?_
                  exact hK50 _ _ ⟨true, e0, e1, e4, e5, e6, e7, rfl, hC.sel [2, 1, 0] (by decide), hb⟩
                · replace hb := (cF hq55).symm.trans hb
                  refine lex.gpure (want_t rfl rfl (show _ = Value.bool (!y52) from rfl) hq55) (v := .slice Ap_0 p_0.length cp_0) (pu_move e0) ?_
                  refine lex.gpure (want_t rfl rfl (show _ = Value.bool (!y52) from rfl) hq55) (v := .int .i64 (p_0.length : Int)) (pu_len (A := Ap_0) (n := p_0.length) (m := cp_0) Try.underlying28 rfl) ?_
                  refine lex.gpure (want_t rfl rfl (show _ = Value.bool (!y52) from rfl) hq55) (v := .slice Aq_1 q_1.length cq_1) (pu_move e1) ?_
                  refine lex.gpure (want_t rfl rfl (show _ = Value.bool (!y52) from rfl) hq55) (v := .int .i64 (q_1.length : Int)) (pu_len (A := Aq_1) (n := q_1.length) (m := cq_1) Try.underlying28 rfl) ?_
                  refine lex.gpure (want_t rfl rfl (show _ = Value.bool (!y52) from rfl) hq55) (v := .bool (!(decide ((p_0.length : Int) = (q_1.length : Int))))) (pu_neq (k := .i64) (a := (p_0.length : Int)) (b := (q_1.length : Int)) rfl rfl) ?_
                  refine lex.pure (v := .bool (!(decide ((p_0.length : Int) = (q_1.length : Int))))) (pu_pickF (q := (!y52)) rfl hq55 rfl) ?_
                  refine lex.nil ?_
                  exact hK50 _ _ ⟨(!(decide ((p_0.length : Int) = (q_1.length : Int)))), e0, e1, e4, e5, e6, e7, rfl, hC.sel [2, 1, 0] (by decide), hb⟩
            · clear hb hC
              rintro E57 w56 ⟨v46_1, e0, e1, e4, e5, e6, e7, e46, hC, hb⟩
              unfold F.law30_PermTells_j1 at hb
              refine Wc.cond (t := v46_1) (e46) (fun hq58 => ?_) (fun hq58 => ?_)
              · replace hb := (cT hq58).symm.trans hb
                refine Wc.seq fun K59 hK59 => ?_
                refine Wc.region (by decide +kernel) ?_
                refine lex.pure (v := .int .i64 y38.2) (pu_move e7) ?_
                refine lex.pure (v := .bool (!(decide (y38.2 = 1)))) (pu_neq (k := .i64) (a := y38.2) (b := 1) rfl rfl) ?_
                refine lex.pure (v := .bool (!(decide (y38.2 = 1)))) (pu_move rfl) ?_
                rcases bS (!(decide (y38.2 = 1))) with hq60 | hq60
                · replace hb := (cT hq60).symm.trans hb
                  refine lex.gskip (want_f rfl rfl (show _ = Value.bool (!(decide (y38.2 = 1))) from rfl) hq60) ?_
                  refine lex.gskip (want_f rfl rfl (show _ = Value.bool (!(decide (y38.2 = 1))) from rfl) hq60) ?_
                  refine lex.gskip (want_f rfl rfl (show _ = Value.bool (!(decide (y38.2 = 1))) from rfl) hq60) ?_
                  refine lex.pure (v := .bool true) (pu_pickT (q := (!(decide (y38.2 = 1)))) rfl hq60 rfl) ?_
                  refine lex.nil ?_
                  refine hK59 _ _ ?_
                  refine Wc.cond_true (rfl) ?_
                  refine Wc.seq fun K61 hK61 => ?_
                  refine Wc.region (by decide +kernel) ?_
                  refine lex.pure (v := .bool false) (pu_assign rfl) ?_
                  refine lex.nil ?_
                  refine hK61 _ _ ?_
                  obtain rfl := Option.some.inj hb
                  refine Wc.ret ?_
                  refine hKR _ _ ?_
                  refine ⟨_, res1 Try.results5 (show RV _ _ _ (.tmp _) (.bool false) from rfl), _, rfl, rfl, hC.sel [] (by decide)⟩
                · replace hb := (cF hq60).symm.trans hb
                  refine lex.gpure (want_t rfl rfl (show _ = Value.bool (!(decide (y38.2 = 1))) from rfl) hq60) (v := .slice A40 y38.1.length c42) (pu_move e6) ?_
                  refine lex.gpure (want_t rfl rfl (show _ = Value.bool (!(decide (y38.2 = 1))) from rfl) hq60) (v := .int .i64 (y38.1.length : Int)) (pu_len (A := A40) (n := y38.1.length) (m := c42) Try.underlying29 rfl) ?_
                  refine lex.gpure (want_t rfl rfl (show _ = Value.bool (!(decide (y38.2 = 1))) from rfl) hq60) (v := .bool (!(decide ((y38.1.length : Int) = 0)))) (pu_neq (k := .i64) (a := (y38.1.length : Int)) (b := 0) rfl rfl) ?_
                  refine lex.pure (v := .bool (!(decide ((y38.1.length : Int) = 0)))) (pu_pickF (q := (!(decide (y38.2 = 1)))) rfl hq60 rfl) ?_
                  refine lex.nil ?_
                  refine hK59 _ _ ?_
                  refine Wc.cond (t := (!(decide ((y38.1.length : Int) = 0)))) (rfl) (fun hq62 => ?_) (fun hq62 => ?_)
                  · replace hb := (cT hq62).symm.trans hb
                    refine Wc.seq fun K63 hK63 => ?_
                    refine Wc.region (by decide +kernel) ?_
                    refine lex.pure (v := .bool false) (pu_assign rfl) ?_
                    refine lex.nil ?_
                    refine hK63 _ _ ?_
                    obtain rfl := Option.some.inj hb
                    refine Wc.ret ?_
                    refine hKR _ _ ?_
                    refine ⟨_, res1 Try.results5 (show RV _ _ _ (.tmp _) (.bool false) from rfl), _, rfl, rfl, hC.sel [] (by decide)⟩
                  · replace hb := (cF hq62).symm.trans hb
                    refine Wc.skip ?_
                    exact hK49 _ _ ⟨e0, e4, e5, hC.sel [0] (by decide), hb⟩
              · replace hb := (cF hq58).symm.trans hb
                refine Wc.seq fun K64 hK64 => ?_
                refine Wc.region (by decide +kernel) ?_
                refine lex.pure (v := .int .i64 y38.2) (pu_move e7) ?_
                refine lex.pure (v := .bool (!(decide (y38.2 = 0)))) (pu_neq (k := .i64) (a := y38.2) (b := 0) rfl rfl) ?_
                refine lex.pure (v := .bool (!(decide (y38.2 = 0)))) (pu_move rfl) ?_
                rcases bS (!(decide (y38.2 = 0))) with hq65 | hq65
                · replace hb := (cT hq65).symm.trans hb
                  refine lex.gskip (want_f rfl rfl (show _ = Value.bool (!(decide (y38.2 = 0))) from rfl) hq65) ?_
                  refine lex.gskip (want_f rfl rfl (show _ = Value.bool (!(decide (y38.2 = 0))) from rfl) hq65) ?_
                  refine lex.gskip (want_f rfl rfl (show _ = Value.bool (!(decide (y38.2 = 0))) from rfl) hq65) ?_
                  refine lex.gskip (want_f rfl rfl (show _ = Value.bool (!(decide (y38.2 = 0))) from rfl) hq65) ?_
                  refine lex.gskip (want_f rfl rfl (show _ = Value.bool (!(decide (y38.2 = 0))) from rfl) hq65) ?_
                  refine lex.gskip (want_f rfl rfl (show _ = Value.bool (!(decide (y38.2 = 0))) from rfl) hq65) ?_
                  refine lex.pure (v := .bool true) (pu_pickT (q := (!(decide (y38.2 = 0)))) rfl hq65 rfl) ?_
                  refine lex.nil ?_
                  refine hK64 _ _ ?_
                  refine Wc.cond_true (rfl) ?_
                  refine Wc.seq fun K66 hK66 => ?_
                  refine Wc.region (by decide +kernel) ?_
                  refine lex.pure (v := .bool false) (pu_assign rfl) ?_
                  refine lex.nil ?_
                  refine hK66 _ _ ?_
                  obtain rfl := Option.some.inj hb
                  refine Wc.ret ?_
                  refine hKR _ _ ?_
                  refine ⟨_, res1 Try.results5 (show RV _ _ _ (.tmp _) (.bool false) from rfl), _, rfl, rfl, hC.sel [] (by decide)⟩
                · replace hb := (cF hq65).symm.trans hb
                  refine lex.gpure (want_t rfl rfl (show _ = Value.bool (!(decide (y38.2 = 0))) from rfl) hq65) (v := .slice A40 y38.1.length c42) (pu_move e6) ?_
                  refine lex.gpure (want_t rfl rfl (show _ = Value.bool (!(decide (y38.2 = 0))) from rfl) hq65) (v := .slice Ap_0 p_0.length cp_0) (pu_move e0) ?_
                  refine lex.gpure (want_t rfl rfl (show _ = Value.bool (!(decide (y38.2 = 0))) from rfl) hq65) (v := .slice Aq_1 q_1.length cq_1) (pu_move e1) ?_
                  obtain ⟨y67, h68, hb⟩ := bd hb
                  refine lex.gcl (want_t rfl rfl (show _ = Value.bool (!(decide (y38.2 = 0))) from rfl) hq65) (⟨_, _, op_call (vs := [.slice Ap_0 p_0.length cp_0, .slice Aq_1 q_1.length cq_1]) Try.call22 rfl rfl rfl, ref30_Mul_ok n hC.lt (hC.rd (i := 0) rfl) (hC.rd (i := 1) rfl) h68⟩) ?_
                  rintro _ w73 ⟨A69, m70, c71, rfl, hK⟩
                  replace hC := hC.merge hK
                  clear hK
                  obtain ⟨rfl, hl74, hc75⟩ := (hC.ow (i := 0) rfl).sl_len
                  obtain ⟨y76, h77, hb⟩ := bd hb
                  refine lex.gcl (want_t rfl rfl (show _ = Value.bool (!(decide (y38.2 = 0))) from rfl) hq65) (⟨_, _, op_call (vs := [.slice A40 y38.1.length c42, .slice A69 y67.length c71]) Try.call21 rfl rfl rfl, slices_Equal_Perm_int_ok n (hC.lentLt [.slice A40 y38.1.length c42, .slice A69 y67.length c71]) ((hC.ow (i := 3) rfl).lend (vs := [.slice A40 y38.1.length c42, .slice A69 y67.length c71]) (by simp)) ((hC.ow (i := 0) rfl).lend (vs := [.slice A40 y38.1.length c42, .slice A69 y67.length c71]) (by simp)) h77⟩) ?_
                  rintro _ w78 ⟨rfl, hK⟩
                  replace hC := hC.mergeF hK rfl
                  clear hK
                  refine lex.gpure (want_t rfl rfl (show _ = Value.bool (!(decide (y38.2 = 0))) from rfl) hq65) (v := .bool (!y76)) (pu_not (q := y76) rfl) ?_
                  refine lex.pure (v := .bool (!y76)) (pu_pickF (q := (!(decide (y38.2 = 0)))) rfl hq65 rfl) ?_
                  refine lex.nil ?_
                  refine hK64 _ _ ?_
                  refine Wc.cond (t := (!y76)) (rfl) (fun hq79 => ?_) (fun hq79 => ?_)
                  · replace hb := (cT hq79).symm.trans hb
                    refine Wc.seq fun K80 hK80 => ?_
                    refine Wc.region (by decide +kernel) ?_
                    refine lex.pure (v := .bool false) (pu_assign rfl) ?_
                    refine lex.nil ?_
                    refine hK80 _ _ ?_
                    obtain rfl := Option.some.inj hb
                    refine Wc.ret ?_
                    refine hKR _ _ ?_
                    refine ⟨_, res1 Try.results5 (show RV _ _ _ (.tmp _) (.bool false) from rfl), _, rfl, rfl, hC.sel [] (by decide)⟩
                  · replace hb := (cF hq79).symm.trans hb
                    refine Wc.skip ?_
                    exact hK49 _ _ ⟨e0, e4, e5, hC.sel [1] (by decide), hb⟩
          · clear hb hC
            rintro E82 w81 ⟨e0, e4, e5, hC, hb⟩
            unfold F.law30_PermTells_j0 at hb
            refine Wc.seq fun K83 hK83 => ?_
            refine Wc.seq fun K84 hK84 => ?_
            refine Wc.region (by decide +kernel) ?_
            refine lex.pure (v := .bool y27) (pu_move e5) ?_
            refine lex.pure (v := .bool (!y27)) (pu_not (q := y27) rfl) ?_
            refine lex.nil ?_
            refine hK84 _ _ ?_
            refine Wc.cond (t := (!y27)) (rfl) (fun hq85 => ?_) (fun hq85 => ?_)
            · replace hb := (cT hq85).symm.trans hb
              refine Wc.seq fun K86 hK86 => ?_
              refine Wc.region (by decide +kernel) ?_
              refine lex.pure (v := .slice Ap_0 p_0.length cp_0) (pu_move e0) ?_
              obtain ⟨y87, h88, hb⟩ := bd hb
              refine lex.cl (⟨_, _, op_call (vs := [.slice Ap_0 p_0.length cp_0]) Try.call23 rfl rfl rfl, perm_Inverse_ok n hC.lt (hC.rd (i := 0) rfl) h88⟩) ?_
              rintro _ w93 ⟨A89, m90, c91, rfl, hK⟩
              replace hC := hC.merge hK
              clear hK
              obtain ⟨rfl, hl94, hc95⟩ := (hC.ow (i := 0) rfl).sl_len
              refine lex.pure (v := .int .i64 (y87.length : Int)) (pu_len (A := A89) (n := y87.length) (m := c91) Try.underlying29 rfl) ?_
              refine lex.pure (v := .bool (decide ((y87.length : Int) = 0))) (pu_eql (k := .i64) (a := (y87.length : Int)) (b := 0) rfl rfl) ?_
              refine lex.pure (v := .bool (decide ((y87.length : Int) = 0))) (pu_move rfl) ?_
              rcases bS (decide ((y87.length : Int) = 0)) with hq96 | hq96
              · replace hb := (cT hq96).symm.trans hb
                refine lex.gpure (want_t rfl rfl (show _ = Value.bool (decide ((y87.length : Int) = 0)) from rfl) hq96) (v := .slice Ap_0 p_0.length cp_0) (pu_move e0) ?_
                obtain ⟨y97, h98, hb⟩ := bd hb
                refine lex.gcl (want_t rfl rfl (show _ = Value.bool (decide ((y87.length : Int) = 0)) from rfl) hq96) (⟨_, _, op_call (vs := [.slice Ap_0 p_0.length cp_0]) Try.call24 rfl rfl rfl, perm_Cycles_ok n hC.lt (hC.rd (i := 1) rfl) h98⟩) ?_
                rintro _ w103 ⟨A99, m100, c101, rfl, hK⟩
                replace hC := hC.merge hK
                clear hK
                obtain ⟨rfl, hl104, hc105⟩ := (hC.ow (i := 0) rfl).sl_len
                refine lex.gpure (want_t rfl rfl (show _ = Value.bool (decide ((y87.length : Int) = 0)) from rfl) hq96) (v := .int .i64 (y97.length : Int)) (pu_len (A := A99) (n := y97.length) (m := c101) Try.underlying23 rfl) ?_
                refine lex.gpure (want_t rfl rfl (show _ = Value.bool (decide ((y87.length : Int) = 0)) from rfl) hq96) (v := .bool (decide ((y97.length : Int) = 0))) (pu_eql (k := .i64) (a := (y97.length : Int)) (b := 0) rfl rfl) ?_
                refine lex.pure (v := .bool (decide ((y97.length : Int) = 0))) (pu_pickT (q := (decide ((y87.length : Int) = 0))) rfl hq96 rfl) ?_
                refine lex.pure (v := .bool (decide ((y97.length : Int) = 0))) (pu_move rfl) ?_
                rcases bS (decide ((y97.length : Int) = 0)) with hq106 | hq106
                · replace hb := (cT hq106).symm.trans hb
                  refine lex.gpure (want_t rfl rfl (show _ = Value.bool (decide ((y97.length : Int) = 0)) from rfl) hq106) (v := .slice Ap_0 p_0.length cp_0) (pu_move e0) ?_
                  obtain ⟨y107, h108, hb⟩ := bd hb
                  refine lex.gcl (want_t rfl rfl (show _ = Value.bool (decide ((y97.length : Int) = 0)) from rfl) hq106) (⟨_, _, op_call (vs := [.slice Ap_0 p_0.length cp_0]) Try.call25 rfl rfl rfl, perm_Type_ok n hC.lt (hC.rd (i := 2) rfl) h108⟩) ?_
                  rintro _ w113 ⟨A109, m110, c111, rfl, hK⟩
                  replace hC := hC.merge hK
                  clear hK
                  obtain ⟨rfl, hl114, hc115⟩ := (hC.ow (i := 0) rfl).sl_len
                  refine lex.gpure (want_t rfl rfl (show _ = Value.bool (decide ((y97.length : Int) = 0)) from rfl) hq106) (v := .int .i64 (y107.length : Int)) (pu_len (A := A109) (n := y107.length) (m := c111) Try.underlying28 rfl) ?_
                  refine lex.gpure (want_t rfl rfl (show _ = Value.bool (decide ((y97.length : Int) = 0)) from rfl) hq106) (v := .bool (decide ((y107.length : Int) = 0))) (pu_eql (k := .i64) (a := (y107.length : Int)) (b := 0) rfl rfl) ?_
                  refine lex.pure (v := .bool (decide ((y107.length : Int) = 0))) (pu_pickT (q := (decide ((y97.length : Int) = 0))) rfl hq106 rfl) ?_
                  refine lex.pure (v := .bool (decide ((y107.length : Int) = 0))) (pu_move rfl) ?_
                  rcases bS (decide ((y107.length : Int) = 0)) with hq116 | hq116
                  · replace hb := (cT hq116).symm.trans hb
                    refine lex.gpure (want_t rfl rfl (show _ = Value.bool (decide ((y107.length : Int) = 0)) from rfl) hq116) (v := .slice Ap_0 p_0.length cp_0) (pu_move e0) ?_
                    obtain ⟨y117, h118, hb⟩ := bd hb
                    refine lex.gcl (want_t rfl rfl (show _ = Value.bool (decide ((y107.length : Int) = 0)) from rfl) hq116) (⟨_, _, op_call (vs := [.slice Ap_0 p_0.length cp_0]) Try.call26 rfl rfl rfl, perm_Sign_ok n hC.lt (hC.rd (i := 3) rfl) h118⟩) ?_
                    rintro _ w120 ⟨rfl, hr119, hK⟩
                    replace hC := hC.merge hK
                    clear hK
                    refine lex.gpure (want_t rfl rfl (show _ = Value.bool (decide ((y107.length : Int) = 0)) from rfl) hq116) (v := .bool (decide (y117 = 0))) (pu_eql (k := .i64) (a := y117) (b := 0) rfl rfl) ?_
                    refine lex.pure (v := .bool (decide (y117 = 0))) (pu_pickT (q := (decide ((y107.length : Int) = 0))) rfl hq116 rfl) ?_
                    refine lex.pure (v := .bool (decide (y117 = 0))) (pu_assign rfl) ?_
                    refine lex.nil ?_
                    refine hK86 _ _ ?_
                    obtain rfl := Option.some.inj hb
                    refine Wc.ret ?_
                    refine hKR _ _ ?_
                    refine ⟨_, res1 Try.results5 (show RV _ _ _ (.tmp _) (.bool (decide (y117 = 0))) from rfl), _, rfl, rfl, hC.sel [] (by decide)⟩
                  · replace hb := (cF hq116).symm.trans hb
                    refine lex.gskip (want_f rfl rfl (show _ = Value.bool (decide ((y107.length : Int) = 0)) from rfl) hq116) ?_
                    refine lex.gskip (want_f rfl rfl (show _ = Value.bool (decide ((y107.length : Int) = 0)) from rfl) hq116) ?_
                    refine lex.gskip (want_f rfl rfl (show _ = Value.bool (decide ((y107.length : Int) = 0)) from rfl) hq116) ?_
                    refine lex.pure (v := .bool false) (pu_pickF (q := (decide ((y107.length : Int) = 0))) rfl hq116 rfl) ?_
                    refine lex.pure (v := .bool false) (pu_assign rfl) ?_
                    refine lex.nil ?_
                    refine hK86 _ _ ?_
                    obtain rfl := Option.some.inj hb
                    refine Wc.ret ?_
                    refine hKR _ _ ?_
                    refine ⟨_, res1 Try.results5 (show RV _ _ _ (.tmp _) (.bool false) from rfl), _, rfl, rfl, hC.sel [] (by decide)⟩
                · replace hb := (cF hq106).symm.trans hb
                  refine lex.gskip (want_f rfl rfl (show _ = Value.bool (decide ((y97.length : Int) = 0)) from rfl) hq106) ?_
                  refine lex.gskip (want_f rfl rfl (show _ = Value.bool (decide ((y97.length : Int) = 0)) from rfl) hq106) ?_
                  refine lex.gskip (want_f rfl rfl (show _ = Value.bool (decide ((y97.length : Int) = 0)) from rfl) hq106) ?_
                  refine lex.gskip (want_f rfl rfl (show _ = Value.bool (decide ((y97.length : Int) = 0)) from rfl) hq106) ?_
                  refine lex.pure (v := .bool false) (pu_pickF (q := (decide ((y97.length : Int) = 0))) rfl hq106 rfl) ?_
                  refine lex.pure (v := .bool false) (pu_move rfl) ?_
                  refine lex.gskip (want_f rfl rfl (show _ = Value.bool false from rfl) rfl) ?_
                  refine lex.gskip (want_f rfl rfl (show _ = Value.bool false from rfl) rfl) ?_
                  refine lex.gskip (want_f rfl rfl (show _ = Value.bool false from rfl) rfl) ?_
                  refine lex.pure (v := .bool false) (pu_pickF (q := false) rfl rfl rfl) ?_
                  refine lex.pure (v := .bool false) (pu_assign rfl) ?_
                  refine lex.nil ?_
                  refine hK86 _ _ ?_
                  obtain rfl := Option.some.inj hb
                  refine Wc.ret ?_
                  refine hKR _ _ ?_
                  refine ⟨_, res1 Try.results5 (show RV _ _ _ (.tmp _) (.bool false) from rfl), _, rfl, rfl, hC.sel [] (by decide)⟩
              · replace hb := (cF hq96).symm.trans hb
                refine lex.gskip (want_f rfl rfl (show _ = Value.bool (decide ((y87.length : Int) = 0)) from rfl) hq96) ?_
                refine lex.gskip (want_f rfl rfl (show _ = Value.bool (decide ((y87.length : Int) = 0)) from rfl) hq96) ?_
                refine lex.gskip (want_f rfl rfl (show _ = Value.bool (decide ((y87.length : Int) = 0)) from rfl) hq96) ?_
                refine lex.gskip (want_f rfl rfl (show _ = Value.bool (decide ((y87.length : Int) = 0)) from rfl) hq96) ?_
                refine lex.pure (v := .bool false) (pu_pickF (q := (decide ((y87.length : Int) = 0))) rfl hq96 rfl) ?_
                refine lex.pure (v := .bool false) (pu_move rfl) ?_
                refine lex.gskip (want_f rfl rfl (show _ = Value.bool false from rfl) rfl) ?_
                refine lex.gskip (want_f rfl rfl (show _ = Value.bool false from rfl) rfl) ?_
                refine lex.gskip (want_f rfl rfl (show _ = Value.bool false from rfl) rfl) ?_
                refine lex.gskip (want_f rfl rfl (show _ = Value.bool false from rfl) rfl) ?_
                refine lex.pure (v := .bool false) (pu_pickF (q := false) rfl rfl rfl) ?_
                refine lex.pure (v := .bool false) (pu_move rfl) ?_
                refine lex.gskip (want_f rfl rfl (show _ = Value.bool false from rfl) rfl) ?_
                refine lex.gskip (want_f rfl rfl (show _ = Value.bool false from rfl) rfl) ?_
                refine lex.gskip (want_f rfl rfl (show _ = Value.bool false from rfl) rfl) ?_
                refine lex.pure (v := .bool false) (pu_pickF (q := false) rfl rfl rfl) ?_
                refine lex.pure (v := .bool false) (pu_assign rfl) ?_
                refine lex.nil ?_
                refine hK86 _ _ ?_
                obtain rfl := Option.some.inj hb
                refine Wc.ret ?_
                refine hKR _ _ ?_
                refine ⟨_, res1 Try.results5 (show RV _ _ _ (.tmp _) (.bool false) from rfl), _, rfl, rfl, hC.sel [] (by decide)⟩
            · replace hb := (cF hq85).symm.trans hb
              refine Wc.skip ?_
              refine hK83 _ _ ?_
              refine Wc.seq fun K121 hK121 => ?_
              refine Wc.region (by decide +kernel) ?_
              refine lex.pure (v := .slice Ap_0 p_0.length cp_0) (pu_move e0) ?_
              obtain ⟨y122, h123, hb⟩ := bd hb
              refine lex.cl (⟨_, _, op_call (vs := [.slice Ap_0 p_0.length cp_0]) Try.call23 rfl rfl rfl, perm_Inverse_ok n hC.lt (hC.rd (i := 0) rfl) h123⟩) ?_
              rintro _ w128 ⟨A124, m125, c126, rfl, hK⟩
              replace hC := hC.merge hK
              clear hK
              obtain ⟨rfl, hl129, hc130⟩ := (hC.ow (i := 0) rfl).sl_len
              refine lex.pure (v := .slice Ap_0 p_0.length cp_0) (pu_move e0) ?_
              obtain ⟨y131, h132, hb⟩ := bd hb
              refine lex.cl (⟨_, _, op_call (vs := [.slice Ap_0 p_0.length cp_0]) Try.call27 rfl rfl rfl, ref30_Inverse_ok n hC.lt (hC.rd (i := 1) rfl) h132⟩) ?_
              rintro _ w137 ⟨A133, m134, c135, rfl, hK⟩
              replace hC := hC.merge hK
              clear hK
              obtain ⟨rfl, hl138, hc139⟩ := (hC.ow (i := 0) rfl).sl_len
              obtain ⟨y140, h141, hb⟩ := bd hb
              refine lex.cl (⟨_, _, op_call (vs := [.slice A124 y122.length c126, .slice A133 y131.length c135]) Try.call21 rfl rfl rfl, slices_Equal_Perm_int_ok n (hC.lentLt [.slice A124 y122.length c126, .slice A133 y131.length c135]) ((hC.ow (i := 1) rfl).lend (vs := [.slice A124 y122.length c126, .slice A133 y131.length c135]) (by simp)) ((hC.ow (i := 0) rfl).lend (vs := [.slice A124 y122.length c126, .slice A133 y131.length c135]) (by simp)) h141⟩) ?_
              rintro _ w142 ⟨rfl, hK⟩
              replace hC := hC.mergeF hK rfl
              clear hK
              refine lex.pure (v := .bool y140) (pu_move rfl) ?_
              rcases bS y140 with hq143 | hq143
              · replace hb := (cT hq143).symm.trans hb
                refine lex.gpure (want_t rfl rfl (show _ = Value.bool y140 from rfl) hq143) (v := .slice Ap_0 p_0.length cp_0) (pu_move e0) ?_
                obtain ⟨y144, h145, hb⟩ := bd hb
                refine lex.gcl (want_t rfl rfl (show _ = Value.bool y140 from rfl) hq143) (⟨_, _, op_call (vs := [.slice Ap_0 p_0.length cp_0]) Try.call24 rfl rfl rfl, perm_Cycles_ok n hC.lt (hC.rd (i := 2) rfl) h145⟩) ?_
                rintro _ w150 ⟨A146, m147, c148, rfl, hK⟩
                replace hC := hC.merge hK
                clear hK
                obtain ⟨rfl, hl151, hc152⟩ := (hC.ow (i := 0) rfl).sl_len
                refine lex.gpure (want_t rfl rfl (show _ = Value.bool y140 from rfl) hq143) (v := .slice Ap_0 p_0.length cp_0) (pu_move e0) ?_
                obtain ⟨y153, h154, hb⟩ := bd hb
                refine lex.gcl (want_t rfl rfl (show _ = Value.bool y140 from rfl) hq143) (⟨_, _, op_call (vs := [.slice Ap_0 p_0.length cp_0]) Try.call28 rfl rfl rfl, ref30_Cycles_ok n hC.lt (hC.rd (i := 3) rfl) h154⟩) ?_
                rintro _ w159 ⟨A155, m156, c157, rfl, hK⟩
                replace hC := hC.merge hK
                clear hK
                obtain ⟨rfl, hl160, hc161⟩ := (hC.ow (i := 0) rfl).sl_len
                obtain ⟨y162, h163, hb⟩ := bd hb
                refine lex.gcl (want_t rfl rfl (show _ = Value.bool y140 from rfl) hq143) (⟨_, _, op_call (vs := [.slice A146 y144.length c148, .slice A155 y153.length c157]) Try.call13 rfl rfl rfl, ref01_Lists_ok n (hC.lentLt [.slice A146 y144.length c148, .slice A155 y153.length c157]) ((hC.ow (i := 1) rfl).lend (vs := [.slice A146 y144.length c148, .slice A155 y153.length c157]) (by simp)) ((hC.ow (i := 0) rfl).lend (vs := [.slice A146 y144.length c148, .slice A155 y153.length c157]) (by simp)) h163⟩) ?_
                rintro _ w164 ⟨rfl, hK⟩
                replace hC := hC.mergeF hK rfl
                clear hK
                refine lex.pure (v := .bool y162) (pu_pickT (q := y140) rfl hq143 rfl) ?_
                refine lex.pure (v := .bool y162) (pu_move rfl) ?_
                rcases bS y162 with hq165 | hq165
                · replace hb := (cT hq165).symm.trans hb
                  refine lex.gpure (want_t rfl rfl (show _ = Value.bool y162 from rfl) hq165) (v := .slice Ap_0 p_0.length cp_0) (pu_move e0) ?_
                  obtain ⟨y166, h167, hb⟩ := bd hb
                  refine lex.gcl (want_t rfl rfl (show _ = Value.bool y162 from rfl) hq165) (⟨_, _, op_call (vs := [.slice Ap_0 p_0.length cp_0]) Try.call25 rfl rfl rfl, perm_Type_ok n hC.lt (hC.rd (i := 4) rfl) h167⟩) ?_
                  rintro _ w172 ⟨A168, m169, c170, rfl, hK⟩
                  replace hC := hC.merge hK
                  clear hK
                  obtain ⟨rfl, hl173, hc174⟩ := (hC.ow (i := 0) rfl).sl_len
                  refine lex.gpure (want_t rfl rfl (show _ = Value.bool y162 from rfl) hq165) (v := .slice Ap_0 p_0.length cp_0) (pu_move e0) ?_
                  obtain ⟨y175, h176, hb⟩ := bd hb
                  refine lex.gcl (want_t rfl rfl (show _ = Value.bool y162 from rfl) hq165) (⟨_, _, op_call (vs := [.slice Ap_0 p_0.length cp_0]) Try.call30 rfl rfl rfl, ref30_Type_ok n hC.lt (hC.rd (i := 5) rfl) h176⟩) ?_
                  rintro _ w181 ⟨A177, m178, c179, rfl, hK⟩
                  replace hC := hC.merge hK
                  clear hK
                  obtain ⟨rfl, hl182, hc183⟩ := (hC.ow (i := 0) rfl).sl_len
                  obtain ⟨y184, h185, hb⟩ := bd hb
                  refine lex.gcl (want_t rfl rfl (show _ = Value.bool y162 from rfl) hq165) (⟨_, _, op_call (vs := [.slice A168 y166.length c170, .slice A177 y175.length c179]) Try.call29 rfl rfl rfl, slices_Equal_Lint_int_ok n (hC.lentLt [.slice A168 y166.length c170, .slice A177 y175.length c179]) ((hC.ow (i := 1) rfl).lend (vs := [.slice A168 y166.length c170, .slice A177 y175.length c179]) (by simp)) ((hC.ow (i := 0) rfl).lend (vs := [.slice A168 y166.length c170, .slice A177 y175.length c179]) (by simp)) h185⟩) ?_
                  rintro _ w186 ⟨rfl, hK⟩
                  replace hC := hC.mergeF hK rfl
                  clear hK
                  refine lex.pure (v := .bool y184) (pu_pickT (q := y162) rfl hq165 rfl) ?_
                  refine lex.pure (v := .bool y184) (pu_move rfl) ?_
                  rcases bS y184 with hq187 | hq187
                  · replace hb := (cT hq187).symm.trans hb
                    refine lex.gpure (want_t rfl rfl (show _ = Value.bool y184 from rfl) hq187) (v := .slice Ap_0 p_0.length cp_0) (pu_move e0) ?_
                    obtain ⟨y188, h189, hb⟩ := bd hb
                    refine lex.gcl (want_t rfl rfl (show _ = Value.bool y184 from rfl) hq187) (⟨_, _, op_call (vs := [.slice Ap_0 p_0.length cp_0]) Try.call26 rfl rfl rfl, perm_Sign_ok n hC.lt (hC.rd (i := 6) rfl) h189⟩) ?_
                    rintro _ w191 ⟨rfl, hr190, hK⟩
                    replace hC := hC.merge hK
                    clear hK
                    refine lex.gpure (want_t rfl rfl (show _ = Value.bool y184 from rfl) hq187) (v := .slice Ap_0 p_0.length cp_0) (pu_move e0) ?_
                    obtain ⟨y192, h193, hb⟩ := bd hb
                    refine lex.gcl (want_t rfl rfl (show _ = Value.bool y184 from rfl) hq187) (⟨_, _, op_call (vs := [.slice Ap_0 p_0.length cp_0]) Try.call31 rfl rfl rfl, ref30_Sign_ok n hC.lt (hC.rd (i := 6) rfl) h193⟩) ?_
                    rintro _ w195 ⟨rfl, hr194, hK⟩
                    replace hC := hC.merge hK
                    clear hK
                    refine lex.gpure (want_t rfl rfl (show _ = Value.bool y184 from rfl) hq187) (v := .bool (decide (y188 = y192))) (pu_eql (k := .i64) (a := y188) (b := y192) rfl rfl) ?_
                    refine lex.pure (v := .bool (decide (y188 = y192))) (pu_pickT (q := y184) rfl hq187 rfl) ?_
                    refine lex.pure (v := .bool (decide (y188 = y192))) (pu_assign rfl) ?_
                    refine lex.nil ?_
                    refine hK121 _ _ ?_
                    obtain rfl := Option.some.inj hb
                    refine Wc.ret ?_
                    refine hKR _ _ ?_
                    refine ⟨_, res1 Try.results5 (show RV _ _ _ (.tmp _) (.bool (decide (y188 = y192))) from rfl), _, rfl, rfl, hC.sel [] (by decide)⟩
                  · replace hb := (cF hq187).symm.trans hb
                    refine lex.gskip (want_f rfl rfl (show _ = Value.bool y184 from rfl) hq187) ?_
                    refine lex.gskip (want_f rfl rfl (show _ = Value.bool y184 from rfl) hq187) ?_
                    refine lex.gskip (want_f rfl rfl (show _ = Value.bool y184 from rfl) hq187) ?_
                    refine lex.gskip (want_f rfl rfl (show _ = Value.bool y184 from rfl) hq187) ?_
                    refine lex.gskip (want_f rfl rfl (show _ = Value.bool y184 from rfl) hq187) ?_
                    refine lex.pure (v := .bool false) (pu_pickF (q := y184) rfl hq187 rfl) ?_
                    refine lex.pure (v := .bool false) (pu_assign rfl) ?_
                    refine lex.nil ?_
                    refine hK121 _ _ ?_
                    obtain rfl := Option.some.inj hb
                    refine Wc.ret ?_
                    refine hKR _ _ ?_
                    refine ⟨_, res1 Try.results5 (show RV _ _ _ (.tmp _) (.bool false) from rfl), _, rfl, rfl, hC.sel [] (by decide)⟩
                · replace hb := (cF hq165).symm.trans hb
                  refine lex.gskip (want_f rfl rfl (show _ = Value.bool y162 from rfl) hq165) ?_
                  refine lex.gskip (want_f rfl rfl (show _ = Value.bool y162 from rfl) hq165) ?_
                  refine lex.gskip (want_f rfl rfl (show _ = Value.bool y162 from rfl) hq165) ?_
                  refine lex.gskip (want_f rfl rfl (show _ = Value.bool y162 from rfl) hq165) ?_
                  refine lex.gskip (want_f rfl rfl (show _ = Value.bool y162 from rfl) hq165) ?_
                  refine lex.pure (v := .bool false) (pu_pickF (q := y162) rfl hq165 rfl) ?_
                  refine lex.pure (v := .bool false) (pu_move rfl) ?_
                  refine lex.gskip (want_f rfl rfl (show _ = Value.bool false from rfl) rfl) ?_
                  refine lex.gskip (want_f rfl rfl (show _ = Value.bool false from rfl) rfl) ?_
                  refine lex.gskip (want_f rfl rfl (show _ = Value.bool false from rfl) rfl) ?_
                  refine lex.gskip (want_f rfl rfl (show _ = Value.bool false from rfl) rfl) ?_
                  refine lex.gskip (want_f rfl rfl (show _ = Value.bool false from rfl) rfl) ?_
                  refine lex.pure (v := .bool false) (pu_pickF (q := false) rfl rfl rfl) ?_
                  refine lex.pure (v := .bool false) (pu_assign rfl) ?_
                  refine lex.nil ?_
                  refine hK121 _ _ ?_
                  obtain rfl := Option.some.inj hb
                  refine Wc.ret ?_
                  refine hKR _ _ ?_
                  refine ⟨_, res1 Try.results5 (show RV _ _ _ (.tmp _) (.bool false) from rfl), _, rfl, rfl, hC.sel [] (by decide)⟩
              · replace hb := (cF hq143).symm.trans hb
                refine lex.gskip (want_f rfl rfl (show _ = Value.bool y140 from rfl) hq143) ?_
                refine lex.gskip (want_f rfl rfl (show _ = Value.bool y140 from rfl) hq143) ?_
                refine lex.gskip (want_f rfl rfl (show _ = Value.bool y140 from rfl) hq143) ?_
                refine lex.gskip (want_f rfl rfl (show _ = Value.bool y140 from rfl) hq143) ?_
                refine lex.gskip (want_f rfl rfl (show _ = Value.bool y140 from rfl) hq143) ?_
                refine lex.pure (v := .bool false) (pu_pickF (q := y140) rfl hq143 rfl) ?_
                refine lex.pure (v := .bool false) (pu_move rfl) ?_
                refine lex.gskip (want_f rfl rfl (show _ = Value.bool false from rfl) rfl) ?_
                refine lex.gskip (want_f rfl rfl (show _ = Value.bool false from rfl) rfl) ?_
                refine lex.gskip (want_f rfl rfl (show _ = Value.bool false from rfl) rfl) ?_
                refine lex.gskip (want_f rfl rfl (show _ = Value.bool false from rfl) rfl) ?_
                refine lex.gskip (want_f rfl rfl (show _ = Value.bool false from rfl) rfl) ?_
                refine lex.pure (v := .bool false) (pu_pickF (q := false) rfl rfl rfl) ?_
                refine lex.pure (v := .bool false) (pu_move rfl) ?_
                refine lex.gskip (want_f rfl rfl (show _ = Value.bool false from rfl) rfl) ?_
                refine lex.gskip (want_f rfl rfl (show _ = Value.bool false from rfl) rfl) ?_
                refine lex.gskip (want_f rfl rfl (show _ = Value.bool false from rfl) rfl) ?_
                refine lex.gskip (want_f rfl rfl (show _ = Value.bool false from rfl) rfl) ?_
                refine lex.gskip (want_f rfl rfl (show _ = Value.bool false from rfl) rfl) ?_
                refine lex.pure (v := .bool false) (pu_pickF (q := false) rfl rfl rfl) ?_
                refine lex.pure (v := .bool false) (pu_assign rfl) ?_
                refine lex.nil ?_
                refine hK121 _ _ ?_
                obtain rfl := Option.some.inj hb
                refine Wc.ret ?_
                refine hKR _ _ ?_
                refine ⟨_, res1 Try.results5 (show RV _ _ _ (.tmp _) (.bool false) from rfl), _, rfl, rfl, hC.sel [] (by decide)⟩
end Go.Proofs.Ytmlkiafidahnbaa
