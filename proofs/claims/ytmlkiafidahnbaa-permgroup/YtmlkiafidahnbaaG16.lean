/- The walks: part 16. -/
import Derived.Test.YtmlkiafidahnbaaS
import Derived.Test.YtmlkiafidahnbaaG0
import Derived.Test.YtmlkiafidahnbaaG2
import Derived.Test.YtmlkiafidahnbaaG13
import Derived.Test.YtmlkiafidahnbaaG14
set_option linter.unusedVariables false
set_option linter.unusedSimpArgs false
namespace Go.Proofs.Ytmlkiafidahnbaa
open Ev
set_option maxRecDepth 100000 in
set_option maxHeartbeats 4000000 in
theorem law30_PermGroup_ok (n : Nat) {w : World} {O0 : List Nat} (hO : ∀ k ∈ O0, k < w.heap.size) {Ap_0 : Option Addr} {mp_0 cp_0 : Nat} {p_0 : List Int} (hp_0 : Rep O0 w (.sl (.int .i64)) [.slice Ap_0 mp_0 cp_0] p_0) {Aq_1 : Option Addr} {mq_1 cq_1 : Nat} {q_1 : List Int} (hq_1 : Rep O0 w (.sl (.int .i64)) [.slice Aq_1 mq_1 cq_1] q_1) {Arx_2 : Option Addr} {mrx_2 crx_2 : Nat} {rx_2 : List Int} (hrx_2 : Rep O0 w (.sl (.int .i64)) [.slice Arx_2 mrx_2 crx_2] rx_2) {r : Bool} (hb : F.law30_PermGroup n p_0 q_1 rx_2 = some r) :
    Calls Try.prog 6 #[.slice Ap_0 mp_0 cp_0, .slice Aq_1 mq_1 cq_1, .slice Arx_2 mrx_2 crx_2] w fun e w' => ∃ v, e = .returned v ∧ v = .bool r ∧ Cx (fun _ => False) O0 w w' [] := by
  unfold F.law30_PermGroup at hb
  have hC := Cx.start hO
  replace hC := hC.arg rfl hp_0
  replace hC := hC.arg rfl hq_1
  replace hC := hC.arg rfl hrx_2
  clear hO
  obtain ⟨rfl, hlp_0, hcp_0⟩ := hp_0.sl_len
  obtain ⟨rfl, hlq_1, hcq_1⟩ := hq_1.sl_len
  obtain ⟨rfl, hlrx_2, hcrx_2⟩ := hrx_2.sl_len
  refine calls_of_Wc Try.func6 rfl (by rw [Try.ntmps6]; exact Nat.le_of_ble_eq_true rfl) fun KR hKR => ?_
  refine Wc.seq fun K4 hK4 => ?_
  refine Wc.region (by decide +kernel) ?_
  refine lex.pure (v := .bool false) (pu_assign rfl) ?_
  refine lex.nil ?_
  refine hK4 _ _ ?_
  refine Wc.seq fun K5 hK5 => ?_
  refine Wc.seq fun K6 hK6 => ?_
  refine Wc.region (by decide +kernel) ?_
  obtain ⟨y7, h8, hb⟩ := bd hb
  refine lex.cl (⟨_, _, op_call (vs := []) Try.call10 rfl rfl rfl, law30_awake_ok n hC.lt  h8⟩) ?_
  rintro _ w9 ⟨rfl, hK⟩
  replace hC := hC.merge hK
  clear hK
  refine lex.pure (v := .bool (!y7)) (pu_not (q := y7) rfl) ?_
  refine lex.pure (v := .bool (!y7)) (pu_move rfl) ?_
  rcases bS (!y7) with hq10 | hq10
  · replace hb := (cT hq10).symm.trans hb
    refine lex.gskip (want_f rfl rfl (show _ = Value.bool (!y7) from rfl) hq10) ?_
    refine lex.gskip (want_f rfl rfl (show _ = Value.bool (!y7) from rfl) hq10) ?_
    refine lex.gskip (want_f rfl rfl (show _ = Value.bool (!y7) from rfl) hq10) ?_
    refine lex.pure (v := .bool true) (pu_pickT (q := (!y7)) rfl hq10 rfl) ?_
    refine lex.pure (v := .bool true) (pu_move rfl) ?_
    refine lex.gskip (want_f rfl rfl (show _ = Value.bool true from rfl) rfl) ?_
    refine lex.gskip (want_f rfl rfl (show _ = Value.bool true from rfl) rfl) ?_
    refine lex.gskip (want_f rfl rfl (show _ = Value.bool true from rfl) rfl) ?_
    refine lex.gskip (want_f rfl rfl (show _ = Value.bool true from rfl) rfl) ?_
    refine lex.gskip (want_f rfl rfl (show _ = Value.bool true from rfl) rfl) ?_
    refine lex.pure (v := .bool true) (pu_pickT (q := true) rfl rfl rfl) ?_
    refine lex.pure (v := .bool true) (pu_move rfl) ?_
    refine lex.gskip (want_f rfl rfl (show _ = Value.bool true from rfl) rfl) ?_
    refine lex.gskip (want_f rfl rfl (show _ = Value.bool true from rfl) rfl) ?_
    refine lex.gskip (want_f rfl rfl (show _ = Value.bool true from rfl) rfl) ?_
    refine lex.gskip (want_f rfl rfl (show _ = Value.bool true from rfl) rfl) ?_
    refine lex.gskip (want_f rfl rfl (show _ = Value.bool true from rfl) rfl) ?_
    refine lex.pure (v := .bool true) (pu_pickT (q := true) rfl rfl rfl) ?_
    refine lex.pure (v := .bool true) (pu_move rfl) ?_
    refine lex.gskip (want_f rfl rfl (show _ = Value.bool true from rfl) rfl) ?_
    refine lex.gskip (want_f rfl rfl (show _ = Value.bool true from rfl) rfl) ?_
    refine lex.gskip (want_f rfl rfl (show _ = Value.bool true from rfl) rfl) ?_
    refine lex.pure (v := .bool true) (pu_pickT (q := true) rfl rfl rfl) ?_
    refine lex.pure (v := .bool true) (pu_move rfl) ?_
    refine lex.gskip (want_f rfl rfl (show _ = Value.bool true from rfl) rfl) ?_
    refine lex.gskip (want_f rfl rfl (show _ = Value.bool true from rfl) rfl) ?_
    refine lex.gskip (want_f rfl rfl (show _ = Value.bool true from rfl) rfl) ?_
    refine lex.pure (v := .bool true) (pu_pickT (q := true) rfl rfl rfl) ?_
    refine lex.pure (v := .bool true) (pu_move rfl) ?_
    refine lex.gskip (want_f rfl rfl (show _ = Value.bool true from rfl) rfl) ?_
    refine lex.gskip (want_f rfl rfl (show _ = Value.bool true from rfl) rfl) ?_
    refine lex.gskip (want_f rfl rfl (show _ = Value.bool true from rfl) rfl) ?_
    refine lex.pure (v := .bool true) (pu_pickT (q := true) rfl rfl rfl) ?_
    refine lex.nil ?_
    refine hK6 _ _ ?_
    refine Wc.fresh fun E11 hE => ?_
    have e0 : E11 0 = .slice Ap_0 p_0.length cp_0 := (congrFun hE 0).trans rfl
    have e1 : E11 1 = .slice Aq_1 q_1.length cq_1 := (congrFun hE 1).trans rfl
    have e2 : E11 2 = .slice Arx_2 rx_2.length crx_2 := (congrFun hE 2).trans rfl
    have e6 : E11 6 = .bool false := (congrFun hE 6).trans rfl
    have e54 : E11 54 = .bool true := (congrFun hE 54).trans rfl
    clear hE
    refine Wc.cond_true (e54) ?_
    refine Wc.seq fun K12 hK12 => ?_
    refine Wc.region (by decide +kernel) ?_
    obtain ⟨y13, h14, hb⟩ := bd hb
    refine lex.cl (⟨_, _, op_call (vs := []) Try.call10 rfl rfl rfl, law30_awake_ok n hC.lt  h14⟩) ?_
    rintro _ w15 ⟨rfl, hK⟩
    replace hC := hC.merge hK
    clear hK
    refine lex.pure (v := .bool y13) (pu_assign rfl) ?_
    refine lex.nil ?_
    refine hK12 _ _ ?_
    obtain rfl := Option.some.inj hb
    refine Wc.ret ?_
    refine hKR _ _ ?_
    refine ⟨_, res1 Try.results6 (show RV _ _ _ (.tmp _) (.bool y13) from rfl), _, rfl, rfl, hC.sel [] (by decide)⟩
  · replace hb := (cF hq10).symm.trans hb
    refine lex.gpure (want_t rfl rfl (show _ = Value.bool (!y7) from rfl) hq10) (v := .slice Ap_0 p_0.length cp_0) (pu_move rfl) ?_
    refine lex.gpure (want_t rfl rfl (show _ = Value.bool (!y7) from rfl) hq10) (v := .int .i64 (p_0.length : Int)) (pu_len (A := Ap_0) (n := p_0.length) (m := cp_0) Try.underlying28 rfl) ?_
    refine lex.gpure (want_t rfl rfl (show _ = Value.bool (!y7) from rfl) hq10) (v := .bool (decide (30 < (p_0.length : Int)))) (pu_gtr (k := .i64) (a := (p_0.length : Int)) (b := 30) rfl rfl) ?_
    refine lex.pure (v := .bool (decide (30 < (p_0.length : Int)))) (pu_pickF (q := (!y7)) rfl hq10 rfl) ?_
    refine lex.pure (v := .bool (decide (30 < (p_0.length : Int)))) (pu_move rfl) ?_
    rcases bS (decide (30 < (p_0.length : Int))) with hq16 | hq16
    · replace hb := (cT hq16).symm.trans hb
      refine lex.gskip (want_f rfl rfl (show _ = Value.bool (decide (30 < (p_0.length : Int))) from rfl) hq16) ?_
      refine lex.gskip (want_f rfl rfl (show _ = Value.bool (decide (30 < (p_0.length : Int))) from rfl) hq16) ?_
      refine lex.gskip (want_f rfl rfl (show _ = Value.bool (decide (30 < (p_0.length : Int))) from rfl) hq16) ?_
      refine lex.gskip (want_f rfl rfl (show _ = Value.bool (decide (30 < (p_0.length : Int))) from rfl) hq16) ?_
      refine lex.gskip (want_f rfl rfl (show _ = Value.bool (decide (30 < (p_0.length : Int))) from rfl) hq16) ?_
      refine lex.pure (v := .bool true) (pu_pickT (q := (decide (30 < (p_0.length : Int)))) rfl hq16 rfl) ?_
      refine lex.pure (v := .bool true) (pu_move rfl) ?_
      refine lex.gskip (want_f rfl rfl (show _ = Value.bool true from rfl) rfl) ?_
      refine lex.gskip (want_f rfl rfl (show _ = Value.bool true from rfl) rfl) ?_
      refine lex.gskip (want_f rfl rfl (show _ = Value.bool true from rfl) rfl) ?_
      refine lex.gskip (want_f rfl rfl (show _ = Value.bool true from rfl) rfl) ?_
      refine lex.gskip (want_f rfl rfl (show _ = Value.bool true from rfl) rfl) ?_
      refine lex.pure (v := .bool true) (pu_pickT (q := true) rfl rfl rfl) ?_
      refine lex.pure (v := .bool true) (pu_move rfl) ?_
      refine lex.gskip (want_f rfl rfl (show _ = Value.bool true from rfl) rfl) ?_
      refine lex.gskip (want_f rfl rfl (show _ = Value.bool true from rfl) rfl) ?_
      refine lex.gskip (want_f rfl rfl (show _ = Value.bool true from rfl) rfl) ?_
      refine lex.pure (v := .bool true) (pu_pickT (q := true) rfl rfl rfl) ?_
      refine lex.pure (v := .bool true) (pu_move rfl) ?_
      refine lex.gskip (want_f rfl rfl (show _ = Value.bool true from rfl) rfl) ?_
      refine lex.gskip (want_f rfl rfl (show _ = Value.bool true from rfl) rfl) ?_
      refine lex.gskip (want_f rfl rfl (show _ = Value.bool true from rfl) rfl) ?_
      refine lex.pure (v := .bool true) (pu_pickT (q := true) rfl rfl rfl) ?_
      refine lex.pure (v := .bool true) (pu_move rfl) ?_
      refine lex.gskip (want_f rfl rfl (show _ = Value.bool true from rfl) rfl) ?_
      refine lex.gskip (want_f rfl rfl (show _ = Value.bool true from rfl) rfl) ?_
      refine lex.gskip (want_f rfl rfl (show _ = Value.bool true from rfl) rfl) ?_
      refine lex.pure (v := .bool true) (pu_pickT (q := true) rfl rfl rfl) ?_
      refine lex.nil ?_
      refine hK6 _ _ ?_
      refine Wc.fresh fun E17 hE => ?_
      have e0 : E17 0 = .slice Ap_0 p_0.length cp_0 := (congrFun hE 0).trans rfl
      have e1 : E17 1 = .slice Aq_1 q_1.length cq_1 := (congrFun hE 1).trans rfl
      have e2 : E17 2 = .slice Arx_2 rx_2.length crx_2 := (congrFun hE 2).trans rfl
      have e6 : E17 6 = .bool false := (congrFun hE 6).trans rfl
      have e54 : E17 54 = .bool true := (congrFun hE 54).trans rfl
      clear hE
      refine Wc.cond_true (e54) ?_
      refine Wc.seq fun K18 hK18 => ?_
      refine Wc.region (by decide +kernel) ?_
      obtain ⟨y19, h20, hb⟩ := bd hb
      refine lex.cl (⟨_, _, op_call (vs := []) Try.call10 rfl rfl rfl, law30_awake_ok n hC.lt  h20⟩) ?_
      rintro _ w21 ⟨rfl, hK⟩
      replace hC := hC.merge hK
      clear hK
      refine lex.pure (v := .bool y19) (pu_assign rfl) ?_
      refine lex.nil ?_
      refine hK18 _ _ ?_
      obtain rfl := Option.some.inj hb
      refine Wc.ret ?_
      refine hKR _ _ ?_
      refine ⟨_, res1 Try.results6 (show RV _ _ _ (.tmp _) (.bool y19) from rfl), _, rfl, rfl, hC.sel [] (by decide)⟩
    · replace hb := (cF hq16).symm.trans hb
      refine lex.gpure (want_t rfl rfl (show _ = Value.bool (decide (30 < (p_0.length : Int))) from rfl) hq16) (v := .slice Aq_1 q_1.length cq_1) (pu_move rfl) ?_
      refine lex.gpure (want_t rfl rfl (show _ = Value.bool (decide (30 < (p_0.length : Int))) from rfl) hq16) (v := .int .i64 (q_1.length : Int)) (pu_len (A := Aq_1) (n := q_1.length) (m := cq_1) Try.underlying28 rfl) ?_
      refine lex.gpure (want_t rfl rfl (show _ = Value.bool (decide (30 < (p_0.length : Int))) from rfl) hq16) (v := .slice Ap_0 p_0.length cp_0) (pu_move rfl) ?_
      refine lex.gpure (want_t rfl rfl (show _ = Value.bool (decide (30 < (p_0.length : Int))) from rfl) hq16) (v := .int .i64 (p_0.length : Int)) (pu_len (A := Ap_0) (n := p_0.length) (m := cp_0) Try.underlying28 rfl) ?_
      refine lex.gpure (want_t rfl rfl (show _ = Value.bool (decide (30 < (p_0.length : Int))) from rfl) hq16) (v := .bool (!(decide ((q_1.length : Int) = (p_0.length : Int))))) (pu_neq (k := .i64) (a := (q_1.length : Int)) (b := (p_0.length : Int)) rfl rfl) ?_
      refine lex.pure (v := .bool (!(decide ((q_1.length : Int) = (p_0.length : Int))))) (pu_pickF (q := (decide (30 < (p_0.length : Int)))) rfl hq16 rfl) ?_
      refine lex.pure (v := .bool (!(decide ((q_1.length : Int) = (p_0.length : Int))))) (pu_move rfl) ?_
      rcases bS (!(decide ((q_1.length : Int) = (p_0.length : Int)))) with hq22 | hq22
      · replace hb := (cT hq22).symm.trans hb
        refine lex.gskip (want_f rfl rfl (show _ = Value.bool (!(decide ((q_1.length : Int) = (p_0.length : Int)))) from rfl) hq22) ?_
        refine lex.gskip (want_f rfl rfl (show _ = Value.bool (!(decide ((q_1.length : Int) = (p_0.length : Int)))) from rfl) hq22) ?_
        refine lex.gskip (want_f rfl rfl (show _ = Value.bool (!(decide ((q_1.length : Int) = (p_0.length : Int)))) from rfl) hq22) ?_
        refine lex.gskip (want_f rfl rfl (show _ = Value.bool (!(decide ((q_1.length : Int) = (p_0.length : Int)))) from rfl) hq22) ?_
        refine lex.gskip (want_f rfl rfl (show _ = Value.bool (!(decide ((q_1.length : Int) = (p_0.length : Int)))) from rfl) hq22) ?_
        refine lex.pure (v := .bool true) (pu_pickT (q := (!(decide ((q_1.length : Int) = (p_0.length : Int))))) rfl hq22 rfl) ?_
        refine lex.pure (v := .bool true) (pu_move rfl) ?_
        refine lex.gskip (want_f rfl rfl (show _ = Value.bool true from rfl) rfl) ?_
        refine lex.gskip (want_f rfl rfl (show _ = Value.bool true from rfl) rfl) ?_
        refine lex.gskip (want_f rfl rfl (show _ = Value.bool true from rfl) rfl) ?_
        refine lex.pure (v := .bool true) (pu_pickT (q := true) rfl rfl rfl) ?_
        refine lex.pure (v := .bool true) (pu_move rfl) ?_
        refine lex.gskip (want_f rfl rfl (show _ = Value.bool true from rfl) rfl) ?_
        refine lex.gskip (want_f rfl rfl (show _ = Value.bool true from rfl) rfl) ?_
        refine lex.gskip (want_f rfl rfl (show _ = Value.bool true from rfl) rfl) ?_
        refine lex.pure (v := .bool true) (pu_pickT (q := true) rfl rfl rfl) ?_
        refine lex.pure (v := .bool true) (pu_move rfl) ?_
        refine lex.gskip (want_f rfl rfl (show _ = Value.bool true from rfl) rfl) ?_
        refine lex.gskip (want_f rfl rfl (show _ = Value.bool true from rfl) rfl) ?_
        refine lex.gskip (want_f rfl rfl (show _ = Value.bool true from rfl) rfl) ?_
        refine lex.pure (v := .bool true) (pu_pickT (q := true) rfl rfl rfl) ?_
        refine lex.nil ?_
        refine hK6 _ _ ?_
        refine Wc.fresh fun E23 hE => ?_
        have e0 : E23 0 = .slice Ap_0 p_0.length cp_0 := (congrFun hE 0).trans rfl
        have e1 : E23 1 = .slice Aq_1 q_1.length cq_1 := (congrFun hE 1).trans rfl
        have e2 : E23 2 = .slice Arx_2 rx_2.length crx_2 := (congrFun hE 2).trans rfl
        have e6 : E23 6 = .bool false := (congrFun hE 6).trans rfl
        have e54 : E23 54 = .bool true := (congrFun hE 54).trans rfl
        clear hE
        refine Wc.cond_true (e54) ?_
        refine Wc.seq fun K24 hK24 => ?_
        refine Wc.region (by decide +kernel) ?_
        obtain ⟨y25, h26, hb⟩ := bd hb
        refine lex.cl (⟨_, _, op_call (vs := []) Try.call10 rfl rfl rfl, law30_awake_ok n hC.lt  h26⟩) ?_
        rintro _ w27 ⟨rfl, hK⟩
        replace hC := hC.merge hK
        clear hK
        refine lex.pure (v := .bool y25) (pu_assign rfl) ?_
        refine lex.nil ?_
        refine hK24 _ _ ?_
        obtain rfl := Option.some.inj hb
        refine Wc.ret ?_
        refine hKR _ _ ?_
        refine ⟨_, res1 Try.results6 (show RV _ _ _ (.tmp _) (.bool y25) from rfl), _, rfl, rfl, hC.sel [] (by decide)⟩
      · replace hb := (cF hq22).symm.trans hb
        refine lex.gpure (want_t rfl rfl (show _ = Value.bool (!(decide ((q_1.length : Int) = (p_0.length : Int)))) from rfl) hq22) (v := .slice Arx_2 rx_2.length crx_2) (pu_move rfl) ?_
        refine lex.gpure (want_t rfl rfl (show _ = Value.bool (!(decide ((q_1.length : Int) = (p_0.length : Int)))) from rfl) hq22) (v := .int .i64 (rx_2.length : Int)) (pu_len (A := Arx_2) (n := rx_2.length) (m := crx_2) Try.underlying28 rfl) ?_
        refine lex.gpure (want_t rfl rfl (show _ = Value.bool (!(decide ((q_1.length : Int) = (p_0.length : Int)))) from rfl) hq22) (v := .slice Ap_0 p_0.length cp_0) (pu_move rfl) ?_
        refine lex.gpure (want_t rfl rfl (show _ = Value.bool (!(decide ((q_1.length : Int) = (p_0.length : Int)))) from rfl) hq22) (v := .int .i64 (p_0.length : Int)) (pu_len (A := Ap_0) (n := p_0.length) (m := cp_0) Try.underlying28 rfl) ?_
        refine lex.gpure (want_t rfl rfl (show _ = Value.bool (!(decide ((q_1.length : Int) = (p_0.length : Int)))) from rfl) hq22) (v := .bool (!(decide ((rx_2.length : Int) = (p_0.length : Int))))) (pu_neq (k := .i64) (a := (rx_2.length : Int)) (b := (p_0.length : Int)) rfl rfl) ?_
        refine lex.pure (v := .bool (!(decide ((rx_2.length : Int) = (p_0.length : Int))))) (pu_pickF (q := (!(decide ((q_1.length : Int) = (p_0.length : Int))))) rfl hq22 rfl) ?_
        refine lex.pure (v := .bool (!(decide ((rx_2.length : Int) = (p_0.length : Int))))) (pu_move rfl) ?_
        rcases bS (!(decide ((rx_2.length : Int) = (p_0.length : Int)))) with hq28 | hq28
        · replace hb := (cT hq28).symm.trans hb
          refine lex.gskip (want_f rfl rfl (show _ = Value.bool (!(decide ((rx_2.length : Int) = (p_0.length : Int)))) from rfl) hq28) ?_
          refine lex.gskip (want_f rfl rfl (show _ = Value.bool (!(decide ((rx_2.length : Int) = (p_0.length : Int)))) from rfl) hq28) ?_
          refine lex.gskip (want_f rfl rfl (show _ = Value.bool (!(decide ((rx_2.length : Int) = (p_0.length : Int)))) from rfl) hq28) ?_
          refine lex.pure (v := .bool true) (pu_pickT (q := (!(decide ((rx_2.length : Int) = (p_0.length : Int))))) rfl hq28 rfl) ?_
          refine lex.pure (v := .bool true) (pu_move rfl) ?_
          refine lex.gskip (want_f rfl rfl (show _ = Value.bool true from rfl) rfl) ?_
          refine lex.gskip (want_f rfl rfl (show _ = Value.bool true from rfl) rfl) ?_
          refine lex.gskip (want_f rfl rfl (show _ = Value.bool true from rfl) rfl) ?_
          refine lex.pure (v := .bool true) (pu_pickT (q := true) rfl rfl rfl) ?_
          refine lex.pure (v := .bool true) (pu_move rfl) ?_
          refine lex.gskip (want_f rfl rfl (show _ = Value.bool true from rfl) rfl) ?_
          refine lex.gskip (want_f rfl rfl (show _ = Value.bool true from rfl) rfl) ?_
          refine lex.gskip (want_f rfl rfl (show _ = Value.bool true from rfl) rfl) ?_
          refine lex.pure (v := .bool true) (pu_pickT (q := true) rfl rfl rfl) ?_
          refine lex.nil ?_
          refine hK6 _ _ ?_
          refine Wc.fresh fun E29 hE => ?_
          have e0 : E29 0 = .slice Ap_0 p_0.length cp_0 := (congrFun hE 0).trans rfl
          have e1 : E29 1 = .slice Aq_1 q_1.length cq_1 := (congrFun hE 1).trans rfl
          have e2 : E29 2 = .slice Arx_2 rx_2.length crx_2 := (congrFun hE 2).trans rfl
          have e6 : E29 6 = .bool false := (congrFun hE 6).trans rfl
          have e54 : E29 54 = .bool true := (congrFun hE 54).trans rfl
          clear hE
          refine Wc.cond_true (e54) ?_
          refine Wc.seq fun K30 hK30 => ?_
          refine Wc.region (by decide +kernel) ?_
          obtain ⟨y31, h32, hb⟩ := bd hb
          refine lex.cl (⟨_, _, op_call (vs := []) Try.call10 rfl rfl rfl, law30_awake_ok n hC.lt  h32⟩) ?_
          rintro _ w33 ⟨rfl, hK⟩
          replace hC := hC.merge hK
          clear hK
          refine lex.pure (v := .bool y31) (pu_assign rfl) ?_
          refine lex.nil ?_
          refine hK30 _ _ ?_
          obtain rfl := Option.some.inj hb
          refine Wc.ret ?_
          refine hKR _ _ ?_
          refine ⟨_, res1 Try.results6 (show RV _ _ _ (.tmp _) (.bool y31) from rfl), _, rfl, rfl, hC.sel [] (by decide)⟩
        · replace hb := (cF hq28).symm.trans hb
          refine lex.gpure (want_t rfl rfl (show _ = Value.bool (!(decide ((rx_2.length : Int) = (p_0.length : Int)))) from rfl) hq28) (v := .slice Ap_0 p_0.length cp_0) (pu_move rfl) ?_
          obtain ⟨y34, h35, hb⟩ := bd hb
          refine lex.gcl (want_t rfl rfl (show _ = Value.bool (!(decide ((rx_2.length : Int) = (p_0.length : Int)))) from rfl) hq28) (⟨_, _, op_call (vs := [.slice Ap_0 p_0.length cp_0]) Try.call19 rfl rfl rfl, perm_Valid_ok n hC.lt (hC.rd (i := 2) rfl) h35⟩) ?_
          rintro _ w36 ⟨rfl, hK⟩
          replace hC := hC.merge hK
          clear hK
          refine lex.gpure (want_t rfl rfl (show _ = Value.bool (!(decide ((rx_2.length : Int) = (p_0.length : Int)))) from rfl) hq28) (v := .bool (!y34)) (pu_not (q := y34) rfl) ?_
          refine lex.pure (v := .bool (!y34)) (pu_pickF (q := (!(decide ((rx_2.length : Int) = (p_0.length : Int))))) rfl hq28 rfl) ?_
          refine lex.pure (v := .bool (!y34)) (pu_move rfl) ?_
          rcases bS (!y34) with hq37 | hq37
          · replace hb := (cT hq37).symm.trans hb
            refine lex.gskip (want_f rfl rfl (show _ = Value.bool (!y34) from rfl) hq37) ?_
            refine lex.gskip (want_f rfl rfl (show _ = Value.bool (!y34) from rfl) hq37) ?_
            refine lex.gskip (want_f rfl rfl (show _ = Value.bool (!y34) from rfl) hq37) ?_
            refine lex.pure (v := .bool true) (pu_pickT (q := (!y34)) rfl hq37 rfl) ?_
            refine lex.pure (v := .bool true) (pu_move rfl) ?_
            refine lex.gskip (want_f rfl rfl (show _ = Value.bool true from rfl) rfl) ?_
            refine lex.gskip (want_f rfl rfl (show _ = Value.bool true from rfl) rfl) ?_
            refine lex.gskip (want_f rfl rfl (show _ = Value.bool true from rfl) rfl) ?_
            refine lex.pure (v := .bool true) (pu_pickT (q := true) rfl rfl rfl) ?_
            refine lex.nil ?_
            refine hK6 _ _ ?_
            refine Wc.fresh fun E38 hE => ?_
            have e0 : E38 0 = .slice Ap_0 p_0.length cp_0 := (congrFun hE 0).trans rfl
            have e1 : E38 1 = .slice Aq_1 q_1.length cq_1 := (congrFun hE 1).trans rfl
            have e2 : E38 2 = .slice Arx_2 rx_2.length crx_2 := (congrFun hE 2).trans rfl
            have e6 : E38 6 = .bool false := (congrFun hE 6).trans rfl
            have e54 : E38 54 = .bool true := (congrFun hE 54).trans rfl
            clear hE
            refine Wc.cond_true (e54) ?_
            refine Wc.seq fun K39 hK39 => ?_
            refine Wc.region (by decide +kernel) ?_
            obtain ⟨y40, h41, hb⟩ := bd hb
            refine lex.cl (⟨_, _, op_call (vs := []) Try.call10 rfl rfl rfl, law30_awake_ok n hC.lt  h41⟩) ?_
            rintro _ w42 ⟨rfl, hK⟩
            replace hC := hC.merge hK
            clear hK
            refine lex.pure (v := .bool y40) (pu_assign rfl) ?_
            refine lex.nil ?_
            refine hK39 _ _ ?_
            obtain rfl := Option.some.inj hb
            refine Wc.ret ?_
            refine hKR _ _ ?_
            refine ⟨_, res1 Try.results6 (show RV _ _ _ (.tmp _) (.bool y40) from rfl), _, rfl, rfl, hC.sel [] (by decide)⟩
          · replace hb := (cF hq37).symm.trans hb
            refine lex.gpure (want_t rfl rfl (show _ = Value.bool (!y34) from rfl) hq37) (v := .slice Aq_1 q_1.length cq_1) (pu_move rfl) ?_
            obtain ⟨y43, h44, hb⟩ := bd hb
            refine lex.gcl (want_t rfl rfl (show _ = Value.bool (!y34) from rfl) hq37) (⟨_, _, op_call (vs := [.slice Aq_1 q_1.length cq_1]) Try.call19 rfl rfl rfl, perm_Valid_ok n hC.lt (hC.rd (i := 1) rfl) h44⟩) ?_
            rintro _ w45 ⟨rfl, hK⟩
            replace hC := hC.merge hK
            clear hK
            refine lex.gpure (want_t rfl rfl (show _ = Value.bool (!y34) from rfl) hq37) (v := .bool (!y43)) (pu_not (q := y43) rfl) ?_
            refine lex.pure (v := .bool (!y43)) (pu_pickF (q := (!y34)) rfl hq37 rfl) ?_
            refine lex.pure (v := .bool (!y43)) (pu_move rfl) ?_
            rcases bS (!y43) with hq46 | hq46
            · replace hb := (cT hq46).symm.trans hb
              refine lex.gskip (want_f rfl rfl (show _ = Value.bool (!y43) from rfl) hq46) ?_
              refine lex.gskip (want_f rfl rfl (show _ = Value.bool (!y43) from rfl) hq46) ?_
              refine lex.gskip (want_f rfl rfl (show _ = Value.bool (!y43) from rfl) hq46) ?_
              refine lex.pure (v := .bool true) (pu_pickT (q := (!y43)) rfl hq46 rfl) ?_
              refine lex.nil ?_
              refine hK6 _ _ ?_
              refine Wc.fresh fun E47 hE => ?_
              have e0 : E47 0 = .slice Ap_0 p_0.length cp_0 := (congrFun hE 0).trans rfl
              have e1 : E47 1 = .slice Aq_1 q_1.length cq_1 := (congrFun hE 1).trans rfl
              have e2 : E47 2 = .slice Arx_2 rx_2.length crx_2 := (congrFun hE 2).trans rfl
              have e6 : E47 6 = .bool false := (congrFun hE 6).trans rfl
              have e54 : E47 54 = .bool true := (congrFun hE 54).trans rfl
              clear hE
              refine Wc.cond_true (e54) ?_
              refine Wc.seq fun K48 hK48 => ?_
              refine Wc.region (by decide +kernel) ?_
              obtain ⟨y49, h50, hb⟩ := bd hb
              refine lex.cl (⟨_, _, op_call (vs := []) Try.call10 rfl rfl rfl, law30_awake_ok n hC.lt  h50⟩) ?_
              rintro _ w51 ⟨rfl, hK⟩
              replace hC := hC.merge hK
              clear hK
              refine lex.pure (v := .bool y49) (pu_assign rfl) ?_
              refine lex.nil ?_
              refine hK48 _ _ ?_
              obtain rfl := Option.some.inj hb
              refine Wc.ret ?_
              refine hKR _ _ ?_
              refine ⟨_, res1 Try.results6 (show RV _ _ _ (.tmp _) (.bool y49) from rfl), _, rfl, rfl, hC.sel [] (by decide)⟩
            · replace hb := (cF hq46).symm.trans hb
              refine lex.gpure (want_t rfl rfl (show _ = Value.bool (!y43) from rfl) hq46) (v := .slice Arx_2 rx_2.length crx_2) (pu_move rfl) ?_
              obtain ⟨y52, h53, hb⟩ := bd hb
              refine lex.gcl (want_t rfl rfl (show _ = Value.bool (!y43) from rfl) hq46) (⟨_, _, op_call (vs := [.slice Arx_2 rx_2.length crx_2]) Try.call19 rfl rfl rfl, perm_Valid_ok n hC.lt (hC.rd (i := 0) rfl) h53⟩) ?_
              rintro _ w54 ⟨rfl, hK⟩
              replace hC := hC.merge hK
              clear hK
              refine lex.gpure (want_t rfl rfl (show _ = Value.bool (!y43) from rfl) hq46) (v := .bool (!y52)) (pu_not (q := y52) rfl) ?_
              refine lex.pure (v := .bool (!y52)) (pu_pickF (q := (!y43)) rfl hq46 rfl) ?_
              refine lex.nil ?_
              refine hK6 _ _ ?_
              refine Wc.fresh fun E55 hE => ?_
              have e0 : E55 0 = .slice Ap_0 p_0.length cp_0 := (congrFun hE 0).trans rfl
              have e1 : E55 1 = .slice Aq_1 q_1.length cq_1 := (congrFun hE 1).trans rfl
              have e2 : E55 2 = .slice Arx_2 rx_2.length crx_2 := (congrFun hE 2).trans rfl
              have e6 : E55 6 = .bool false := (congrFun hE 6).trans rfl
              have e54 : E55 54 = .bool (!y52) := (congrFun hE 54).trans rfl
              clear hE
              refine Wc.cond (t := (!y52)) (e54) (fun hq56 => ?_) (fun hq56 => ?_)
              · replace hb := (cT hq56).symm.trans hb
                refine Wc.seq fun K57 hK57 => ?_
                refine Wc.region (by decide +kernel) ?_
                obtain ⟨y58, h59, hb⟩ := bd hb
                refine lex.cl (⟨_, _, op_call (vs := []) Try.call10 rfl rfl rfl, law30_awake_ok n hC.lt  h59⟩) ?_
                rintro _ w60 ⟨rfl, hK⟩
                replace hC := hC.merge hK
                clear hK
                refine lex.pure (v := .bool y58) (pu_assign rfl) ?_
                refine lex.nil ?_
                refine hK57 _ _ ?_
                obtain rfl := Option.some.inj hb
                refine Wc.ret ?_
                refine hKR _ _ ?_
                refine ⟨_, res1 Try.results6 (show RV _ _ _ (.tmp _) (.bool y58) from rfl), _, rfl, rfl, hC.sel [] (by decide)⟩
              · replace hb := (cF hq56).symm.trans hb
                refine Wc.skip ?_
                refine hK5 _ _ ?_
                refine Wc.seq fun K61 hK61 => ?_
                refine Wc.region (by decide +kernel) ?_
                refine lex.pure (v := .slice Ap_0 p_0.length cp_0) (pu_move e0) ?_
                refine lex.pure (v := .slice Aq_1 q_1.length cq_1) (pu_move e1) ?_
                obtain ⟨y62, h63, hb⟩ := bd hb
                refine lex.cl (⟨_, _, op_call (vs := [.slice Ap_0 p_0.length cp_0, .slice Aq_1 q_1.length cq_1]) Try.call20 rfl rfl rfl, perm_Mul_ok n hC.lt (hC.rd (i := 2) rfl) (hC.rd (i := 1) rfl) h63⟩) ?_
                rintro _ w69 ⟨A64, m65, c66, rfl, hr68, hK⟩
                replace hC := hC.merge hK
                clear hK
                obtain ⟨rfl, hl70, hc71⟩ := (hC.ow (i := 0) rfl).sl_len
                refine lex.pure (v := .tuple #[.slice A64 y62.1.length c66, .int .i64 y62.2]) (pu_move rfl) ?_
                refine lex.pure (v := .slice A64 y62.1.length c66) (pu_extract rfl rfl) ?_
                refine lex.pure (v := .int .i64 y62.2) (pu_extract rfl rfl) ?_
                refine lex.pure (v := .slice A64 y62.1.length c66) (pu_assign rfl) ?_
                refine lex.pure (v := .int .i64 y62.2) (pu_assign rfl) ?_
                refine lex.nil ?_
                refine hK61 _ _ ?_
                refine Wc.seq fun K72 hK72 => ?_
                refine Wc.region (by decide +kernel) ?_
                refine lex.pure (v := .slice Aq_1 q_1.length cq_1) (pu_move e1) ?_
                refine lex.pure (v := .slice Arx_2 rx_2.length crx_2) (pu_move e2) ?_
                obtain ⟨y73, h74, hb⟩ := bd hb
                refine lex.cl (⟨_, _, op_call (vs := [.slice Aq_1 q_1.length cq_1, .slice Arx_2 rx_2.length crx_2]) Try.call20 rfl rfl rfl, perm_Mul_ok n hC.lt (hC.rd (i := 2) rfl) (hC.rd (i := 1) rfl) h74⟩) ?_
                rintro _ w80 ⟨A75, m76, c77, rfl, hr79, hK⟩
                replace hC := hC.merge hK
                clear hK
                obtain ⟨rfl, hl81, hc82⟩ := (hC.ow (i := 0) rfl).sl_len
                refine lex.pure (v := .tuple #[.slice A75 y73.1.length c77, .int .i64 y73.2]) (pu_move rfl) ?_
                refine lex.pure (v := .slice A75 y73.1.length c77) (pu_extract rfl rfl) ?_
                refine lex.pure (v := .int .i64 y73.2) (pu_extract rfl rfl) ?_
                refine lex.pure (v := .slice A75 y73.1.length c77) (pu_assign rfl) ?_
                refine lex.pure (v := .int .i64 y73.2) (pu_assign rfl) ?_
                refine lex.nil ?_
                refine hK72 _ _ ?_
                refine Wc.fresh fun E83 hE => ?_
                have e0 : E83 0 = .slice Ap_0 p_0.length cp_0 := (congrFun hE 0).trans e0
                have e1 : E83 1 = .slice Aq_1 q_1.length cq_1 := (congrFun hE 1).trans e1
                have e2 : E83 2 = .slice Arx_2 rx_2.length crx_2 := (congrFun hE 2).trans e2
                have e6 : E83 6 = .bool false := (congrFun hE 6).trans e6
                have e7 : E83 7 = .slice A64 y62.1.length c66 := (congrFun hE 7).trans rfl
                have e8 : E83 8 = .int .i64 y62.2 := (congrFun hE 8).trans rfl
                have e9 : E83 9 = .slice A75 y73.1.length c77 := (congrFun hE 9).trans rfl
                have e10 : E83 10 = .int .i64 y73.2 := (congrFun hE 10).trans rfl
                clear hE
                refine Wc.seq fun K84 hK84 => ?_
                refine Wc.region (by decide +kernel) ?_
                refine lex.pure (v := .slice A64 y62.1.length c66) (pu_move e7) ?_
                refine lex.pure (v := .slice Arx_2 rx_2.length crx_2) (pu_move e2) ?_
                obtain ⟨y85, h86, hb⟩ := bd hb
                refine lex.cl (⟨_, _, op_call (vs := [.slice A64 y62.1.length c66, .slice Arx_2 rx_2.length crx_2]) Try.call20 rfl rfl rfl, perm_Mul_ok n (hC.lentLt [.slice A64 y62.1.length c66]) ((hC.ow (i := 1) rfl).lend (vs := [.slice A64 y62.1.length c66]) (by simp)) ((hC.rd (i := 2) rfl).lent [.slice A64 y62.1.length c66]) h86⟩) ?_
                rintro _ w92 ⟨A87, m88, c89, rfl, hr91, hK⟩
                replace hC := hC.mergeF hK rfl
                clear hK
                obtain ⟨rfl, hl93, hc94⟩ := (hC.ow (i := 0) rfl).sl_len
                refine lex.pure (v := .tuple #[.slice A87 y85.1.length c89, .int .i64 y85.2]) (pu_move rfl) ?_
                refine lex.pure (v := .slice A87 y85.1.length c89) (pu_extract rfl rfl) ?_
                refine lex.pure (v := .int .i64 y85.2) (pu_extract rfl rfl) ?_
                refine lex.pure (v := .slice A87 y85.1.length c89) (pu_assign rfl) ?_
                refine lex.pure (v := .int .i64 y85.2) (pu_assign rfl) ?_
                refine lex.nil ?_
                refine hK84 _ _ ?_
                refine Wc.seq fun K95 hK95 => ?_
                refine Wc.region (by decide +kernel) ?_
                refine lex.pure (v := .slice Ap_0 p_0.length cp_0) (pu_move e0) ?_
                refine lex.pure (v := .slice A75 y73.1.length c77) (pu_move e9) ?_
                obtain ⟨y96, h97, hb⟩ := bd hb
                refine lex.cl (⟨_, _, op_call (vs := [.slice Ap_0 p_0.length cp_0, .slice A75 y73.1.length c77]) Try.call20 rfl rfl rfl, perm_Mul_ok n (hC.lentLt [.slice A75 y73.1.length c77]) ((hC.rd (i := 5) rfl).lent [.slice A75 y73.1.length c77]) ((hC.ow (i := 1) rfl).lend (vs := [.slice A75 y73.1.length c77]) (by simp)) h97⟩) ?_
                rintro _ w103 ⟨A98, m99, c100, rfl, hr102, hK⟩
                replace hC := hC.mergeF hK rfl
                clear hK
                obtain ⟨rfl, hl104, hc105⟩ := (hC.ow (i := 0) rfl).sl_len
                refine lex.pure (v := .tuple #[.slice A98 y96.1.length c100, .int .i64 y96.2]) (pu_move rfl) ?_
                refine lex.pure (v := .slice A98 y96.1.length c100) (pu_extract rfl rfl) ?_
                refine lex.pure (v := .int .i64 y96.2) (pu_extract rfl rfl) ?_
                refine lex.pure (v := .slice A98 y96.1.length c100) (pu_assign rfl) ?_
                refine lex.pure (v := .int .i64 y96.2) (pu_assign rfl) ?_
                refine lex.nil ?_
                refine hK95 _ _ ?_
                refine Wc.fresh fun E106 hE => ?_
                have e0 : E106 0 = .slice Ap_0 p_0.length cp_0 := (congrFun hE 0).trans e0
                have e1 : E106 1 = .slice Aq_1 q_1.length cq_1 := (congrFun hE 1).trans e1
                have e6 : E106 6 = .bool false := (congrFun hE 6).trans e6
                have e7 : E106 7 = .slice A64 y62.1.length c66 := (congrFun hE 7).trans e7
                have e8 : E106 8 = .int .i64 y62.2 := (congrFun hE 8).trans e8
                have e10 : E106 10 = .int .i64 y73.2 := (congrFun hE 10).trans e10
                have e11 : E106 11 = .slice A87 y85.1.length c89 := (congrFun hE 11).trans rfl
                have e12 : E106 12 = .int .i64 y85.2 := (congrFun hE 12).trans rfl
                have e13 : E106 13 = .slice A98 y96.1.length c100 := (congrFun hE 13).trans rfl
                have e14 : E106 14 = .int .i64 y96.2 := (congrFun hE 14).trans rfl
                clear hE
                refine Wc.seq fun K107 hK107 => ?_
                refine Wc.region (by decide +kernel) ?_
                refine lex.pure (v := .slice Ap_0 p_0.length cp_0) (pu_move e0) ?_
                refine lex.pure (v := .slice Ap_0 p_0.length cp_0) (pu_move e0) ?_
                obtain ⟨y108, h109, hb⟩ := bd hb
                refine lex.cl (⟨_, _, op_call (vs := [.slice Ap_0 p_0.length cp_0]) Try.call23 rfl rfl rfl, perm_Inverse_ok n hC.lt (hC.rd (i := 6) rfl) h109⟩) ?_
                rintro _ w114 ⟨A110, m111, c112, rfl, hK⟩
                replace hC := hC.merge hK
                clear hK
                obtain ⟨rfl, hl115, hc116⟩ := (hC.ow (i := 0) rfl).sl_len
                obtain ⟨y117, h118, hb⟩ := bd hb
                refine lex.cl (⟨_, _, op_call (vs := [.slice Ap_0 p_0.length cp_0, .slice A110 y108.length c112]) Try.call20 rfl rfl rfl, perm_Mul_ok n (hC.lentLt [.slice A110 y108.length c112]) ((hC.rd (i := 7) rfl).lent [.slice A110 y108.length c112]) ((hC.ow (i := 0) rfl).lend (vs := [.slice A110 y108.length c112]) (by simp)) h118⟩) ?_
                rintro _ w124 ⟨A119, m120, c121, rfl, hr123, hK⟩
                replace hC := hC.mergeF hK rfl
                clear hK
                obtain ⟨rfl, hl125, hc126⟩ := (hC.ow (i := 0) rfl).sl_len
                refine lex.pure (v := .tuple #[.slice A119 y117.1.length c121, .int .i64 y117.2]) (pu_move rfl) ?_
                refine lex.pure (v := .slice A119 y117.1.length c121) (pu_extract rfl rfl) ?_
                refine lex.pure (v := .int .i64 y117.2) (pu_extract rfl rfl) ?_
                refine lex.pure (v := .slice A119 y117.1.length c121) (pu_assign rfl) ?_
                refine lex.pure (v := .int .i64 y117.2) (pu_assign rfl) ?_
                refine lex.nil ?_
                refine hK107 _ _ ?_
                refine Wc.seq fun K127 hK127 => ?_
                refine Wc.seq fun K128 hK128 => ?_
                refine Wc.region (by decide +kernel) ?_
                refine lex.pure (v := .slice A119 y117.1.length c121) (pu_move rfl) ?_
                refine lex.pure (v := .int .i64 (y117.1.length : Int)) (pu_len (A := A119) (n := y117.1.length) (m := c121) Try.underlying29 rfl) ?_
                refine lex.pure (v := .int .i64 0) (pu_move rfl) ?_
                refine lex.nil ?_
                refine hK128 _ _ ?_
                refine Wc.fresh fun E129 hE => ?_
                have e0 : E129 0 = .slice Ap_0 p_0.length cp_0 := (congrFun hE 0).trans e0
                have e1 : E129 1 = .slice Aq_1 q_1.length cq_1 := (congrFun hE 1).trans e1
                have e6 : E129 6 = .bool false := (congrFun hE 6).trans e6
                have e7 : E129 7 = .slice A64 y62.1.length c66 := (congrFun hE 7).trans e7
                have e8 : E129 8 = .int .i64 y62.2 := (congrFun hE 8).trans e8
                have e10 : E129 10 = .int .i64 y73.2 := (congrFun hE 10).trans e10
                have e11 : E129 11 = .slice A87 y85.1.length c89 := (congrFun hE 11).trans e11
                have e12 : E129 12 = .int .i64 y85.2 := (congrFun hE 12).trans e12
                have e13 : E129 13 = .slice A98 y96.1.length c100 := (congrFun hE 13).trans e13
                have e14 : E129 14 = .int .i64 y96.2 := (congrFun hE 14).trans e14
                have e15 : E129 15 = .slice A119 y117.1.length c121 := (congrFun hE 15).trans rfl
                have e16 : E129 16 = .int .i64 y117.2 := (congrFun hE 16).trans rfl
                have e87 : E129 87 = .slice A119 y117.1.length c121 := (congrFun hE 87).trans rfl
                have e88 : E129 88 = .int .i64 (y117.1.length : Int) := (congrFun hE 88).trans rfl
                have e89 : E129 89 = .int .i64 0 := (congrFun hE 89).trans rfl
                clear hE
                obtain ⟨o130, hl0, hb⟩ := bd hb
                refine Wc.cut (fun E wv => ∃ (v89_0 : Int), E 0 = .slice Ap_0 p_0.length cp_0 ∧ E 1 = .slice Aq_1 q_1.length cq_1 ∧ E 6 = .bool false ∧ E 7 = .slice A64 y62.1.length c66 ∧ E 8 = .int .i64 y62.2 ∧ E 10 = .int .i64 y73.2 ∧ E 11 = .slice A87 y85.1.length c89 ∧ E 12 = .int .i64 y85.2 ∧ E 13 = .slice A98 y96.1.length c100 ∧ E 14 = .int .i64 y96.2 ∧ E 15 = .slice A119 y117.1.length c121 ∧ E 16 = .int .i64 y117.2 ∧ I64 v89_0 ∧ Cx (fun _ => False) O0 w wv [.ro (.sl (.int .i64)) [.slice Ap_0 p_0.length cp_0] p_0, .ro (.sl (.int .i64)) [.slice Aq_1 q_1.length cq_1] q_1, .own 3 (.int .i64) (.slice A64 y62.1.length c66) y62.1, .own 3 (.int .i64) (.slice A87 y85.1.length c89) y85.1, .own 3 (.int .i64) (.slice A98 y96.1.length c100) y96.1, .own 3 (.int .i64) (.slice A119 y117.1.length c121) y117.1] ∧ (cond (decide (y62.2 = 0)) (cond (decide (y73.2 = 0)) (cond (decide (y85.2 = 0)) (cond (decide (y96.2 = 0)) (cond (decide (y117.2 = 0)) (cond (decide ((y117.1.length : Int) = (p_0.length : Int))) ((F.slices_Equal_Perm_int n y85.1 y96.1).bind fun y162 => cond y162 ((F.perm_Sign n y62.1).bind fun y166 => (F.perm_Sign n p_0).bind fun y170 => (F.perm_Sign n q_1).bind fun y174 => (chk (y170 * y174)).bind fun z178 => some (decide (y166 = z178))) (some false)) (some false)) (some false)) (some false)) (some false)) (some false)) (some false) : Option (Bool)) = some r) (fun K131 hK131 => ?_) ?_
                · refine Wc.block ?_
                  refine Wc.loop (fun m E wv => ∃ (v89_0 : Int), E 0 = .slice Ap_0 p_0.length cp_0 ∧ E 1 = .slice Aq_1 q_1.length cq_1 ∧ E 6 = .bool false ∧ E 7 = .slice A64 y62.1.length c66 ∧ E 8 = .int .i64 y62.2 ∧ E 10 = .int .i64 y73.2 ∧ E 11 = .slice A87 y85.1.length c89 ∧ E 12 = .int .i64 y85.2 ∧ E 13 = .slice A98 y96.1.length c100 ∧ E 14 = .int .i64 y96.2 ∧ E 15 = .slice A119 y117.1.length c121 ∧ E 16 = .int .i64 y117.2 ∧ E 87 = .slice A119 y117.1.length c121 ∧ E 88 = .int .i64 (y117.1.length : Int) ∧ E 89 = .int .i64 v89_0 ∧ I64 v89_0 ∧ Cx (fun _ => False) O0 w wv [.ro (.sl (.int .i64)) [.slice Ap_0 p_0.length cp_0] p_0, .ro (.sl (.int .i64)) [.slice Aq_1 q_1.length cq_1] q_1, .own 3 (.int .i64) (.slice A64 y62.1.length c66) y62.1, .own 3 (.int .i64) (.slice A87 y85.1.length c89) y85.1, .own 3 (.int .i64) (.slice A98 y96.1.length c100) y96.1, .own 3 (.int .i64) (.slice A119 y117.1.length c121) y117.1] ∧ loopN m (F.law30_PermGroup_b0 n y117) v89_0 = some o130) n ⟨0, e0, e1, e6, e7, e8, e10, e11, e12, e13, e14, e15, e16, e87, e88, e89, (show I64 0 from by unfold I64; omega), hC.sel [8, 7, 5, 3, 2, 0] (by decide), hl0⟩ ?_
                  have hbK0 := hb
                  clear hb hC hl0
                  rintro m133 E135 w134 ⟨v89_0, e0, e1, e6, e7, e8, e10, e11, e12, e13, e14, e15, e16, e87, e88, e89, hrv89_0, hC, hl0⟩ K132 hK132
                  obtain ⟨m133', o136, rfl, hb, hl0⟩ := loopN_some hl0
                  unfold F.law30_PermGroup_b0 at hb
                  refine Wc.seq fun K137 hK137 => ?_
                  refine Wc.region (by decide +kernel) ?_
                  refine lex.pure (v := .bool (decide (v89_0 < (y117.1.length : Int)))) (pu_lss (k := .i64) (a := v89_0) (b := (y117.1.length : Int)) e89 e88) ?_
                  refine lex.nil ?_
                  refine hK137 _ _ ?_
                  refine Wc.seq fun K138 hK138 => ?_
                  refine Wc.cond (t := (decide (v89_0 < (y117.1.length : Int)))) (rfl) (fun hq139 => ?_) (fun hq139 => ?_)
                  · replace hb := (cT hq139).symm.trans hb
                    refine Wc.skip ?_
                    refine hK138 _ _ ?_
                    refine Wc.seq fun K140 hK140 => ?_
                    refine Wc.block ?_
                    refine Wc.seq fun K141 hK141 => ?_
                    refine Wc.region (by decide +kernel) ?_
                    refine lex.pure (v := .int .i64 v89_0) (pu_move e89) ?_
                    obtain ⟨x142, h143, hb⟩ := bd hb
                    obtain ⟨ad144, cs145, hA, hc146, hr147⟩ := hC.elo (i := 5) rfl (get_some h143).2
                    subst hA
                    refine lex.pure (v := .pointer (some (ad144.add (v89_0.toNat * 1)))) (pu_index (a := v89_0) Try.underlying29 Try.sizeOf3 e87 e89 (get_some h143).1) ?_
                    obtain ⟨rfl, hr147'⟩ := hr147
                    refine lex.val (v := .int .i64 x142) (ld_one Try.isAgg3 rfl (hc146 0 _ rfl)) ?_
                    refine lex.pure (v := .int .i64 v89_0) (pu_assign rfl) ?_
                    refine lex.pure (v := .int .i64 x142) (pu_assign rfl) ?_
                    refine lex.nil ?_
                    refine hK141 _ _ ?_
                    refine Wc.seq fun K148 hK148 => ?_
                    refine Wc.region (by decide +kernel) ?_
                    refine lex.pure (v := .int .i64 v89_0) (pu_move rfl) ?_
                    refine lex.pure (v := .int .i64 x142) (pu_move rfl) ?_
                    refine lex.pure (v := .bool (!(decide (v89_0 = x142)))) (pu_neq (k := .i64) (a := v89_0) (b := x142) rfl rfl) ?_
                    refine lex.nil ?_
                    refine hK148 _ _ ?_
                    refine Wc.cond (t := (!(decide (v89_0 = x142)))) (rfl) (fun hq149 => ?_) (fun hq149 => ?_)
                    · replace hb := (cT hq149).symm.trans hb
                      refine Wc.seq fun K150 hK150 => ?_
                      refine Wc.region (by decide +kernel) ?_
                      refine lex.pure (v := .bool false) (pu_assign rfl) ?_
                      refine lex.nil ?_
                      refine hK150 _ _ ?_
                      obtain rfl := Option.some.inj hb
                      obtain rfl := (lX hl0).symm
                      replace hb := hbK0
                      obtain rfl := Option.some.inj hb
                      refine Wc.ret ?_
                      refine hKR _ _ ?_
                      refine ⟨_, res1 Try.results6 (show RV _ _ _ (.tmp _) (.bool false) from rfl), _, rfl, rfl, hC.sel [] (by decide)⟩
                    · replace hb := (cF hq149).symm.trans hb
                      refine Wc.skip ?_
                      refine hK140 _ _ ?_
                      refine Wc.region (by decide +kernel) ?_
                      obtain ⟨z151, h152, hb⟩ := bd hb
                      refine lex.pure (v := .int .i64 z151) (pu_addc (a := v89_0) (b := 1) e89 rfl h152) ?_
                      refine lex.pure (v := .int .i64 z151) (pu_move rfl) ?_
                      refine lex.nil ?_
                      obtain rfl := Option.some.inj hb
                      exact hK132 m133' _ _ (Nat.lt_succ_self _) ⟨z151, e0, e1, e6, e7, e8, e10, e11, e12, e13, e14, e15, e16, e87, e88, rfl, (chk_rng h152), hC.sel [0, 1, 2, 3, 4, 5] (by decide), lN hl0⟩
                  · replace hb := (cF hq139).symm.trans hb
                    refine Wc.exit rfl ?_
                    obtain rfl := Option.some.inj hb
                    obtain rfl := (lX hl0).symm
                    exact hK131 _ _ ⟨v89_0, e0, e1, e6, e7, e8, e10, e11, e12, e13, e14, e15, e16, hrv89_0, hC.sel [0, 1, 2, 3, 4, 5] (by decide), hbK0⟩
                · clear hb hC hl0
                  rintro E154 w153 ⟨v89_0, e0, e1, e6, e7, e8, e10, e11, e12, e13, e14, e15, e16, hrv89_0, hC, hb⟩
                  refine hK127 _ _ ?_
                  refine Wc.seq fun K155 hK155 => ?_
                  refine Wc.region (by decide +kernel) ?_
                  refine lex.pure (v := .int .i64 y62.2) (pu_move e8) ?_
                  refine lex.pure (v := .bool (decide (y62.2 = 0))) (pu_eql (k := .i64) (a := y62.2) (b := 0) rfl rfl) ?_
                  refine lex.pure (v := .bool (decide (y62.2 = 0))) (pu_move rfl) ?_
                  rcases bS (decide (y62.2 = 0)) with hq156 | hq156
                  · replace hb := (cT hq156).symm.trans hb
                    refine lex.gpure (want_t rfl rfl (show _ = Value.bool (decide (y62.2 = 0)) from rfl) hq156) (v := .int .i64 y73.2) (pu_move e10) ?_
                    refine lex.gpure (want_t rfl rfl (show _ = Value.bool (decide (y62.2 = 0)) from rfl) hq156) (v := .bool (decide (y73.2 = 0))) (pu_eql (k := .i64) (a := y73.2) (b := 0) rfl rfl) ?_
                    refine lex.pure (v := .bool (decide (y73.2 = 0))) (pu_pickT (q := (decide (y62.2 = 0))) rfl hq156 rfl) ?_
                    refine lex.pure (v := .bool (decide (y73.2 = 0))) (pu_move rfl) ?_
                    rcases bS (decide (y73.2 = 0)) with hq157 | hq157
                    · replace hb := (cT hq157).symm.trans hb
                      refine lex.gpure (want_t rfl rfl (show _ = Value.bool (decide (y73.2 = 0)) from rfl) hq157) (v := .int .i64 y85.2) (pu_move e12) ?_
                      refine lex.gpure (want_t rfl rfl (show _ = Value.bool (decide (y73.2 = 0)) from rfl) hq157) (v := .bool (decide (y85.2 = 0))) (pu_eql (k := .i64) (a := y85.2) (b := 0) rfl rfl) ?_
                      refine lex.pure (v := .bool (decide (y85.2 = 0))) (pu_pickT (q := (decide (y73.2 = 0))) rfl hq157 rfl) ?_
                      refine lex.pure (v := .bool (decide (y85.2 = 0))) (pu_move rfl) ?_
                      rcases bS (decide (y85.2 = 0)) with hq158 | hq158
                      · replace hb := (cT hq158).symm.trans hb
                        refine lex.gpure (want_t rfl rfl (show _ = Value.bool (decide (y85.2 = 0)) from rfl) hq158) (v := .int .i64 y96.2) (pu_move e14) ?_
                        refine lex.gpure (want_t rfl rfl (show _ = Value.bool (decide (y85.2 = 0)) from rfl) hq158) (v := .bool (decide (y96.2 = 0))) (pu_eql (k := .i64) (a := y96.2) (b := 0) rfl rfl) ?_
                        refine lex.pure (v := .bool (decide (y96.2 = 0))) (pu_pickT (q := (decide (y85.2 = 0))) rfl hq158 rfl) ?_
                        refine lex.pure (v := .bool (decide (y96.2 = 0))) (pu_move rfl) ?_
                        rcases bS (decide (y96.2 = 0)) with hq159 | hq159
                        · replace hb := (cT hq159).symm.trans hb
                          refine lex.gpure (want_t rfl rfl (show _ = Value.bool (decide (y96.2 = 0)) from rfl) hq159) (v := .int .i64 y117.2) (pu_move e16) ?_
                          refine lex.gpure (want_t rfl rfl (show _ = Value.bool (decide (y96.2 = 0)) from rfl) hq159) (v := .bool (decide (y117.2 = 0))) (pu_eql (k := .i64) (a := y117.2) (b := 0) rfl rfl) ?_
                          refine lex.pure (v := .bool (decide (y117.2 = 0))) (pu_pickT (q := (decide (y96.2 = 0))) rfl hq159 rfl) ?_
                          refine lex.pure (v := .bool (decide (y117.2 = 0))) (pu_move rfl) ?_
                          rcases bS (decide (y117.2 = 0)) with hq160 | hq160
                          · replace hb := (cT hq160).symm.trans hb
                            refine lex.gpure (want_t rfl rfl (show _ = Value.bool (decide (y117.2 = 0)) from rfl) hq160) (v := .slice A119 y117.1.length c121) (pu_move e15) ?_
                            refine lex.gpure (want_t rfl rfl (show _ = Value.bool (decide (y117.2 = 0)) from rfl) hq160) (v := .int .i64 (y117.1.length : Int)) (pu_len (A := A119) (n := y117.1.length) (m := c121) Try.underlying29 rfl) ?_
                            refine lex.gpure (want_t rfl rfl (show _ = Value.bool (decide (y117.2 = 0)) from rfl) hq160) (v := .slice Ap_0 p_0.length cp_0) (pu_move e0) ?_
                            refine lex.gpure (want_t rfl rfl (show _ = Value.bool (decide (y117.2 = 0)) from rfl) hq160) (v := .int .i64 (p_0.length : Int)) (pu_len (A := Ap_0) (n := p_0.length) (m := cp_0) Try.underlying28 rfl) ?_
                            refine lex.gpure (want_t rfl rfl (show _ = Value.bool (decide (y117.2 = 0)) from rfl) hq160) (v := .bool (decide ((y117.1.length : Int) = (p_0.length : Int)))) (pu_eql (k := .i64) (a := (y117.1.length : Int)) (b := (p_0.length : Int)) rfl rfl) ?_
                            refine lex.pure (v := .bool (decide ((y117.1.length : Int) = (p_0.length : Int)))) (pu_pickT (q := (decide (y117.2 = 0))) rfl hq160 rfl) ?_
                            refine lex.pure (v := .bool (decide ((y117.1.length : Int) = (p_0.length : Int)))) (pu_move rfl) ?_
                            rcases bS (decide ((y117.1.length : Int) = (p_0.length : Int))) with hq161 | hq161
                            · replace hb := (cT hq161).symm.trans hb
                              refine lex.gpure (want_t rfl rfl (show _ = Value.bool (decide ((y117.1.length : Int) = (p_0.length : Int))) from rfl) hq161) (v := .slice A87 y85.1.length c89) (pu_move e11) ?_
                              refine lex.gpure (want_t rfl rfl (show _ = Value.bool (decide ((y117.1.length : Int) = (p_0.length : Int))) from rfl) hq161) (v := .slice A98 y96.1.length c100) (pu_move e13) ?_
                              obtain ⟨y162, h163, hb⟩ := bd hb
                              refine lex.gcl (want_t rfl rfl (show _ = Value.bool (decide ((y117.1.length : Int) = (p_0.length : Int))) from rfl) hq161) (⟨_, _, op_call (vs := [.slice A87 y85.1.length c89, .slice A98 y96.1.length c100]) Try.call21 rfl rfl rfl, slices_Equal_Perm_int_ok n (hC.lentLt [.slice A98 y96.1.length c100, .slice A87 y85.1.length c89]) ((hC.ow (i := 3) rfl).lend (vs := [.slice A98 y96.1.length c100, .slice A87 y85.1.length c89]) (by simp)) ((hC.ow (i := 4) rfl).lend (vs := [.slice A98 y96.1.length c100, .slice A87 y85.1.length c89]) (by simp)) h163⟩) ?_
                              rintro _ w164 ⟨rfl, hK⟩
                              replace hC := hC.mergeF hK rfl
                              clear hK
                              refine lex.pure (v := .bool y162) (pu_pickT (q := (decide ((y117.1.length : Int) = (p_0.length : Int)))) rfl hq161 rfl) ?_
                              refine lex.pure (v := .bool y162) (pu_move rfl) ?_
                              rcases bS y162 with hq165 | hq165
                              · replace hb := (cT hq165).symm.trans hb
                                refine lex.gpure (want_t rfl rfl (show _ = Value.bool y162 from rfl) hq165) (v := .slice A64 y62.1.length c66) (pu_move e7) ?_
                                obtain ⟨y166, h167, hb⟩ := bd hb
                                refine lex.gcl (want_t rfl rfl (show _ = Value.bool y162 from rfl) hq165) (⟨_, _, op_call (vs := [.slice A64 y62.1.length c66]) Try.call26 rfl rfl rfl, perm_Sign_ok n (hC.lentLt [.slice A64 y62.1.length c66]) ((hC.ow (i := 2) rfl).lend (vs := [.slice A64 y62.1.length c66]) (by simp)) h167⟩) ?_
                                rintro _ w169 ⟨rfl, hr168, hK⟩
                                replace hC := hC.mergeF hK rfl
                                clear hK
                                refine lex.gpure (want_t rfl rfl (show _ = Value.bool y162 from rfl) hq165) (v := .slice Ap_0 p_0.length cp_0) (pu_move e0) ?_
                                obtain ⟨y170, h171, hb⟩ := bd hb
                                refine lex.gcl (want_t rfl rfl (show _ = Value.bool y162 from rfl) hq165) (⟨_, _, op_call (vs := [.slice Ap_0 p_0.length cp_0]) Try.call26 rfl rfl rfl, perm_Sign_ok n hC.lt (hC.rd (i := 0) rfl) h171⟩) ?_
                                rintro _ w173 ⟨rfl, hr172, hK⟩
                                replace hC := hC.merge hK
                                clear hK
                                refine lex.gpure (want_t rfl rfl (show _ = Value.bool y162 from rfl) hq165) (v := .slice Aq_1 q_1.length cq_1) (pu_move e1) ?_
                                obtain ⟨y174, h175, hb⟩ := bd hb
                                refine lex.gcl (want_t rfl rfl (show _ = Value.bool y162 from rfl) hq165) (⟨_, _, op_call (vs := [.slice Aq_1 q_1.length cq_1]) Try.call26 rfl rfl rfl, perm_Sign_ok n hC.lt (hC.rd (i := 1) rfl) h175⟩) ?_
                                rintro _ w177 ⟨rfl, hr176, hK⟩
                                replace hC := hC.merge hK
                                clear hK
                                obtain ⟨z178, h179, hb⟩ := bd hb
                                refine lex.gpure (want_t rfl rfl (show _ = Value.bool y162 from rfl) hq165) (v := .int .i64 z178) (pu_mulc (a := y170) (b := y174) rfl rfl h179) ?_
                                refine lex.gpure (want_t rfl rfl (show _ = Value.bool y162 from rfl) hq165) (v := .bool (decide (y166 = z178))) (pu_eql (k := .i64) (a := y166) (b := z178) rfl rfl) ?_
                                refine lex.pure (v := .bool (decide (y166 = z178))) (pu_pickT (q := y162) rfl hq165 rfl) ?_
                                refine lex.pure (v := .bool (decide (y166 = z178))) (pu_assign rfl) ?_
                                refine lex.nil ?_
                                refine hK155 _ _ ?_
                                obtain rfl := Option.some.inj hb
                                refine Wc.ret ?_
                                refine hKR _ _ ?_
                                refine ⟨_, res1 Try.results6 (show RV _ _ _ (.tmp _) (.bool (decide (y166 = z178))) from rfl), _, rfl, rfl, hC.sel [] (by decide)⟩
                              · replace hb := (cF hq165).symm.trans hb
                                refine lex.gskip (want_f rfl rfl (show _ = Value.bool y162 from rfl) hq165) ?_
                                refine lex.gskip (want_f rfl rfl (show _ = Value.bool y162 from rfl) hq165) ?_
                                refine lex.gskip (want_f rfl rfl (show _ = Value.bool y162 from rfl) hq165) ?_
                                refine lex.gskip (want_f rfl rfl (show _ = Value.bool y162 from rfl) hq165) ?_
                                refine lex.gskip (want_f rfl rfl (show _ = Value.bool y162 from rfl) hq165) ?_
                                refine lex.gskip (want_f rfl rfl (show _ = Value.bool y162 from rfl) hq165) ?_
                                refine lex.gskip (want_f rfl rfl (show _ = Value.bool y162 from rfl) hq165) ?_
                                refine lex.gskip (want_f rfl rfl (show _ = Value.bool y162 from rfl) hq165) ?_
                                refine lex.pure (v := .bool false) (pu_pickF (q := y162) rfl hq165 rfl) ?_
                                refine lex.pure (v := .bool false) (pu_assign rfl) ?_
                                refine lex.nil ?_
                                refine hK155 _ _ ?_
                                obtain rfl := Option.some.inj hb
                                refine Wc.ret ?_
                                refine hKR _ _ ?_
                                refine ⟨_, res1 Try.results6 (show RV _ _ _ (.tmp _) (.bool false) from rfl), _, rfl, rfl, hC.sel [] (by decide)⟩
                            · replace hb := (cF hq161).symm.trans hb
                              refine lex.gskip (want_f rfl rfl (show _ = Value.bool (decide ((y117.1.length : Int) = (p_0.length : Int))) from rfl) hq161) ?_
                              refine lex.gskip (want_f rfl rfl (show _ = Value.bool (decide ((y117.1.length : Int) = (p_0.length : Int))) from rfl) hq161) ?_
                              refine lex.gskip (want_f rfl rfl (show _ = Value.bool (decide ((y117.1.length : Int) = (p_0.length : Int))) from rfl) hq161) ?_
                              refine lex.pure (v := .bool false) (pu_pickF (q := (decide ((y117.1.length : Int) = (p_0.length : Int)))) rfl hq161 rfl) ?_
                              refine lex.pure (v := .bool false) (pu_move rfl) ?_
                              refine lex.gskip (want_f rfl rfl (show _ = Value.bool false from rfl) rfl) ?_
                              refine lex.gskip (want_f rfl rfl (show _ = Value.bool false from rfl) rfl) ?_
                              refine lex.gskip (want_f rfl rfl (show _ = Value.bool false from rfl) rfl) ?_
                              refine lex.gskip (want_f rfl rfl (show _ = Value.bool false from rfl) rfl) ?_
                              refine lex.gskip (want_f rfl rfl (show _ = Value.bool false from rfl) rfl) ?_
                              refine lex.gskip (want_f rfl rfl (show _ = Value.bool false from rfl) rfl) ?_
                              refine lex.gskip (want_f rfl rfl (show _ = Value.bool false from rfl) rfl) ?_
                              refine lex.gskip (want_f rfl rfl (show _ = Value.bool false from rfl) rfl) ?_
                              refine lex.pure (v := .bool false) (pu_pickF (q := false) rfl rfl rfl) ?_
                              refine lex.pure (v := .bool false) (pu_assign rfl) ?_
                              refine lex.nil ?_
                              refine hK155 _ _ ?_
                              obtain rfl := Option.some.inj hb
                              refine Wc.ret ?_
                              refine hKR _ _ ?_
                              refine ⟨_, res1 Try.results6 (show RV _ _ _ (.tmp _) (.bool false) from rfl), _, rfl, rfl, hC.sel [] (by decide)⟩
                          · replace hb := (cF hq160).symm.trans hb
                            refine lex.gskip (want_f rfl rfl (show _ = Value.bool (decide (y117.2 = 0)) from rfl) hq160) ?_
                            refine lex.gskip (want_f rfl rfl (show _ = Value.bool (decide (y117.2 = 0)) from rfl) hq160) ?_
                            refine lex.gskip (want_f rfl rfl (show _ = Value.bool (decide (y117.2 = 0)) from rfl) hq160) ?_
                            refine lex.gskip (want_f rfl rfl (show _ = Value.bool (decide (y117.2 = 0)) from rfl) hq160) ?_
                            refine lex.gskip (want_f rfl rfl (show _ = Value.bool (decide (y117.2 = 0)) from rfl) hq160) ?_
                            refine lex.pure (v := .bool false) (pu_pickF (q := (decide (y117.2 = 0))) rfl hq160 rfl) ?_
                            refine lex.pure (v := .bool false) (pu_move rfl) ?_
                            refine lex.gskip (want_f rfl rfl (show _ = Value.bool false from rfl) rfl) ?_
                            refine lex.gskip (want_f rfl rfl (show _ = Value.bool false from rfl) rfl) ?_
                            refine lex.gskip (want_f rfl rfl (show _ = Value.bool false from rfl) rfl) ?_
                            refine lex.pure (v := .bool false) (pu_pickF (q := false) rfl rfl rfl) ?_
                            refine lex.pure (v := .bool false) (pu_move rfl) ?_
                            refine lex.gskip (want_f rfl rfl (show _ = Value.bool false from rfl) rfl) ?_
                            refine lex.gskip (want_f rfl rfl (show _ = Value.bool false from rfl) rfl) ?_
                            refine lex.gskip (want_f rfl rfl (show _ = Value.bool false from rfl) rfl) ?_
                            refine lex.gskip (want_f rfl rfl (show _ = Value.bool false from rfl) rfl) ?_
                            refine lex.gskip (want_f rfl rfl (show _ = Value.bool false from rfl) rfl) ?_
                            refine lex.gskip (want_f rfl rfl (show _ = Value.bool false from rfl) rfl) ?_
                            refine lex.gskip (want_f rfl rfl (show _ = Value.bool false from rfl) rfl) ?_
                            refine lex.gskip (want_f rfl rfl (show _ = Value.bool false from rfl) rfl) ?_
                            refine lex.pure (v := .bool false) (pu_pickF (q := false) rfl rfl rfl) ?_
                            refine lex.pure (v := .bool false) (pu_assign rfl) ?_
                            refine lex.nil ?_
                            refine hK155 _ _ ?_
                            obtain rfl := Option.some.inj hb
                            refine Wc.ret ?_
                            refine hKR _ _ ?_
                            refine ⟨_, res1 Try.results6 (show RV _ _ _ (.tmp _) (.bool false) from rfl), _, rfl, rfl, hC.sel [] (by decide)⟩
                        · replace hb := (cF hq159).symm.trans hb
                          refine lex.gskip (want_f rfl rfl (show _ = Value.bool (decide (y96.2 = 0)) from rfl) hq159) ?_
                          refine lex.gskip (want_f rfl rfl (show _ = Value.bool (decide (y96.2 = 0)) from rfl) hq159) ?_
                          refine lex.pure (v := .bool false) (pu_pickF (q := (decide (y96.2 = 0))) rfl hq159 rfl) ?_
                          refine lex.pure (v := .bool false) (pu_move rfl) ?_
                          refine lex.gskip (want_f rfl rfl (show _ = Value.bool false from rfl) rfl) ?_
                          refine lex.gskip (want_f rfl rfl (show _ = Value.bool false from rfl) rfl) ?_
                          refine lex.gskip (want_f rfl rfl (show _ = Value.bool false from rfl) rfl) ?_
                          refine lex.gskip (want_f rfl rfl (show _ = Value.bool false from rfl) rfl) ?_
                          refine lex.gskip (want_f rfl rfl (show _ = Value.bool false from rfl) rfl) ?_
                          refine lex.pure (v := .bool false) (pu_pickF (q := false) rfl rfl rfl) ?_
                          refine lex.pure (v := .bool false) (pu_move rfl) ?_
                          refine lex.gskip (want_f rfl rfl (show _ = Value.bool false from rfl) rfl) ?_
                          refine lex.gskip (want_f rfl rfl (show _ = Value.bool false from rfl) rfl) ?_
                          refine lex.gskip (want_f rfl rfl (show _ = Value.bool false from rfl) rfl) ?_
                          refine lex.pure (v := .bool false) (pu_pickF (q := false) rfl rfl rfl) ?_
                          refine lex.pure (v := .bool false) (pu_move rfl) ?_
                          refine lex.gskip (want_f rfl rfl (show _ = Value.bool false from rfl) rfl) ?_
                          refine lex.gskip (want_f rfl rfl (show _ = Value.bool false from rfl) rfl) ?_
                          refine lex.gskip (want_f rfl rfl (show _ = Value.bool false from rfl) rfl) ?_
                          refine lex.gskip (want_f rfl rfl (show _ = Value.bool false from rfl) rfl) ?_
                          refine lex.gskip (want_f rfl rfl (show _ = Value.bool false from rfl) rfl) ?_
                          refine lex.gskip (want_f rfl rfl (show _ = Value.bool false from rfl) rfl) ?_
                          refine lex.gskip (want_f rfl rfl (show _ = Value.bool false from rfl) rfl) ?_
                          refine lex.gskip (want_f rfl rfl (show _ = Value.bool false from rfl) rfl) ?_
                          refine lex.pure (v := .bool false) (pu_pickF (q := false) rfl rfl rfl) ?_
                          refine lex.pure (v := .bool false) (pu_assign rfl) ?_
                          refine lex.nil ?_
                          refine hK155 _ _ ?_
                          obtain rfl := Option.some.inj hb
                          refine Wc.ret ?_
                          refine hKR _ _ ?_
                          refine ⟨_, res1 Try.results6 (show RV _ _ _ (.tmp _) (.bool false) from rfl), _, rfl, rfl, hC.sel [] (by decide)⟩
                      · replace hb := (cF hq158).symm.trans hb
                        refine lex.gskip (want_f rfl rfl (show _ = Value.bool (decide (y85.2 = 0)) from rfl) hq158) ?_
                        refine lex.gskip (want_f rfl rfl (show _ = Value.bool (decide (y85.2 = 0)) from rfl) hq158) ?_
                        refine lex.pure (v := .bool false) (pu_pickF (q := (decide (y85.2 = 0))) rfl hq158 rfl) ?_
                        refine lex.pure (v := .bool false) (pu_move rfl) ?_
                        refine lex.gskip (want_f rfl rfl (show _ = Value.bool false from rfl) rfl) ?_
                        refine lex.gskip (want_f rfl rfl (show _ = Value.bool false from rfl) rfl) ?_
                        refine lex.pure (v := .bool false) (pu_pickF (q := false) rfl rfl rfl) ?_
                        refine lex.pure (v := .bool false) (pu_move rfl) ?_
                        refine lex.gskip (want_f rfl rfl (show _ = Value.bool false from rfl) rfl) ?_
                        refine lex.gskip (want_f rfl rfl (show _ = Value.bool false from rfl) rfl) ?_
                        refine lex.gskip (want_f rfl rfl (show _ = Value.bool false from rfl) rfl) ?_
                        refine lex.gskip (want_f rfl rfl (show _ = Value.bool false from rfl) rfl) ?_
                        refine lex.gskip (want_f rfl rfl (show _ = Value.bool false from rfl) rfl) ?_
                        refine lex.pure (v := .bool false) (pu_pickF (q := false) rfl rfl rfl) ?_
                        refine lex.pure (v := .bool false) (pu_move rfl) ?_
                        refine lex.gskip (want_f rfl rfl (show _ = Value.bool false from rfl) rfl) ?_
                        refine lex.gskip (want_f rfl rfl (show _ = Value.bool false from rfl) rfl) ?_
                        refine lex.gskip (want_f rfl rfl (show _ = Value.bool false from rfl) rfl) ?_
                        refine lex.pure (v := .bool false) (pu_pickF (q := false) rfl rfl rfl) ?_
                        refine lex.pure (v := .bool false) (pu_move rfl) ?_
                        refine lex.gskip (want_f rfl rfl (show _ = Value.bool false from rfl) rfl) ?_
                        refine lex.gskip (want_f rfl rfl (show _ = Value.bool false from rfl) rfl) ?_
                        refine lex.gskip (want_f rfl rfl (show _ = Value.bool false from rfl) rfl) ?_
                        refine lex.gskip (want_f rfl rfl (show _ = Value.bool false from rfl) rfl) ?_
                        refine lex.gskip (want_f rfl rfl (show _ = Value.bool false from rfl) rfl) ?_
                        refine lex.gskip (want_f rfl rfl (show _ = Value.bool false from rfl) rfl) ?_
                        refine lex.gskip (want_f rfl rfl (show _ = Value.bool false from rfl) rfl) ?_
                        refine lex.gskip (want_f rfl rfl (show _ = Value.bool false from rfl) rfl) ?_
                        refine lex.pure (v := .bool false) (pu_pickF (q := false) rfl rfl rfl) ?_
                        refine lex.pure (v := .bool false) (pu_assign rfl) ?_
                        refine lex.nil ?_
                        refine hK155 _ _ ?_
                        obtain rfl := Option.some.inj hb
                        refine Wc.ret ?_
                        refine hKR _ _ ?_
                        refine ⟨_, res1 Try.results6 (show RV _ _ _ (.tmp _) (.bool false) from rfl), _, rfl, rfl, hC.sel [] (by decide)⟩
                    · replace hb := (cF hq157).symm.trans hb
                      refine lex.gskip (want_f rfl rfl (show _ = Value.bool (decide (y73.2 = 0)) from rfl) hq157) ?_
                      refine lex.gskip (want_f rfl rfl (show _ = Value.bool (decide (y73.2 = 0)) from rfl) hq157) ?_
                      refine lex.pure (v := .bool false) (pu_pickF (q := (decide (y73.2 = 0))) rfl hq157 rfl) ?_
                      refine lex.pure (v := .bool false) (pu_move rfl) ?_
                      refine lex.gskip (want_f rfl rfl (show _ = Value.bool false from rfl) rfl) ?_
                      refine lex.gskip (want_f rfl rfl (show _ = Value.bool false from rfl) rfl) ?_
                      refine lex.pure (v := .bool false) (pu_pickF (q := false) rfl rfl rfl) ?_
                      refine lex.pure (v := .bool false) (pu_move rfl) ?_
                      refine lex.gskip (want_f rfl rfl (show _ = Value.bool false from rfl) rfl) ?_
                      refine lex.gskip (want_f rfl rfl (show _ = Value.bool false from rfl) rfl) ?_
                      refine lex.pure (v := .bool false) (pu_pickF (q := false) rfl rfl rfl) ?_
                      refine lex.pure (v := .bool false) (pu_move rfl) ?_
                      refine lex.gskip (want_f rfl rfl (show _ = Value.bool false from rfl) rfl) ?_
                      refine lex.gskip (want_f rfl rfl (show _ = Value.bool false from rfl) rfl) ?_
                      refine lex.gskip (want_f rfl rfl (show _ = Value.bool false from rfl) rfl) ?_
                      refine lex.gskip (want_f rfl rfl (show _ = Value.bool false from rfl) rfl) ?_
                      refine lex.gskip (want_f rfl rfl (show _ = Value.bool false from rfl) rfl) ?_
                      refine lex.pure (v := .bool false) (pu_pickF (q := false) rfl rfl rfl) ?_
                      refine lex.pure (v := .bool false) (pu_move rfl) ?_
                      refine lex.gskip (want_f rfl rfl (show _ = Value.bool false from rfl) rfl) ?_
                      refine lex.gskip (want_f rfl rfl (show _ = Value.bool false from rfl) rfl) ?_
                      refine lex.gskip (want_f rfl rfl (show _ = Value.bool false from rfl) rfl) ?_
                      refine lex.pure (v := .bool false) (pu_pickF (q := false) rfl rfl rfl) ?_
                      refine lex.pure (v := .bool false) (pu_move rfl) ?_
                      refine lex.gskip (want_f rfl rfl (show _ = Value.bool false from rfl) rfl) ?_
                      refine lex.gskip (want_f rfl rfl (show _ = Value.bool false from rfl) rfl) ?_
                      refine lex.gskip (want_f rfl rfl (show _ = Value.bool false from rfl) rfl) ?_
                      refine lex.gskip (want_f rfl rfl (show _ = Value.bool false from rfl) rfl) ?_
                      refine lex.gskip (want_f rfl rfl (show _ = Value.bool false from rfl) rfl) ?_
                      refine lex.gskip (want_f rfl rfl (show _ = Value.bool false from rfl) rfl) ?_
                      refine lex.gskip (want_f rfl rfl (show _ = Value.bool false from rfl) rfl) ?_
                      refine lex.gskip (want_f rfl rfl (show _ = Value.bool false from rfl) rfl) ?_
                      refine lex.pure (v := .bool false) (pu_pickF (q := false) rfl rfl rfl) ?_
                      refine lex.pure (v := .bool false) (pu_assign rfl) ?_
                      refine lex.nil ?_
                      refine hK155 _ _ ?_
                      obtain rfl := Option.some.inj hb
                      refine Wc.ret ?_
                      refine hKR _ _ ?_
                      refine ⟨_, res1 Try.results6 (show RV _ _ _ (.tmp _) (.bool false) from rfl), _, rfl, rfl, hC.sel [] (by decide)⟩
                  · replace hb := (cF hq156).symm.trans hb
                    refine lex.gskip (want_f rfl rfl (show _ = Value.bool (decide (y62.2 = 0)) from rfl) hq156) ?_
                    refine lex.gskip (want_f rfl rfl (show _ = Value.bool (decide (y62.2 = 0)) from rfl) hq156) ?_
                    refine lex.pure (v := .bool false) (pu_pickF (q := (decide (y62.2 = 0))) rfl hq156 rfl) ?_
                    refine lex.pure (v := .bool false) (pu_move rfl) ?_
                    refine lex.gskip (want_f rfl rfl (show _ = Value.bool false from rfl) rfl) ?_
                    refine lex.gskip (want_f rfl rfl (show _ = Value.bool false from rfl) rfl) ?_
                    refine lex.pure (v := .bool false) (pu_pickF (q := false) rfl rfl rfl) ?_
                    refine lex.pure (v := .bool false) (pu_move rfl) ?_
                    refine lex.gskip (want_f rfl rfl (show _ = Value.bool false from rfl) rfl) ?_
                    refine lex.gskip (want_f rfl rfl (show _ = Value.bool false from rfl) rfl) ?_
                    refine lex.pure (v := .bool false) (pu_pickF (q := false) rfl rfl rfl) ?_
                    refine lex.pure (v := .bool false) (pu_move rfl) ?_
                    refine lex.gskip (want_f rfl rfl (show _ = Value.bool false from rfl) rfl) ?_
                    refine lex.gskip (want_f rfl rfl (show _ = Value.bool false from rfl) rfl) ?_
                    refine lex.pure (v := .bool false) (pu_pickF (q := false) rfl rfl rfl) ?_
                    refine lex.pure (v := .bool false) (pu_move rfl) ?_
                    refine lex.gskip (want_f rfl rfl (show _ = Value.bool false from rfl) rfl) ?_
                    refine lex.gskip (want_f rfl rfl (show _ = Value.bool false from rfl) rfl) ?_
                    refine lex.gskip (want_f rfl rfl (show _ = Value.bool false from rfl) rfl) ?_
                    refine lex.gskip (want_f rfl rfl (show _ = Value.bool false from rfl) rfl) ?_
                    refine lex.gskip (want_f rfl rfl (show _ = Value.bool false from rfl) rfl) ?_
                    refine lex.pure (v := .bool false) (pu_pickF (q := false) rfl rfl rfl) ?_
                    refine lex.pure (v := .bool false) (pu_move rfl) ?_
                    refine lex.gskip (want_f rfl rfl (show _ = Value.bool false from rfl) rfl) ?_
                    refine lex.gskip (want_f rfl rfl (show _ = Value.bool false from rfl) rfl) ?_
                    refine lex.gskip (want_f rfl rfl (show _ = Value.bool false from rfl) rfl) ?_
                    refine lex.pure (v := .bool false) (pu_pickF (q := false) rfl rfl rfl) ?_
                    refine lex.pure (v := .bool false) (pu_move rfl) ?_
                    refine lex.gskip (want_f rfl rfl (show _ = Value.bool false from rfl) rfl) ?_
                    refine lex.gskip (want_f rfl rfl (show _ = Value.bool false from rfl) rfl) ?_
                    refine lex.gskip (want_f rfl rfl (show _ = Value.bool false from rfl) rfl) ?_
                    refine lex.gskip (want_f rfl rfl (show _ = Value.bool false from rfl) rfl) ?_
                    refine lex.gskip (want_f rfl rfl (show _ = Value.bool false from rfl) rfl) ?_
                    refine lex.gskip (want_f rfl rfl (show _ = Value.bool false from rfl) rfl) ?_
                    refine lex.gskip (want_f rfl rfl (show _ = Value.bool false from rfl) rfl) ?_
                    refine lex.gskip (want_f rfl rfl (show _ = Value.bool false from rfl) rfl) ?_
                    refine lex.pure (v := .bool false) (pu_pickF (q := false) rfl rfl rfl) ?_
                    refine lex.pure (v := .bool false) (pu_assign rfl) ?_
                    refine lex.nil ?_
                    refine hK155 _ _ ?_
                    obtain rfl := Option.some.inj hb
                    refine Wc.ret ?_
                    refine hKR _ _ ?_
                    refine ⟨_, res1 Try.results6 (show RV _ _ _ (.tmp _) (.bool false) from rfl), _, rfl, rfl, hC.sel [] (by decide)⟩
end Go.Proofs.Ytmlkiafidahnbaa
