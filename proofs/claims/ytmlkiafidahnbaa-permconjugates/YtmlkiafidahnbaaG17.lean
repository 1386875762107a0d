/- The walks: part 17. -/
import Derived.Test.YtmlkiafidahnbaaS
import Derived.Test.YtmlkiafidahnbaaG0
import Derived.Test.YtmlkiafidahnbaaG1
import Derived.Test.YtmlkiafidahnbaaG2
import Derived.Test.YtmlkiafidahnbaaG13
import Derived.Test.YtmlkiafidahnbaaG14
set_option linter.unusedVariables false
set_option linter.unusedSimpArgs false
namespace Go.Proofs.Ytmlkiafidahnbaa
open Ev
set_option maxRecDepth 100000 in
set_option maxHeartbeats 4000000 in
theorem law30_PermConjugates_ok (n : Nat) {w : World} {O0 : List Nat} (hO : ∀ k ∈ O0, k < w.heap.size) {Ap_0 : Option Addr} {mp_0 cp_0 : Nat} {p_0 : List Int} (hp_0 : Rep O0 w (.sl (.int .i64)) [.slice Ap_0 mp_0 cp_0] p_0) {Aq_1 : Option Addr} {mq_1 cq_1 : Nat} {q_1 : List Int} (hq_1 : Rep O0 w (.sl (.int .i64)) [.slice Aq_1 mq_1 cq_1] q_1) {r : Bool} (hb : F.law30_PermConjugates n p_0 q_1 = some r) :
    Calls Try.prog 7 #[.slice Ap_0 mp_0 cp_0, .slice Aq_1 mq_1 cq_1] w fun e w' => ∃ v, e = .returned v ∧ v = .bool r ∧ Cx (fun _ => False) O0 w w' [] := by
  unfold F.law30_PermConjugates at hb
  have hC := Cx.start hO
  replace hC := hC.arg rfl hp_0
  replace hC := hC.arg rfl hq_1
  clear hO
  obtain ⟨rfl, hlp_0, hcp_0⟩ := hp_0.sl_len
  obtain ⟨rfl, hlq_1, hcq_1⟩ := hq_1.sl_len
  refine calls_of_Wc Try.func7 rfl (by rw [Try.ntmps7]; exact Nat.le_of_ble_eq_true rfl) fun KR hKR => ?_
  refine Wc.seq fun K3 hK3 => ?_
  refine Wc.region (by decide +kernel) ?_
  refine lex.pure (v := .bool false) (pu_assign rfl) ?_
  refine lex.nil ?_
  refine hK3 _ _ ?_
  refine Wc.seq fun K4 hK4 => ?_
  refine Wc.seq fun K5 hK5 => ?_
  refine Wc.region (by decide +kernel) ?_
  obtain ⟨y6, h7, hb⟩ := bd hb
  refine lex.cl (⟨_, _, op_call (vs := []) Try.call10 rfl rfl rfl, law30_awake_ok n hC.lt  h7⟩) ?_
  rintro _ w8 ⟨rfl, hK⟩
  replace hC := hC.merge hK
  clear hK
  refine lex.pure (v := .bool (!y6)) (pu_not (q := y6) rfl) ?_
  refine lex.pure (v := .bool (!y6)) (pu_move rfl) ?_
  rcases bS (!y6) with hq9 | hq9
  · replace hb := (cT hq9).symm.trans hb
    refine lex.gskip (want_f rfl rfl (show _ = Value.bool (!y6) from rfl) hq9) ?_
    refine lex.gskip (want_f rfl rfl (show _ = Value.bool (!y6) from rfl) hq9) ?_
    refine lex.gskip (want_f rfl rfl (show _ = Value.bool (!y6) from rfl) hq9) ?_
    refine lex.pure (v := .bool true) (pu_pickT (q := (!y6)) rfl hq9 rfl) ?_
    refine lex.pure (v := .bool true) (pu_move rfl) ?_
    refine lex.gskip (want_f rfl rfl (show _ = Value.bool true from rfl) rfl) ?_
    refine lex.gskip (want_f rfl rfl (show _ = Value.bool true from rfl) rfl) ?_
    refine lex.gskip (want_f rfl rfl (show _ = Value.bool true from rfl) rfl) ?_
    refine lex.gskip (want_f rfl rfl (show _ = Value.bool true from rfl) rfl) ?_
    refine lex.gskip (want_f rfl rfl (show _ = Value.bool true from rfl) rfl) ?_
    refine lex.pure (v := .bool true) (pu_pickT (q := true) rfl rfl rfl) ?_
    refine lex.pure (v := .bool true) (pu_move rfl) ?_
    refine lex.gskip (want_f rfl rfl (show _ = Value.bool true from rfl) rfl) ?_
    refine lex.gskip (want_f rfl rfl (show _ = Value.bool true from rfl) rfl) ?_
    refine lex.gskip (want_f rfl rfl (show _ = Value.bool true from rfl) rfl) ?_
    refine lex.pure (v := .bool true) (pu_pickT (q := true) rfl rfl rfl) ?_
    refine lex.pure (v := .bool true) (pu_move rfl) ?_
    refine lex.gskip (want_f rfl rfl (show _ = Value.bool true from rfl) rfl) ?_
    refine lex.gskip (want_f rfl rfl (show _ = Value.bool true from rfl) rfl) ?_
    refine lex.gskip (want_f rfl rfl (show _ = Value.bool true from rfl) rfl) ?_
    refine lex.pure (v := .bool true) (pu_pickT (q := true) rfl rfl rfl) ?_
    refine lex.nil ?_
    refine hK5 _ _ ?_
    refine Wc.fresh fun E10 hE => ?_
    have e0 : E10 0 = .slice Ap_0 p_0.length cp_0 := (congrFun hE 0).trans rfl
    have e1 : E10 1 = .slice Aq_1 q_1.length cq_1 := (congrFun hE 1).trans rfl
    have e4 : E10 4 = .bool false := (congrFun hE 4).trans rfl
    have e35 : E10 35 = .bool true := (congrFun hE 35).trans rfl
    clear hE
    refine Wc.cond_true (e35) ?_
    refine Wc.seq fun K11 hK11 => ?_
    refine Wc.region (by decide +kernel) ?_
    obtain ⟨y12, h13, hb⟩ := bd hb
    refine lex.cl (⟨_, _, op_call (vs := []) Try.call10 rfl rfl rfl, law30_awake_ok n hC.lt  h13⟩) ?_
    rintro _ w14 ⟨rfl, hK⟩
    replace hC := hC.merge hK
    clear hK
    refine lex.pure (v := .bool y12) (pu_assign rfl) ?_
    refine lex.nil ?_
    refine hK11 _ _ ?_
    obtain rfl := Option.some.inj hb
    refine Wc.ret ?_
    refine hKR _ _ ?_
    refine ⟨_, res1 Try.results7 (show RV _ _ _ (.tmp _) (.bool y12) from rfl), _, rfl, rfl, hC.sel [] (by decide)⟩
  · replace hb := (cF hq9).symm.trans hb
    refine lex.gpure (want_t rfl rfl (show _ = Value.bool (!y6) from rfl) hq9) (v := .slice Ap_0 p_0.length cp_0) (pu_move rfl) ?_
    refine lex.gpure (want_t rfl rfl (show _ = Value.bool (!y6) from rfl) hq9) (v := .int .i64 (p_0.length : Int)) (pu_len (A := Ap_0) (n := p_0.length) (m := cp_0) Try.underlying28 rfl) ?_
    refine lex.gpure (want_t rfl rfl (show _ = Value.bool (!y6) from rfl) hq9) (v := .bool (decide (30 < (p_0.length : Int)))) (pu_gtr (k := .i64) (a := (p_0.length : Int)) (b := 30) rfl rfl) ?_
    refine lex.pure (v := .bool (decide (30 < (p_0.length : Int)))) (pu_pickF (q := (!y6)) rfl hq9 rfl) ?_
    refine lex.pure (v := .bool (decide (30 < (p_0.length : Int)))) (pu_move rfl) ?_
    rcases bS (decide (30 < (p_0.length : Int))) with hq15 | hq15
    · replace hb := (cT hq15).symm.trans hb
      refine lex.gskip (want_f rfl rfl (show _ = Value.bool (decide (30 < (p_0.length : Int))) from rfl) hq15) ?_
      refine lex.gskip (want_f rfl rfl (show _ = Value.bool (decide (30 < (p_0.length : Int))) from rfl) hq15) ?_
      refine lex.gskip (want_f rfl rfl (show _ = Value.bool (decide (30 < (p_0.length : Int))) from rfl) hq15) ?_
      refine lex.gskip (want_f rfl rfl (show _ = Value.bool (decide (30 < (p_0.length : Int))) from rfl) hq15) ?_
      refine lex.gskip (want_f rfl rfl (show _ = Value.bool (decide (30 < (p_0.length : Int))) from rfl) hq15) ?_
      refine lex.pure (v := .bool true) (pu_pickT (q := (decide (30 < (p_0.length : Int)))) rfl hq15 rfl) ?_
      refine lex.pure (v := .bool true) (pu_move rfl) ?_
      refine lex.gskip (want_f rfl rfl (show _ = Value.bool true from rfl) rfl) ?_
      refine lex.gskip (want_f rfl rfl (show _ = Value.bool true from rfl) rfl) ?_
      refine lex.gskip (want_f rfl rfl (show _ = Value.bool true from rfl) rfl) ?_
      refine lex.pure (v := .bool true) (pu_pickT (q := true) rfl rfl rfl) ?_
      refine lex.pure (v := .bool true) (pu_move rfl) ?_
      refine lex.gskip (want_f rfl rfl (show _ = Value.bool true from rfl) rfl) ?_
      refine lex.gskip (want_f rfl rfl (show _ = Value.bool true from rfl) rfl) ?_
      refine lex.gskip (want_f rfl rfl (show _ = Value.bool true from rfl) rfl) ?_
      refine lex.pure (v := .bool true) (pu_pickT (q := true) rfl rfl rfl) ?_
      refine lex.nil ?_
      refine hK5 _ _ ?_
      refine Wc.fresh fun E16 hE => ?_
      have e0 : E16 0 = .slice Ap_0 p_0.length cp_0 := (congrFun hE 0).trans rfl
      have e1 : E16 1 = .slice Aq_1 q_1.length cq_1 := (congrFun hE 1).trans rfl
      have e4 : E16 4 = .bool false := (congrFun hE 4).trans rfl
      have e35 : E16 35 = .bool true := (congrFun hE 35).trans rfl
      clear hE
      refine Wc.cond_true (e35) ?_
      refine Wc.seq fun K17 hK17 => ?_
      refine Wc.region (by decide +kernel) ?_
      obtain ⟨y18, h19, hb⟩ := bd hb
      refine lex.cl (⟨_, _, op_call (vs := []) Try.call10 rfl rfl rfl, law30_awake_ok n hC.lt  h19⟩) ?_
      rintro _ w20 ⟨rfl, hK⟩
      replace hC := hC.merge hK
      clear hK
      refine lex.pure (v := .bool y18) (pu_assign rfl) ?_
      refine lex.nil ?_
      refine hK17 _ _ ?_
      obtain rfl := Option.some.inj hb
      refine Wc.ret ?_
      refine hKR _ _ ?_
      refine ⟨_, res1 Try.results7 (show RV _ _ _ (.tmp _) (.bool y18) from rfl), _, rfl, rfl, hC.sel [] (by decide)⟩
    · replace hb := (cF hq15).symm.trans hb
      refine lex.gpure (want_t rfl rfl (show _ = Value.bool (decide (30 < (p_0.length : Int))) from rfl) hq15) (v := .slice Aq_1 q_1.length cq_1) (pu_move rfl) ?_
      refine lex.gpure (want_t rfl rfl (show _ = Value.bool (decide (30 < (p_0.length : Int))) from rfl) hq15) (v := .int .i64 (q_1.length : Int)) (pu_len (A := Aq_1) (n := q_1.length) (m := cq_1) Try.underlying28 rfl) ?_
      refine lex.gpure (want_t rfl rfl (show _ = Value.bool (decide (30 < (p_0.length : Int))) from rfl) hq15) (v := .slice Ap_0 p_0.length cp_0) (pu_move rfl) ?_
      refine lex.gpure (want_t rfl rfl (show _ = Value.bool (decide (30 < (p_0.length : Int))) from rfl) hq15) (v := .int .i64 (p_0.length : Int)) (pu_len (A := Ap_0) (n := p_0.length) (m := cp_0) Try.underlying28 rfl) ?_
      refine lex.gpure (want_t rfl rfl (show _ = Value.bool (decide (30 < (p_0.length : Int))) from rfl) hq15) (v := .bool (!(decide ((q_1.length : Int) = (p_0.length : Int))))) (pu_neq (k := .i64) (a := (q_1.length : Int)) (b := (p_0.length : Int)) rfl rfl) ?_
      refine lex.pure (v := .bool (!(decide ((q_1.length : Int) = (p_0.length : Int))))) (pu_pickF (q := (decide (30 < (p_0.length : Int)))) rfl hq15 rfl) ?_
      refine lex.pure (v := .bool (!(decide ((q_1.length : Int) = (p_0.length : Int))))) (pu_move rfl) ?_
      rcases bS (!(decide ((q_1.length : Int) = (p_0.length : Int)))) with hq21 | hq21
      · replace hb := (cT hq21).symm.trans hb
        refine lex.gskip (want_f rfl rfl (show _ = Value.bool (!(decide ((q_1.length : Int) = (p_0.length : Int)))) from rfl) hq21) ?_
        refine lex.gskip (want_f rfl rfl (show _ = Value.bool (!(decide ((q_1.length : Int) = (p_0.length : Int)))) from rfl) hq21) ?_
        refine lex.gskip (want_f rfl rfl (show _ = Value.bool (!(decide ((q_1.length : Int) = (p_0.length : Int)))) from rfl) hq21) ?_
        refine lex.pure (v := .bool true) (pu_pickT (q := (!(decide ((q_1.length : Int) = (p_0.length : Int))))) rfl hq21 rfl) ?_
        refine lex.pure (v := .bool true) (pu_move rfl) ?_
        refine lex.gskip (want_f rfl rfl (show _ = Value.bool true from rfl) rfl) ?_
        refine lex.gskip (want_f rfl rfl (show _ = Value.bool true from rfl) rfl) ?_
        refine lex.gskip (want_f rfl rfl (show _ = Value.bool true from rfl) rfl) ?_
        refine lex.pure (v := .bool true) (pu_pickT (q := true) rfl rfl rfl) ?_
        refine lex.nil ?_
        refine hK5 _ _ ?_
        refine Wc.fresh fun E22 hE => ?_
        have e0 : E22 0 = .slice Ap_0 p_0.length cp_0 := (congrFun hE 0).trans rfl
        have e1 : E22 1 = .slice Aq_1 q_1.length cq_1 := (congrFun hE 1).trans rfl
        have e4 : E22 4 = .bool false := (congrFun hE 4).trans rfl
        have e35 : E22 35 = .bool true := (congrFun hE 35).trans rfl
        clear hE
        refine Wc.cond_true (e35) ?_
        refine Wc.seq fun K23 hK23 => ?_
        refine Wc.region (by decide +kernel) ?_
        obtain ⟨y24, h25, hb⟩ := bd hb
        refine lex.cl (⟨_, _, op_call (vs := []) Try.call10 rfl rfl rfl, law30_awake_ok n hC.lt  h25⟩) ?_
        rintro _ w26 ⟨rfl, hK⟩
        replace hC := hC.merge hK
        clear hK
        refine lex.pure (v := .bool y24) (pu_assign rfl) ?_
        refine lex.nil ?_
        refine hK23 _ _ ?_
        obtain rfl := Option.some.inj hb
        refine Wc.ret ?_
        refine hKR _ _ ?_
        refine ⟨_, res1 Try.results7 (show RV _ _ _ (.tmp _) (.bool y24) from rfl), _, rfl, rfl, hC.sel [] (by decide)⟩
      · replace hb := (cF hq21).symm.trans hb
        refine lex.gpure (want_t rfl rfl (show _ = Value.bool (!(decide ((q_1.length : Int) = (p_0.length : Int)))) from rfl) hq21) (v := .slice Ap_0 p_0.length cp_0) (pu_move rfl) ?_
        obtain ⟨y27, h28, hb⟩ := bd hb
        refine lex.gcl (want_t rfl rfl (show _ = Value.bool (!(decide ((q_1.length : Int) = (p_0.length : Int)))) from rfl) hq21) (⟨_, _, op_call (vs := [.slice Ap_0 p_0.length cp_0]) Try.call19 rfl rfl rfl, perm_Valid_ok n hC.lt (hC.rd (i := 1) rfl) h28⟩) ?_
        rintro _ w29 ⟨rfl, hK⟩
        replace hC := hC.merge hK
        clear hK
        refine lex.gpure (want_t rfl rfl (show _ = Value.bool (!(decide ((q_1.length : Int) = (p_0.length : Int)))) from rfl) hq21) (v := .bool (!y27)) (pu_not (q := y27) rfl) ?_
        refine lex.pure (v := .bool (!y27)) (pu_pickF (q := (!(decide ((q_1.length : Int) = (p_0.length : Int))))) rfl hq21 rfl) ?_
        refine lex.pure (v := .bool (!y27)) (pu_move rfl) ?_
        rcases bS (!y27) with hq30 | hq30
        · replace hb := (cT hq30).symm.trans hb
          refine lex.gskip (want_f rfl rfl (show _ = Value.bool (!y27) from rfl) hq30) ?_
          refine lex.gskip (want_f rfl rfl (show _ = Value.bool (!y27) from rfl) hq30) ?_
          refine lex.gskip (want_f rfl rfl (show _ = Value.bool (!y27) from rfl) hq30) ?_
          refine lex.pure (v := .bool true) (pu_pickT (q := (!y27)) rfl hq30 rfl) ?_
          refine lex.nil ?_
          refine hK5 _ _ ?_
          refine Wc.fresh fun E31 hE => ?_
          have e0 : E31 0 = .slice Ap_0 p_0.length cp_0 := (congrFun hE 0).trans rfl
          have e1 : E31 1 = .slice Aq_1 q_1.length cq_1 := (congrFun hE 1).trans rfl
          have e4 : E31 4 = .bool false := (congrFun hE 4).trans rfl
          have e35 : E31 35 = .bool true := (congrFun hE 35).trans rfl
          clear hE
          refine Wc.cond_true (e35) ?_
          refine Wc.seq fun K32 hK32 => ?_
          refine Wc.region (by decide +kernel) ?_
          obtain ⟨y33, h34, hb⟩ := bd hb
          refine lex.cl (⟨_, _, op_call (vs := []) Try.call10 rfl rfl rfl, law30_awake_ok n hC.lt  h34⟩) ?_
          rintro _ w35 ⟨rfl, hK⟩
          replace hC := hC.merge hK
          clear hK
          refine lex.pure (v := .bool y33) (pu_assign rfl) ?_
          refine lex.nil ?_
          refine hK32 _ _ ?_
          obtain rfl := Option.some.inj hb
          refine Wc.ret ?_
          refine hKR _ _ ?_
          refine ⟨_, res1 Try.results7 (show RV _ _ _ (.tmp _) (.bool y33) from rfl), _, rfl, rfl, hC.sel [] (by decide)⟩
        · replace hb := (cF hq30).symm.trans hb
          refine lex.gpure (want_t rfl rfl (show _ = Value.bool (!y27) from rfl) hq30) (v := .slice Aq_1 q_1.length cq_1) (pu_move rfl) ?_
          obtain ⟨y36, h37, hb⟩ := bd hb
          refine lex.gcl (want_t rfl rfl (show _ = Value.bool (!y27) from rfl) hq30) (⟨_, _, op_call (vs := [.slice Aq_1 q_1.length cq_1]) Try.call19 rfl rfl rfl, perm_Valid_ok n hC.lt (hC.rd (i := 0) rfl) h37⟩) ?_
          rintro _ w38 ⟨rfl, hK⟩
          replace hC := hC.merge hK
          clear hK
          refine lex.gpure (want_t rfl rfl (show _ = Value.bool (!y27) from rfl) hq30) (v := .bool (!y36)) (pu_not (q := y36) rfl) ?_
          refine lex.pure (v := .bool (!y36)) (pu_pickF (q := (!y27)) rfl hq30 rfl) ?_
          refine lex.nil ?_
          refine hK5 _ _ ?_
          refine Wc.fresh fun E39 hE => ?_
          have e0 : E39 0 = .slice Ap_0 p_0.length cp_0 := (congrFun hE 0).trans rfl
          have e1 : E39 1 = .slice Aq_1 q_1.length cq_1 := (congrFun hE 1).trans rfl
          have e4 : E39 4 = .bool false := (congrFun hE 4).trans rfl
          have e35 : E39 35 = .bool (!y36) := (congrFun hE 35).trans rfl
          clear hE
          refine Wc.cond (t := (!y36)) (e35) (fun hq40 => ?_) (fun hq40 => ?_)
          · replace hb := (cT hq40).symm.trans hb
            refine Wc.seq fun K41 hK41 => ?_
            refine Wc.region (by decide +kernel) ?_
            obtain ⟨y42, h43, hb⟩ := bd hb
            refine lex.cl (⟨_, _, op_call (vs := []) Try.call10 rfl rfl rfl, law30_awake_ok n hC.lt  h43⟩) ?_
            rintro _ w44 ⟨rfl, hK⟩
            replace hC := hC.merge hK
            clear hK
            refine lex.pure (v := .bool y42) (pu_assign rfl) ?_
            refine lex.nil ?_
            refine hK41 _ _ ?_
            obtain rfl := Option.some.inj hb
            refine Wc.ret ?_
            refine hKR _ _ ?_
            refine ⟨_, res1 Try.results7 (show RV _ _ _ (.tmp _) (.bool y42) from rfl), _, rfl, rfl, hC.sel [] (by decide)⟩
          · replace hb := (cF hq40).symm.trans hb
            refine Wc.skip ?_
            refine hK4 _ _ ?_
            refine Wc.seq fun K45 hK45 => ?_
            refine Wc.region (by decide +kernel) ?_
            refine lex.pure (v := .slice Aq_1 q_1.length cq_1) (pu_move e1) ?_
            obtain ⟨y46, h47, hb⟩ := bd hb
            refine lex.cl (⟨_, _, op_call (vs := [.slice Aq_1 q_1.length cq_1]) Try.call23 rfl rfl rfl, perm_Inverse_ok n hC.lt (hC.rd (i := 0) rfl) h47⟩) ?_
            rintro _ w52 ⟨A48, m49, c50, rfl, hK⟩
            replace hC := hC.merge hK
            clear hK
            obtain ⟨rfl, hl53, hc54⟩ := (hC.ow (i := 0) rfl).sl_len
            refine lex.pure (v := .slice Ap_0 p_0.length cp_0) (pu_move e0) ?_
            obtain ⟨y55, h56, hb⟩ := bd hb
            refine lex.cl (⟨_, _, op_call (vs := [.slice A48 y46.length c50, .slice Ap_0 p_0.length cp_0]) Try.call20 rfl rfl rfl, perm_Mul_ok n (hC.lentLt [.slice A48 y46.length c50]) ((hC.ow (i := 0) rfl).lend (vs := [.slice A48 y46.length c50]) (by simp)) ((hC.rd (i := 2) rfl).lent [.slice A48 y46.length c50]) h56⟩) ?_
            rintro _ w62 ⟨A57, m58, c59, rfl, hr61, hK⟩
            replace hC := hC.mergeF hK rfl
            clear hK
            obtain ⟨rfl, hl63, hc64⟩ := (hC.ow (i := 0) rfl).sl_len
            refine lex.pure (v := .tuple #[.slice A57 y55.1.length c59, .int .i64 y55.2]) (pu_move rfl) ?_
            refine lex.pure (v := .slice A57 y55.1.length c59) (pu_extract rfl rfl) ?_
            refine lex.pure (v := .int .i64 y55.2) (pu_extract rfl rfl) ?_
            refine lex.pure (v := .slice A57 y55.1.length c59) (pu_assign rfl) ?_
            refine lex.pure (v := .int .i64 y55.2) (pu_assign rfl) ?_
            refine lex.nil ?_
            refine hK45 _ _ ?_
            refine Wc.seq fun K65 hK65 => ?_
            refine Wc.region (by decide +kernel) ?_
            refine lex.pure (v := .slice A57 y55.1.length c59) (pu_move rfl) ?_
            refine lex.pure (v := .slice Aq_1 q_1.length cq_1) (pu_move e1) ?_
            obtain ⟨y66, h67, hb⟩ := bd hb
            refine lex.cl (⟨_, _, op_call (vs := [.slice A57 y55.1.length c59, .slice Aq_1 q_1.length cq_1]) Try.call20 rfl rfl rfl, perm_Mul_ok n (hC.lentLt [.slice A57 y55.1.length c59]) ((hC.ow (i := 0) rfl).lend (vs := [.slice A57 y55.1.length c59]) (by simp)) ((hC.rd (i := 2) rfl).lent [.slice A57 y55.1.length c59]) h67⟩) ?_
            rintro _ w73 ⟨A68, m69, c70, rfl, hr72, hK⟩
            replace hC := hC.mergeF hK rfl
            clear hK
            obtain ⟨rfl, hl74, hc75⟩ := (hC.ow (i := 0) rfl).sl_len
            refine lex.pure (v := .tuple #[.slice A68 y66.1.length c70, .int .i64 y66.2]) (pu_move rfl) ?_
            refine lex.pure (v := .slice A68 y66.1.length c70) (pu_extract rfl rfl) ?_
            refine lex.pure (v := .int .i64 y66.2) (pu_extract rfl rfl) ?_
            refine lex.pure (v := .slice A68 y66.1.length c70) (pu_assign rfl) ?_
            refine lex.pure (v := .int .i64 y66.2) (pu_assign rfl) ?_
            refine lex.nil ?_
            refine hK65 _ _ ?_
            refine Wc.fresh fun E76 hE => ?_
            have e0 : E76 0 = .slice Ap_0 p_0.length cp_0 := (congrFun hE 0).trans e0
            have e1 : E76 1 = .slice Aq_1 q_1.length cq_1 := (congrFun hE 1).trans e1
            have e4 : E76 4 = .bool false := (congrFun hE 4).trans e4
            have e5 : E76 5 = .slice A68 y66.1.length c70 := (congrFun hE 5).trans rfl
            have e6 : E76 6 = .int .i64 y55.2 := (congrFun hE 6).trans rfl
            have e7 : E76 7 = .int .i64 y66.2 := (congrFun hE 7).trans rfl
            clear hE
            refine Wc.seq fun K77 hK77 => ?_
            refine Wc.seq fun K78 hK78 => ?_
            refine Wc.region (by decide +kernel) ?_
            refine lex.pure (v := .int .i64 y55.2) (pu_move e6) ?_
            refine lex.pure (v := .bool (!(decide (y55.2 = 0)))) (pu_neq (k := .i64) (a := y55.2) (b := 0) rfl rfl) ?_
            refine lex.pure (v := .bool (!(decide (y55.2 = 0)))) (pu_move rfl) ?_
            rcases bS (!(decide (y55.2 = 0))) with hq79 | hq79
            · replace hb := (cT hq79).symm.trans hb
              refine lex.gskip (want_f rfl rfl (show _ = Value.bool (!(decide (y55.2 = 0))) from rfl) hq79) ?_
              refine lex.gskip (want_f rfl rfl (show _ = Value.bool (!(decide (y55.2 = 0))) from rfl) hq79) ?_
              refine lex.pure (v := .bool true) (pu_pickT (q := (!(decide (y55.2 = 0)))) rfl hq79 rfl) ?_
              refine lex.pure (v := .bool true) (pu_move rfl) ?_
              refine lex.gskip (want_f rfl rfl (show _ = Value.bool true from rfl) rfl) ?_
              refine lex.gskip (want_f rfl rfl (show _ = Value.bool true from rfl) rfl) ?_
              refine lex.gskip (want_f rfl rfl (show _ = Value.bool true from rfl) rfl) ?_
              refine lex.gskip (want_f rfl rfl (show _ = Value.bool true from rfl) rfl) ?_
              refine lex.gskip (want_f rfl rfl (show _ = Value.bool true from rfl) rfl) ?_
              refine lex.gskip (want_f rfl rfl (show _ = Value.bool true from rfl) rfl) ?_
              refine lex.pure (v := .bool true) (pu_pickT (q := true) rfl rfl rfl) ?_
              refine lex.pure (v := .bool true) (pu_move rfl) ?_
              refine lex.gskip (want_f rfl rfl (show _ = Value.bool true from rfl) rfl) ?_
              refine lex.gskip (want_f rfl rfl (show _ = Value.bool true from rfl) rfl) ?_
              refine lex.gskip (want_f rfl rfl (show _ = Value.bool true from rfl) rfl) ?_
              refine lex.gskip (want_f rfl rfl (show _ = Value.bool true from rfl) rfl) ?_
              refine lex.gskip (want_f rfl rfl (show _ = Value.bool true from rfl) rfl) ?_
              refine lex.pure (v := .bool true) (pu_pickT (q := true) rfl rfl rfl) ?_
              refine lex.nil ?_
              refine hK78 _ _ ?_
              refine Wc.cond_true (rfl) ?_
              refine Wc.seq fun K80 hK80 => ?_
              refine Wc.region (by decide +kernel) ?_
              refine lex.pure (v := .bool false) (pu_assign rfl) ?_
              refine lex.nil ?_
              refine hK80 _ _ ?_
              obtain rfl := Option.some.inj hb
              refine Wc.ret ?_
              refine hKR _ _ ?_
              refine ⟨_, res1 Try.results7 (show RV _ _ _ (.tmp _) (.bool false) from rfl), _, rfl, rfl, hC.sel [] (by decide)⟩
            · replace hb := (cF hq79).symm.trans hb
              refine lex.gpure (want_t rfl rfl (show _ = Value.bool (!(decide (y55.2 = 0))) from rfl) hq79) (v := .int .i64 y66.2) (pu_move e7) ?_
              refine lex.gpure (want_t rfl rfl (show _ = Value.bool (!(decide (y55.2 = 0))) from rfl) hq79) (v := .bool (!(decide (y66.2 = 0)))) (pu_neq (k := .i64) (a := y66.2) (b := 0) rfl rfl) ?_
              refine lex.pure (v := .bool (!(decide (y66.2 = 0)))) (pu_pickF (q := (!(decide (y55.2 = 0)))) rfl hq79 rfl) ?_
              refine lex.pure (v := .bool (!(decide (y66.2 = 0)))) (pu_move rfl) ?_
              rcases bS (!(decide (y66.2 = 0))) with hq81 | hq81
              · replace hb := (cT hq81).symm.trans hb
                refine lex.gskip (want_f rfl rfl (show _ = Value.bool (!(decide (y66.2 = 0))) from rfl) hq81) ?_
                refine lex.gskip (want_f rfl rfl (show _ = Value.bool (!(decide (y66.2 = 0))) from rfl) hq81) ?_
                refine lex.gskip (want_f rfl rfl (show _ = Value.bool (!(decide (y66.2 = 0))) from rfl) hq81) ?_
                refine lex.gskip (want_f rfl rfl (show _ = Value.bool (!(decide (y66.2 = 0))) from rfl) hq81) ?_
                refine lex.gskip (want_f rfl rfl (show _ = Value.bool (!(decide (y66.2 = 0))) from rfl) hq81) ?_
                refine lex.gskip (want_f rfl rfl (show _ = Value.bool (!(decide (y66.2 = 0))) from rfl) hq81) ?_
                refine lex.pure (v := .bool true) (pu_pickT (q := (!(decide (y66.2 = 0)))) rfl hq81 rfl) ?_
                refine lex.pure (v := .bool true) (pu_move rfl) ?_
                refine lex.gskip (want_f rfl rfl (show _ = Value.bool true from rfl) rfl) ?_
                refine lex.gskip (want_f rfl rfl (show _ = Value.bool true from rfl) rfl) ?_
                refine lex.gskip (want_f rfl rfl (show _ = Value.bool true from rfl) rfl) ?_
                refine lex.gskip (want_f rfl rfl (show _ = Value.bool true from rfl) rfl) ?_
                refine lex.gskip (want_f rfl rfl (show _ = Value.bool true from rfl) rfl) ?_
                refine lex.pure (v := .bool true) (pu_pickT (q := true) rfl rfl rfl) ?_
                refine lex.nil ?_
                refine hK78 _ _ ?_
                refine Wc.cond_true (rfl) ?_
                refine Wc.seq fun K82 hK82 => ?_
                refine Wc.region (by decide +kernel) ?_
                refine lex.pure (v := .bool false) (pu_assign rfl) ?_
                refine lex.nil ?_
                refine hK82 _ _ ?_
                obtain rfl := Option.some.inj hb
                refine Wc.ret ?_
                refine hKR _ _ ?_
                refine ⟨_, res1 Try.results7 (show RV _ _ _ (.tmp _) (.bool false) from rfl), _, rfl, rfl, hC.sel [] (by decide)⟩
              · replace hb := (cF hq81).symm.trans hb
                refine lex.gpure (want_t rfl rfl (show _ = Value.bool (!(decide (y66.2 = 0))) from rfl) hq81) (v := .slice A68 y66.1.length c70) (pu_move e5) ?_
                obtain ⟨y83, h84, hb⟩ := bd hb
                refine lex.gcl (want_t rfl rfl (show _ = Value.bool (!(decide (y66.2 = 0))) from rfl) hq81) (⟨_, _, op_call (vs := [.slice A68 y66.1.length c70]) Try.call25 rfl rfl rfl, perm_Type_ok n (hC.lentLt [.slice A68 y66.1.length c70]) ((hC.ow (i := 0) rfl).lend (vs := [.slice A68 y66.1.length c70]) (by simp)) h84⟩) ?_
                rintro _ w89 ⟨A85, m86, c87, rfl, hK⟩
                replace hC := hC.mergeF hK rfl
                clear hK
                obtain ⟨rfl, hl90, hc91⟩ := (hC.ow (i := 0) rfl).sl_len
                refine lex.gpure (want_t rfl rfl (show _ = Value.bool (!(decide (y66.2 = 0))) from rfl) hq81) (v := .slice Ap_0 p_0.length cp_0) (pu_move e0) ?_
                obtain ⟨y92, h93, hb⟩ := bd hb
                refine lex.gcl (want_t rfl rfl (show _ = Value.bool (!(decide (y66.2 = 0))) from rfl) hq81) (⟨_, _, op_call (vs := [.slice Ap_0 p_0.length cp_0]) Try.call25 rfl rfl rfl, perm_Type_ok n hC.lt (hC.rd (i := 5) rfl) h93⟩) ?_
                rintro _ w98 ⟨A94, m95, c96, rfl, hK⟩
                replace hC := hC.merge hK
                clear hK
                obtain ⟨rfl, hl99, hc100⟩ := (hC.ow (i := 0) rfl).sl_len
                obtain ⟨y101, h102, hb⟩ := bd hb
                refine lex.gcl (want_t rfl rfl (show _ = Value.bool (!(decide (y66.2 = 0))) from rfl) hq81) (⟨_, _, op_call (vs := [.slice A85 y83.length c87, .slice A94 y92.length c96]) Try.call29 rfl rfl rfl, slices_Equal_Lint_int_ok n (hC.lentLt [.slice A85 y83.length c87, .slice A94 y92.length c96]) ((hC.ow (i := 1) rfl).lend (vs := [.slice A85 y83.length c87, .slice A94 y92.length c96]) (by simp)) ((hC.ow (i := 0) rfl).lend (vs := [.slice A85 y83.length c87, .slice A94 y92.length c96]) (by simp)) h102⟩) ?_
                rintro _ w103 ⟨rfl, hK⟩
                replace hC := hC.mergeF hK rfl
                clear hK
                refine lex.gpure (want_t rfl rfl (show _ = Value.bool (!(decide (y66.2 = 0))) from rfl) hq81) (v := .bool (!y101)) (pu_not (q := y101) rfl) ?_
                refine lex.pure (v := .bool (!y101)) (pu_pickF (q := (!(decide (y66.2 = 0)))) rfl hq81 rfl) ?_
                refine lex.pure (v := .bool (!y101)) (pu_move rfl) ?_
                rcases bS (!y101) with hq104 | hq104
                · replace hb := (cT hq104).symm.trans hb
                  refine lex.gskip (want_f rfl rfl (show _ = Value.bool (!y101) from rfl) hq104) ?_
                  refine lex.gskip (want_f rfl rfl (show _ = Value.bool (!y101) from rfl) hq104) ?_
                  refine lex.gskip (want_f rfl rfl (show _ = Value.bool (!y101) from rfl) hq104) ?_
                  refine lex.gskip (want_f rfl rfl (show _ = Value.bool (!y101) from rfl) hq104) ?_
                  refine lex.gskip (want_f rfl rfl (show _ = Value.bool (!y101) from rfl) hq104) ?_
                  refine lex.pure (v := .bool true) (pu_pickT (q := (!y101)) rfl hq104 rfl) ?_
                  refine lex.nil ?_
                  refine hK78 _ _ ?_
                  refine Wc.cond_true (rfl) ?_
                  refine Wc.seq fun K105 hK105 => ?_
                  refine Wc.region (by decide +kernel) ?_
                  refine lex.pure (v := .bool false) (pu_assign rfl) ?_
                  refine lex.nil ?_
                  refine hK105 _ _ ?_
                  obtain rfl := Option.some.inj hb
                  refine Wc.ret ?_
                  refine hKR _ _ ?_
                  refine ⟨_, res1 Try.results7 (show RV _ _ _ (.tmp _) (.bool false) from rfl), _, rfl, rfl, hC.sel [] (by decide)⟩
                · replace hb := (cF hq104).symm.trans hb
                  refine lex.gpure (want_t rfl rfl (show _ = Value.bool (!y101) from rfl) hq104) (v := .slice A68 y66.1.length c70) (pu_move e5) ?_
                  obtain ⟨y106, h107, hb⟩ := bd hb
                  refine lex.gcl (want_t rfl rfl (show _ = Value.bool (!y101) from rfl) hq104) (⟨_, _, op_call (vs := [.slice A68 y66.1.length c70]) Try.call26 rfl rfl rfl, perm_Sign_ok n (hC.lentLt [.slice A68 y66.1.length c70]) ((hC.ow (i := 2) rfl).lend (vs := [.slice A68 y66.1.length c70]) (by simp)) h107⟩) ?_
                  rintro _ w109 ⟨rfl, hr108, hK⟩
                  replace hC := hC.mergeF hK rfl
                  clear hK
                  refine lex.gpure (want_t rfl rfl (show _ = Value.bool (!y101) from rfl) hq104) (v := .slice Ap_0 p_0.length cp_0) (pu_move e0) ?_
                  obtain ⟨y110, h111, hb⟩ := bd hb
                  refine lex.gcl (want_t rfl rfl (show _ = Value.bool (!y101) from rfl) hq104) (⟨_, _, op_call (vs := [.slice Ap_0 p_0.length cp_0]) Try.call26 rfl rfl rfl, perm_Sign_ok n hC.lt (hC.rd (i := 6) rfl) h111⟩) ?_
                  rintro _ w113 ⟨rfl, hr112, hK⟩
                  replace hC := hC.merge hK
                  clear hK
                  refine lex.gpure (want_t rfl rfl (show _ = Value.bool (!y101) from rfl) hq104) (v := .bool (!(decide (y106 = y110)))) (pu_neq (k := .i64) (a := y106) (b := y110) rfl rfl) ?_
                  refine lex.pure (v := .bool (!(decide (y106 = y110)))) (pu_pickF (q := (!y101)) rfl hq104 rfl) ?_
                  refine lex.nil ?_
                  refine hK78 _ _ ?_
                  refine Wc.cond (t := (!(decide (y106 = y110)))) (rfl) (fun hq114 => ?_) (fun hq114 => ?_)
                  · replace hb := (cT hq114).symm.trans hb
                    refine Wc.seq fun K115 hK115 => ?_
                    refine Wc.region (by decide +kernel) ?_
                    refine lex.pure (v := .bool false) (pu_assign rfl) ?_
                    refine lex.nil ?_
                    refine hK115 _ _ ?_
                    obtain rfl := Option.some.inj hb
                    refine Wc.ret ?_
                    refine hKR _ _ ?_
                    refine ⟨_, res1 Try.results7 (show RV _ _ _ (.tmp _) (.bool false) from rfl), _, rfl, rfl, hC.sel [] (by decide)⟩
                  · replace hb := (cF hq114).symm.trans hb
                    refine Wc.skip ?_
                    refine hK77 _ _ ?_
                    refine Wc.fresh fun E116 hE => ?_
                    have e0 : E116 0 = .slice Ap_0 p_0.length cp_0 := (congrFun hE 0).trans e0
                    have e1 : E116 1 = .slice Aq_1 q_1.length cq_1 := (congrFun hE 1).trans e1
                    have e4 : E116 4 = .bool false := (congrFun hE 4).trans e4
                    have e5 : E116 5 = .slice A68 y66.1.length c70 := (congrFun hE 5).trans e5
                    clear hE
                    refine Wc.seq fun K117 hK117 => ?_
                    refine Wc.seq fun K118 hK118 => ?_
                    refine Wc.region (by decide +kernel) ?_
                    refine lex.pure (v := .slice Ap_0 p_0.length cp_0) (pu_move e0) ?_
                    obtain ⟨y119, h120, hb⟩ := bd hb
                    refine lex.cl (⟨_, _, op_call (vs := [.slice Ap_0 p_0.length cp_0]) Try.call24 rfl rfl rfl, perm_Cycles_ok n hC.lt (hC.rd (i := 6) rfl) h120⟩) ?_
                    rintro _ w125 ⟨A121, m122, c123, rfl, hK⟩
                    replace hC := hC.merge hK
                    clear hK
                    obtain ⟨rfl, hl126, hc127⟩ := (hC.ow (i := 0) rfl).sl_len
                    refine lex.pure (v := .int .i64 (y119.length : Int)) (pu_len (A := A121) (n := y119.length) (m := c123) Try.underlying23 rfl) ?_
                    refine lex.pure (v := .int .i64 0) (pu_move rfl) ?_
                    refine lex.nil ?_
                    refine hK118 _ _ ?_
                    obtain ⟨o128, hl0, hb⟩ := bd hb
                    refine Wc.cut (fun E wv => ∃ (v74_0 : Int), E 4 = .bool false ∧ I64 v74_0 ∧ Cx (fun _ => False) O0 w wv [] ∧ (some true : Option (Bool)) = some r) (fun K129 hK129 => ?_) ?_
                    · refine Wc.block ?_
                      refine Wc.loop (fun m E wv => ∃ (v74_0 : Int), E 1 = .slice Aq_1 q_1.length cq_1 ∧ E 4 = .bool false ∧ E 5 = .slice A68 y66.1.length c70 ∧ E 72 = .slice A121 y119.length c123 ∧ E 73 = .int .i64 (y119.length : Int) ∧ E 74 = .int .i64 v74_0 ∧ I64 v74_0 ∧ Cx (fun _ => False) O0 w wv [.ro (.sl (.int .i64)) [.slice Aq_1 q_1.length cq_1] q_1, .own 3 (.int .i64) (.slice A68 y66.1.length c70) y66.1, .own 28 (.sl (.int .i64)) (.slice A121 y119.length c123) y119] ∧ loopN m (F.law30_PermConjugates_b0 n q_1 y66 y119) v74_0 = some o128) n ⟨0, e1, e4, e5, rfl, rfl, rfl, (show I64 0 from by unfold I64; omega), hC.sel [6, 3, 0] (by decide), hl0⟩ ?_
                      have hbK0 := hb
                      clear hb hC hl0
                      rintro m131 E133 w132 ⟨v74_0, e1, e4, e5, e72, e73, e74, hrv74_0, hC, hl0⟩ K130 hK130
                      obtain ⟨m131', o134, rfl, hb, hl0⟩ := loopN_some hl0
                      unfold F.law30_PermConjugates_b0 at hb
                      refine Wc.seq fun K135 hK135 => ?_
                      refine Wc.region (by decide +kernel) ?_
                      refine lex.pure (v := .bool (decide (v74_0 < (y119.length : Int)))) (pu_lss (k := .i64) (a := v74_0) (b := (y119.length : Int)) e74 e73) ?_
                      refine lex.nil ?_
                      refine hK135 _ _ ?_
                      refine Wc.seq fun K136 hK136 => ?_
                      refine Wc.cond (t := (decide (v74_0 < (y119.length : Int)))) (rfl) (fun hq137 => ?_) (fun hq137 => ?_)
                      · replace hb := (cT hq137).symm.trans hb
                        refine Wc.skip ?_
                        refine hK136 _ _ ?_
                        refine Wc.seq fun K138 hK138 => ?_
                        refine Wc.block ?_
                        refine Wc.seq fun K139 hK139 => ?_
                        refine Wc.region (by decide +kernel) ?_
                        obtain ⟨x140, h141, hb⟩ := bd hb
                        obtain ⟨ad142, cs143, hA, hc144, hr145⟩ := hC.elo (i := 2) rfl (get_some h141).2
                        subst hA
                        refine lex.pure (v := .pointer (some (ad142.add (v74_0.toNat * 1)))) (pu_index (a := v74_0) Try.underlying23 Try.sizeOf28 e72 e74 (get_some h141).1) ?_
                        have hR := hr145
                        obtain ⟨A146, c147, rfl, hl148, hc149, _⟩ := hr145
                        replace hC := hC.ro hR
                        clear hR
                        refine lex.val (v := .slice A146 x140.length c147) (ld_one Try.isAgg28 rfl (hc144 0 _ rfl)) ?_
                        refine lex.pure (v := .slice A146 x140.length c147) (pu_assign rfl) ?_
                        refine lex.nil ?_
                        refine hK139 _ _ ?_
                        refine Wc.seq fun K151 hK151 => ?_
                        refine Wc.region (by decide +kernel) ?_
                        refine lex.pure (v := .slice A146 x140.length c147) (pu_move rfl) ?_
                        refine lex.pure (v := .int .i64 (x140.length : Int)) (pu_len (A := A146) (n := x140.length) (m := c147) Try.underlying28 rfl) ?_
                        refine lex.pure (v := .int .i64 0) (pu_move rfl) ?_
                        refine lex.nil ?_
                        refine hK151 _ _ ?_
                        obtain ⟨o152, hl1, hb⟩ := bd hb
                        refine Wc.cut (fun E wv => ∃ (v80_1 : Int), E 1 = .slice Aq_1 q_1.length cq_1 ∧ E 4 = .bool false ∧ E 5 = .slice A68 y66.1.length c70 ∧ E 9 = .slice A146 x140.length c147 ∧ E 72 = .slice (some ad142) y119.length c123 ∧ E 73 = .int .i64 (y119.length : Int) ∧ E 74 = .int .i64 v74_0 ∧ E 75 = .bool (decide (v74_0 < (y119.length : Int))) ∧ E 78 = .slice A146 x140.length c147 ∧ E 79 = .int .i64 (x140.length : Int) ∧ E 80 = .int .i64 v80_1 ∧ I64 v80_1 ∧ Cx (fun _ => False) O0 w wv [.ro (.sl (.int .i64)) [.slice Aq_1 q_1.length cq_1] q_1, .own 3 (.int .i64) (.slice A68 y66.1.length c70) y66.1, .ro (.sl (.int .i64)) [.slice A146 x140.length c147] x140, .own 28 (.sl (.int .i64)) (.slice (some ad142) y119.length c123) y119] ∧ ((chk (v74_0 + 1)).bind fun z211 => some (.inl z211) : Option ((Int) ⊕ ((Int) ⊕ (Bool)))) = some o134) (fun K153 hK153 => ?_) ?_
                        · refine Wc.block ?_
                          refine Wc.loop (fun m E wv => ∃ (v80_1 : Int), E 1 = .slice Aq_1 q_1.length cq_1 ∧ E 4 = .bool false ∧ E 5 = .slice A68 y66.1.length c70 ∧ E 9 = .slice A146 x140.length c147 ∧ E 72 = .slice (some ad142) y119.length c123 ∧ E 73 = .int .i64 (y119.length : Int) ∧ E 74 = .int .i64 v74_0 ∧ E 75 = .bool (decide (v74_0 < (y119.length : Int))) ∧ E 78 = .slice A146 x140.length c147 ∧ E 79 = .int .i64 (x140.length : Int) ∧ E 80 = .int .i64 v80_1 ∧ I64 v80_1 ∧ Cx (fun _ => False) O0 w wv [.ro (.sl (.int .i64)) [.slice Aq_1 q_1.length cq_1] q_1, .own 3 (.int .i64) (.slice A68 y66.1.length c70) y66.1, .ro (.sl (.int .i64)) [.slice A146 x140.length c147] x140, .own 28 (.sl (.int .i64)) (.slice (some ad142) y119.length c123) y119] ∧ loopN m (F.law30_PermConjugates_b1 n q_1 y66 x140) v80_1 = some o152) n ⟨0, e1, e4, e5, rfl, e72, e73, e74, rfl, rfl, rfl, rfl, (show I64 0 from by unfold I64; omega), hC.sel [1, 2, 0, 3] (by decide), hl1⟩ ?_
                          have hbK1 := hb
                          clear hb hC hl1
                          rintro m155 E157 w156 ⟨v80_1, e1, e4, e5, e9, e72, e73, e74, e75, e78, e79, e80, hrv80_1, hC, hl1⟩ K154 hK154
                          obtain ⟨m155', o158, rfl, hb, hl1⟩ := loopN_some hl1
                          unfold F.law30_PermConjugates_b1 at hb
                          refine Wc.seq fun K159 hK159 => ?_
                          refine Wc.region (by decide +kernel) ?_
                          refine lex.pure (v := .bool (decide (v80_1 < (x140.length : Int)))) (pu_lss (k := .i64) (a := v80_1) (b := (x140.length : Int)) e80 e79) ?_
                          refine lex.nil ?_
                          refine hK159 _ _ ?_
                          refine Wc.seq fun K160 hK160 => ?_
                          refine Wc.cond (t := (decide (v80_1 < (x140.length : Int)))) (rfl) (fun hq161 => ?_) (fun hq161 => ?_)
                          · replace hb := (cT hq161).symm.trans hb
                            refine Wc.skip ?_
                            refine hK160 _ _ ?_
                            refine Wc.seq fun K162 hK162 => ?_
                            refine Wc.block ?_
                            refine Wc.seq fun K163 hK163 => ?_
                            refine Wc.region (by decide +kernel) ?_
                            refine lex.pure (v := .int .i64 v80_1) (pu_move e80) ?_
                            obtain ⟨x164, h165, hb⟩ := bd hb
                            obtain ⟨ad166, cs167, hA, hc168, hr169⟩ := hC.elr (i := 2) rfl (get_some h165).2
                            subst hA
                            refine lex.pure (v := .pointer (some (ad166.add (v80_1.toNat * 1)))) (pu_index (a := v80_1) Try.underlying28 Try.sizeOf3 e78 e80 (get_some h165).1) ?_
                            obtain ⟨rfl, hr169'⟩ := hr169
                            refine lex.val (v := .int .i64 x164) (ld_one Try.isAgg3 rfl (hc168 0 _ rfl)) ?_
                            refine lex.pure (v := .int .i64 v80_1) (pu_assign rfl) ?_
                            refine lex.pure (v := .int .i64 x164) (pu_assign rfl) ?_
                            refine lex.nil ?_
                            refine hK163 _ _ ?_
                            refine Wc.seq fun K170 hK170 => ?_
                            refine Wc.regionMix [] (frm [] ([] : List Fact) ([] : List Fact)) (fun _ => rfl) mixed (by decide +kernel) (by decide +kernel) fun w172 hw171 => ?_
                            replace hC := hC.step (Fr.of_drew hw171)
                            have hM := Fr.refl (fun k => k ∈ blocks ([] : List Fact)) w172
                            clear hw171
                            have hS := hC
                            refine mixE.pure (v := .slice A68 y66.1.length c70) (pu_move e5) ?_
                            refine mixE.pure (v := .slice Aq_1 q_1.length cq_1) (pu_move e1) ?_
                            refine mixE.pure (v := .int .i64 x164) (pu_move rfl) ?_
                            obtain ⟨x173, h174, hb⟩ := bd hb
                            obtain ⟨ad175, cs176, hA, ho179, hc177, hr178⟩ := hS.elr2 (i := 0) rfl (get_some h174).2 []
                            subst hA
                            refine mixE.pure (v := .pointer (some (ad175.add (x164.toNat * 1)))) (pu_index (a := x164) Try.underlying28 Try.sizeOf3 rfl rfl (get_some h174).1) ?_
                            obtain ⟨rfl, hr178'⟩ := hr178
                            refine mixE.load hM (v := .int .i64 x173) (fun _ hF => ld_one Try.isAgg3 rfl (hF.cell (hc177 0 _ rfl) (off1 ho179))) ?_
                            obtain ⟨x180, h181, hb⟩ := bd hb
                            obtain ⟨ad182, cs183, hA, ho186, hc184, hr185⟩ := hS.elo2 (i := 1) rfl (get_some h181).2 [] (by decide)
                            subst hA
                            refine mixE.pure (v := .pointer (some (ad182.add (x173.toNat * 1)))) (pu_index (a := x173) Try.underlying29 Try.sizeOf3 rfl rfl (get_some h181).1) ?_
                            obtain ⟨rfl, hr185'⟩ := hr185
                            refine mixE.load hM (v := .int .i64 x180) (fun _ hF => ld_one Try.isAgg3 rfl (hF.cell (hc184 0 _ rfl) (off1 ho186))) ?_
                            refine mixE.pure (v := .slice (some ad175) q_1.length cq_1) (pu_move e1) ?_
                            refine mixE.pure (v := .slice (some ad166) x140.length c147) (pu_move e9) ?_
                            refine mixE.pure (v := .int .i64 v80_1) (pu_move rfl) ?_
                            obtain ⟨z187, h188, hb⟩ := bd hb
                            refine mixE.pure (v := .int .i64 z187) (pu_addc (a := v80_1) (b := 1) rfl rfl h188) ?_
                            refine mixE.pure (v := .slice (some ad166) x140.length c147) (pu_move e9) ?_
                            refine mixE.pure (v := .int .i64 (x140.length : Int)) (pu_len (A := (some ad166)) (n := x140.length) (m := c147) Try.underlying28 rfl) ?_
                            obtain ⟨u189, h190, hb⟩ := bd hb
                            refine mixE.pure (v := .int .i64 (Int.tmod z187 (x140.length : Int))) (pu_remc (a := z187) (b := (x140.length : Int)) rfl rfl h190) ?_
                            obtain ⟨x191, h192, hb⟩ := bd hb
                            obtain ⟨ad193, cs194, hA, ho197, hc195, hr196⟩ := hS.elr2 (i := 2) rfl (get_some h192).2 []
                            obtain rfl := Option.some.inj hA
                            refine mixE.pure (v := .pointer (some (ad166.add ((Int.tmod z187 (x140.length : Int)).toNat * 1)))) (pu_index (a := (Int.tmod z187 (x140.length : Int))) Try.underlying28 Try.sizeOf3 rfl rfl (get_some h192).1) ?_
                            obtain ⟨rfl, hr196'⟩ := hr196
                            refine mixE.load hM (v := .int .i64 x191) (fun _ hF => ld_one Try.isAgg3 rfl (hF.cell (hc195 0 _ rfl) (off1 ho197))) ?_
                            obtain ⟨x198, h199, hb⟩ := bd hb
                            obtain ⟨ad200, cs201, hA, ho204, hc202, hr203⟩ := hS.elr2 (i := 0) rfl (get_some h199).2 []
                            obtain rfl := Option.some.inj hA
                            refine mixE.pure (v := .pointer (some (ad175.add (x191.toNat * 1)))) (pu_index (a := x191) Try.underlying28 Try.sizeOf3 rfl rfl (get_some h199).1) ?_
                            obtain ⟨rfl, hr203'⟩ := hr203
                            refine mixE.load hM (v := .int .i64 x198) (fun _ hF => ld_one Try.isAgg3 rfl (hF.cell (hc202 0 _ rfl) (off1 ho204))) ?_
                            refine mixE.pure (v := .bool (!(decide (x180 = x198)))) (pu_neq (k := .i64) (a := x180) (b := x198) rfl rfl) ?_
                            refine mixE.nil ?_
                            clear hS hM
                            refine hK170 _ _ ?_
                            refine Wc.cond (t := (!(decide (x180 = x198)))) (rfl) (fun hq205 => ?_) (fun hq205 => ?_)
                            · replace hb := (cT hq205).symm.trans hb
                              refine Wc.seq fun K206 hK206 => ?_
                              refine Wc.region (by decide +kernel) ?_
                              refine lex.pure (v := .bool false) (pu_assign rfl) ?_
                              refine lex.nil ?_
                              refine hK206 _ _ ?_
                              obtain rfl := Option.some.inj hb
                              obtain rfl := (lX hl1).symm
                              replace hb := hbK1
                              obtain rfl := Option.some.inj hb
                              obtain rfl := (lX hl0).symm
                              replace hb := hbK0
                              obtain rfl := Option.some.inj hb
                              refine Wc.ret ?_
                              refine hKR _ _ ?_
                              refine ⟨_, res1 Try.results7 (show RV _ _ _ (.tmp _) (.bool false) from rfl), _, rfl, rfl, hC.sel [] (by decide)⟩
                            · replace hb := (cF hq205).symm.trans hb
                              refine Wc.skip ?_
                              refine hK162 _ _ ?_
                              refine Wc.region (by decide +kernel) ?_
                              obtain ⟨z207, h208, hb⟩ := bd hb
                              refine lex.pure (v := .int .i64 z207) (pu_addc (a := v80_1) (b := 1) e80 rfl h208) ?_
                              refine lex.pure (v := .int .i64 z207) (pu_move rfl) ?_
                              refine lex.nil ?_
                              obtain rfl := Option.some.inj hb
                              exact hK154 m155' _ _ (Nat.lt_succ_self _) ⟨z207, e1, e4, e5, e9, e72, e73, e74, e75, e78, e79, rfl, (chk_rng h208), hC.sel [0, 1, 2, 3] (by decide), lN hl1⟩
                          · replace hb := (cF hq161).symm.trans hb
                            refine Wc.exit rfl ?_
                            obtain rfl := Option.some.inj hb
                            obtain rfl := (lX hl1).symm
                            exact hK153 _ _ ⟨v80_1, e1, e4, e5, e9, e72, e73, e74, e75, e78, e79, e80, hrv80_1, hC.sel [0, 1, 2, 3] (by decide), hbK1⟩
                        · clear hb hC hl1
                          rintro E210 w209 ⟨v80_1, e1, e4, e5, e9, e72, e73, e74, e75, e78, e79, e80, hrv80_1, hC, hb⟩
                          refine hK138 _ _ ?_
                          refine Wc.region (by decide +kernel) ?_
                          obtain ⟨z211, h212, hb⟩ := bd hb
                          refine lex.pure (v := .int .i64 z211) (pu_addc (a := v74_0) (b := 1) e74 rfl h212) ?_
                          refine lex.pure (v := .int .i64 z211) (pu_move rfl) ?_
                          refine lex.nil ?_
                          obtain rfl := Option.some.inj hb
                          exact hK130 m131' _ _ (Nat.lt_succ_self _) ⟨z211, e1, e4, e5, e72, e73, rfl, (chk_rng h212), hC.sel [0, 1, 3] (by decide), lN hl0⟩
                      · replace hb := (cF hq137).symm.trans hb
                        refine Wc.exit rfl ?_
                        obtain rfl := Option.some.inj hb
                        obtain rfl := (lX hl0).symm
                        exact hK129 _ _ ⟨v74_0, e4, hrv74_0, hC.sel [] (by decide), hbK0⟩
                    · clear hb hC hl0
                      rintro E214 w213 ⟨v74_0, e4, hrv74_0, hC, hb⟩
                      refine hK117 _ _ ?_
                      refine Wc.seq fun K215 hK215 => ?_
                      refine Wc.region (by decide +kernel) ?_
                      refine lex.pure (v := .bool true) (pu_assign rfl) ?_
                      refine lex.nil ?_
                      refine hK215 _ _ ?_
                      obtain rfl := Option.some.inj hb
                      refine Wc.ret ?_
                      refine hKR _ _ ?_
                      refine ⟨_, res1 Try.results7 (show RV _ _ _ (.tmp _) (.bool true) from rfl), _, rfl, rfl, hC.sel [] (by decide)⟩
end Go.Proofs.Ytmlkiafidahnbaa
