/- The walks: part 12. -/
import Derived.Test.YtkeaonceaaafcaaS
import Derived.Test.YtkeaonceaaafcaaG0
import Derived.Test.YtkeaonceaaafcaaG3
import Derived.Test.YtkeaonceaaafcaaG4
import Derived.Test.YtkeaonceaaafcaaG5
import Derived.Test.YtkeaonceaaafcaaG7
import Derived.Test.YtkeaonceaaafcaaG8
import Derived.Test.YtkeaonceaaafcaaG10
import Derived.Test.YtkeaonceaaafcaaG11
set_option linter.unusedVariables false
set_option linter.unusedSimpArgs false
namespace Go.Proofs.Ytkeaonceaaafcaa
open Ev
set_option maxRecDepth 100000 in
set_option maxHeartbeats 4000000 in
theorem law34_GarsideForm_ok (n : Nat) {w : World} {O0 : List Nat} (hO : ∀ k ∈ O0, k < w.heap.size) {b_0_0 : Int} (hb_0_0 : I64 b_0_0) {Ab_0_1 : Option Addr} {mb_0_1 cb_0_1 : Nat} {b_0_1 : List Int} (hb_0_1 : Rep O0 w (.sl (.int .i64)) [.slice Ab_0_1 mb_0_1 cb_0_1] b_0_1) {r : Bool} (hb : F.law34_GarsideForm n b_0_0 b_0_1 = some r) :
    Calls Try.prog 3 #[.agg #[.int .i64 b_0_0, .slice Ab_0_1 mb_0_1 cb_0_1]] w fun e w' => ∃ v, e = .returned v ∧ v = .bool r ∧ Cx (fun _ => False) O0 w w' [] := by
  unfold F.law34_GarsideForm at hb
  have hC := Cx.start hO
  replace hC := hC.arg rfl hb_0_1
  clear hO
  obtain ⟨rfl, hlb_0_1, hcb_0_1⟩ := hb_0_1.sl_len
  refine calls_of_Wc Try.func3 rfl (by rw [Try.ntmps3]; exact Nat.le_of_ble_eq_true rfl) fun KR hKR => ?_
  refine Wc.seq fun K2 hK2 => ?_
  refine Wc.region (by decide +kernel) ?_
  refine lex.op (hC.box (cs := [.int .i64 b_0_0, .slice Ab_0_1 b_0_1.length cb_0_1]) rfl rfl) ?_
  rintro _ w4 ⟨g3, rfl, hC, hF, hG⟩
  clear hG
  refine lex.pure (v := .bool false) (pu_assign rfl) ?_
  refine lex.nil ?_
  refine hK2 _ _ ?_
  refine Wc.seqJ (fun E wv => E 1 = .pointer (some ⟨g3, 0, none⟩) ∧ E 2 = .bool false ∧ Cx (fun _ => False) O0 w wv [.box g3 24 [.int .i64 b_0_0, .slice Ab_0_1 b_0_1.length cb_0_1], .ro (.sl (.int .i64)) [.slice Ab_0_1 b_0_1.length cb_0_1] b_0_1] ∧ F.law34_GarsideForm_j0 n b_0_0 b_0_1 = some r) (fun K6 hK6 => ?_) ?_
  ·
    skip
    refine Wc.seq fun K7 hK7 => ?_
    refine Wc.region (by decide +kernel) ?_
    obtain ⟨y8, h9, hb⟩ := bd hb
    refine lex.cl (⟨_, _, op_call (vs := []) Try.call12 rfl rfl rfl, law34_awake_ok n hC.lt  h9⟩) ?_
    rintro _ w10 ⟨rfl, hK⟩
    replace hC := hC.merge hK
    clear hK
    refine lex.pure (v := .bool (!y8)) (pu_not (q := y8) rfl) ?_
    refine lex.pure (v := .bool (!y8)) (pu_move rfl) ?_
    rcases bS (!y8) with hq11 | hq11
    · replace hb := (cT hq11).symm.trans hb
      refine lex.gskip (want_f rfl rfl (show _ = Value.bool (!y8) from rfl) hq11) ?_
      refine lex.gskip (want_f rfl rfl (show _ = Value.bool (!y8) from rfl) hq11) ?_
      refine lex.gskip (want_f rfl rfl (show _ = Value.bool (!y8) from rfl) hq11) ?_
      refine lex.gskip (want_f rfl rfl (show _ = Value.bool (!y8) from rfl) hq11) ?_
      refine lex.gskip (want_f rfl rfl (show _ = Value.bool (!y8) from rfl) hq11) ?_
      refine lex.gskip (want_n rfl rfl rfl) ?_
      refine lex.gskip (want_n rfl rfl rfl) ?_
      refine lex.gskip (want_n rfl rfl rfl) ?_
      refine lex.gskip (want_n rfl rfl rfl) ?_
      refine lex.gskip (want_f rfl rfl (show _ = Value.bool (!y8) from rfl) hq11) ?_
      refine lex.pure (v := .bool true) (pu_pickT (q := (!y8)) rfl hq11 rfl) ?_
      refine lex.nil ?_
      refine hK7 _ _ ?_
      refine Wc.cond_true (rfl) ?_
      refine Wc.seq fun K12 hK12 => ?_
      refine Wc.region (by decide +kernel) ?_
      obtain ⟨y13, h14, hb⟩ := bd hb
      refine lex.cl (⟨_, _, op_call (vs := []) Try.call12 rfl rfl rfl, law34_awake_ok n hC.lt  h14⟩) ?_
      rintro _ w15 ⟨rfl, hK⟩
      replace hC := hC.merge hK
      clear hK
      refine lex.pure (v := .bool y13) (pu_assign rfl) ?_
      refine lex.nil ?_
      refine hK12 _ _ ?_
      obtain rfl := Option.some.inj hb
      refine Wc.ret ?_
      refine hKR _ _ ?_
      refine ⟨_, res1 Try.results3 (show RV _ _ _ (.tmp _) (.bool y13) from rfl), _, rfl, rfl, hC.sel [] (by decide)⟩
    · replace hb := (cF hq11).symm.trans hb
      refine lex.gpure (want_t rfl rfl (show _ = Value.bool (!y8) from rfl) hq11) (v := .pointer (some ((⟨g3, 0, none⟩ : Addr).add 1))) (pu_field (sz := 1) Try.underlying24 rfl Try.sizeOf22 (by decide) rfl rfl) ?_
      refine lex.gval (want_t rfl rfl (show _ = Value.bool (!y8) from rfl) hq11) (v := .slice Ab_0_1 b_0_1.length cb_0_1) (ld_fld (hC.bx (i := 0) rfl) Try.isAgg22 rfl rfl) ?_
      refine lex.gpure (want_t rfl rfl (show _ = Value.bool (!y8) from rfl) hq11) (v := .int .i64 (b_0_1.length : Int)) (pu_len (A := Ab_0_1) (n := b_0_1.length) (m := cb_0_1) Try.underlying22 rfl) ?_
      refine lex.gpure (want_t rfl rfl (show _ = Value.bool (!y8) from rfl) hq11) (v := .bool (decide (12 < (b_0_1.length : Int)))) (pu_gtr (k := .i64) (a := (b_0_1.length : Int)) (b := 12) rfl rfl) ?_
      refine lex.gpure (want_t rfl rfl (show _ = Value.bool (!y8) from rfl) hq11) (v := .bool (decide (12 < (b_0_1.length : Int)))) (pu_move rfl) ?_
      rcases bS (decide (12 < (b_0_1.length : Int))) with hq16 | hq16
      · replace hb := (cT hq16).symm.trans hb
        refine lex.gpure (want_t rfl rfl (show _ = Value.bool (decide (12 < (b_0_1.length : Int))) from rfl) hq16) (v := .pointer (some ((⟨g3, 0, none⟩ : Addr).add 1))) (pu_field (sz := 1) Try.underlying24 rfl Try.sizeOf22 (by decide) rfl rfl) ?_
        refine lex.gval (want_t rfl rfl (show _ = Value.bool (decide (12 < (b_0_1.length : Int))) from rfl) hq16) (v := .slice Ab_0_1 b_0_1.length cb_0_1) (ld_fld (hC.bx (i := 0) rfl) Try.isAgg22 rfl rfl) ?_
        refine lex.gpure (want_t rfl rfl (show _ = Value.bool (decide (12 < (b_0_1.length : Int))) from rfl) hq16) (v := .int .i64 (b_0_1.length : Int)) (pu_len (A := Ab_0_1) (n := b_0_1.length) (m := cb_0_1) Try.underlying22 rfl) ?_
        refine lex.gpure (want_t rfl rfl (show _ = Value.bool (decide (12 < (b_0_1.length : Int))) from rfl) hq16) (v := .bool (decide ((b_0_1.length : Int) ≤ 200))) (pu_leq (k := .i64) (a := (b_0_1.length : Int)) (b := 200) rfl rfl) ?_
        refine lex.gpure (want_t rfl rfl (show _ = Value.bool (!y8) from rfl) hq11) (v := .bool (decide ((b_0_1.length : Int) ≤ 200))) (pu_pickT (q := (decide (12 < (b_0_1.length : Int)))) rfl hq16 rfl) ?_
        refine lex.pure (v := .bool (decide ((b_0_1.length : Int) ≤ 200))) (pu_pickF (q := (!y8)) rfl hq11 rfl) ?_
        refine lex.nil ?_
        refine hK7 _ _ ?_
        refine Wc.fresh fun E17 hE => ?_
        have e1 : E17 1 = .pointer (some ⟨g3, 0, none⟩) := (congrFun hE 1).trans rfl
        have e2 : E17 2 = .bool false := (congrFun hE 2).trans rfl
        have e20 : E17 20 = .bool (decide ((b_0_1.length : Int) ≤ 200)) := (congrFun hE 20).trans rfl
        clear hE
        refine Wc.cond (t := (decide ((b_0_1.length : Int) ≤ 200))) (e20) (fun hq18 => ?_) (fun hq18 => ?_)
        · replace hb := (cT hq18).symm.trans hb
          refine Wc.seq fun K19 hK19 => ?_
          refine Wc.region (by decide +kernel) ?_
          obtain ⟨y20, h21, hb⟩ := bd hb
          refine lex.cl (⟨_, _, op_call (vs := []) Try.call12 rfl rfl rfl, law34_awake_ok n hC.lt  h21⟩) ?_
          rintro _ w22 ⟨rfl, hK⟩
          replace hC := hC.merge hK
          clear hK
          refine lex.pure (v := .bool y20) (pu_assign rfl) ?_
          refine lex.nil ?_
          refine hK19 _ _ ?_
          obtain rfl := Option.some.inj hb
          refine Wc.ret ?_
          refine hKR _ _ ?_
          refine ⟨_, res1 Try.results3 (show RV _ _ _ (.tmp _) (.bool y20) from rfl), _, rfl, rfl, hC.sel [] (by decide)⟩
        · replace hb := (cF hq18).symm.trans hb
          refine Wc.skip ?_
          exact hK6 _ _ ⟨e1, e2, hC.sel [0, 1] (by decide), hb⟩
      · replace hb := (cF hq16).symm.trans hb
        refine lex.gskip (want_f rfl rfl (show _ = Value.bool (decide (12 < (b_0_1.length : Int))) from rfl) hq16) ?_
        refine lex.gskip (want_f rfl rfl (show _ = Value.bool (decide (12 < (b_0_1.length : Int))) from rfl) hq16) ?_
        refine lex.gskip (want_f rfl rfl (show _ = Value.bool (decide (12 < (b_0_1.length : Int))) from rfl) hq16) ?_
        refine lex.gskip (want_f rfl rfl (show _ = Value.bool (decide (12 < (b_0_1.length : Int))) from rfl) hq16) ?_
        refine lex.gpure (want_t rfl rfl (show _ = Value.bool (!y8) from rfl) hq11) (v := .bool false) (pu_pickF (q := (decide (12 < (b_0_1.length : Int)))) rfl hq16 rfl) ?_
        refine lex.pure (v := .bool false) (pu_pickF (q := (!y8)) rfl hq11 rfl) ?_
        refine lex.nil ?_
        refine hK7 _ _ ?_
        refine Wc.fresh fun E23 hE => ?_
        have e1 : E23 1 = .pointer (some ⟨g3, 0, none⟩) := (congrFun hE 1).trans rfl
        have e2 : E23 2 = .bool false := (congrFun hE 2).trans rfl
        have e20 : E23 20 = .bool false := (congrFun hE 20).trans rfl
        clear hE
        refine Wc.cond_false (e20) ?_
        refine Wc.skip ?_
        exact hK6 _ _ ⟨e1, e2, hC.sel [0, 1] (by decide), hb⟩
  · clear hb hC
    rintro E25 w24 ⟨e1, e2, hC, hb⟩
    unfold F.law34_GarsideForm_j0 at hb
    refine Wc.seq fun K26 hK26 => ?_
    refine Wc.region (by decide +kernel) ?_
    refine lex.val (v := .agg #[.int .i64 b_0_0, .slice Ab_0_1 b_0_1.length cb_0_1]) (ld_blk (hC.bx (i := 0) rfl) Try.isAgg24 Try.sizeOf24 e1) ?_
    obtain ⟨y27, h28, hb⟩ := bd hb
    refine lex.cl (⟨_, _, op_call (vs := [.agg #[.int .i64 b_0_0, .slice Ab_0_1 b_0_1.length cb_0_1]]) Try.call13 rfl rfl rfl, garside_Form_ok n hC.lt hb_0_0 (hC.rd (i := 1) rfl) h28⟩) ?_
    rintro _ w36 ⟨A31, m32, c33, rfl, hr29, hr30, hr35, hK⟩
    replace hC := hC.merge hK
    clear hK
    obtain ⟨rfl, hl37, hc38⟩ := (hC.rd (i := 0) rfl).sl_len
    refine lex.pure (v := .tuple #[.agg #[.int .i64 y27.1, .int .i64 y27.2.1, .slice A31 y27.2.2.1.length c33], .int .i64 y27.2.2.2]) (pu_move rfl) ?_
    refine lex.pure (v := .agg #[.int .i64 y27.1, .int .i64 y27.2.1, .slice A31 y27.2.2.1.length c33]) (pu_extract rfl rfl) ?_
    refine lex.pure (v := .int .i64 y27.2.2.2) (pu_extract rfl rfl) ?_
    refine lex.op (hC.alloc (cs := [.int .i64 0, .int .i64 0, .slice none 0 0]) Try.zeroValue28 rfl) ?_
    rintro _ w40 ⟨g39, rfl, hC, hF, hG⟩
    clear hG
    refine lex.sk (hC.seta (i := 0) (ds := [.int .i64 y27.1, .int .i64 y27.2.1, .slice A31 y27.2.2.1.length c33]) rfl Try.type28 rfl rfl rfl rfl rfl) ?_
    rintro w42 ⟨hC, hF⟩
    refine lex.pure (v := .int .i64 y27.2.2.2) (pu_assign rfl) ?_
    refine lex.nil ?_
    refine hK26 _ _ ?_
    refine Wc.seq fun K43 hK43 => ?_
    refine Wc.seq fun K44 hK44 => ?_
    refine Wc.region (by decide +kernel) ?_
    refine lex.val (v := .agg #[.int .i64 b_0_0, .slice Ab_0_1 b_0_1.length cb_0_1]) (ld_blk (hC.bx (i := 2) rfl) Try.isAgg24 Try.sizeOf24 e1) ?_
    obtain ⟨y45, h46, hb⟩ := bd hb
    refine lex.cl (⟨_, _, op_call (vs := [.agg #[.int .i64 b_0_0, .slice Ab_0_1 b_0_1.length cb_0_1]]) Try.call14 rfl rfl rfl, braid_Valid_ok n hC.lt hb_0_0 (hC.rd (i := 3) rfl) h46⟩) ?_
    rintro _ w47 ⟨rfl, hK⟩
    replace hC := hC.merge hK
    clear hK
    refine lex.pure (v := .bool (!y45)) (pu_not (q := y45) rfl) ?_
    refine lex.nil ?_
    refine hK44 _ _ ?_
    refine Wc.fresh fun E48 hE => ?_
    have e1 : E48 1 = .pointer (some ⟨g3, 0, none⟩) := (congrFun hE 1).trans e1
    have e2 : E48 2 = .bool false := (congrFun hE 2).trans e2
    have e3 : E48 3 = .pointer (some ⟨g39, 0, none⟩) := (congrFun hE 3).trans rfl
    have e4 : E48 4 = .int .i64 y27.2.2.2 := (congrFun hE 4).trans rfl
    have e29 : E48 29 = .bool (!y45) := (congrFun hE 29).trans rfl
    clear hE
    refine Wc.cond (t := (!y45)) (e29) (fun hq49 => ?_) (fun hq49 => ?_)
    · replace hb := (cT hq49).symm.trans hb
      refine Wc.seq fun K50 hK50 => ?_
      refine Wc.region (by decide +kernel) ?_
      refine lex.pure (v := .int .i64 y27.2.2.2) (pu_move e4) ?_
      refine lex.pure (v := .bool (decide (y27.2.2.2 = 1))) (pu_eql (k := .i64) (a := y27.2.2.2) (b := 1) rfl rfl) ?_
      refine lex.pure (v := .bool (decide (y27.2.2.2 = 1))) (pu_move rfl) ?_
      rcases bS (decide (y27.2.2.2 = 1)) with hq51 | hq51
      · replace hb := (cT hq51).symm.trans hb
        refine lex.gval (want_t rfl rfl (show _ = Value.bool (decide (y27.2.2.2 = 1)) from rfl) hq51) (v := .agg #[.int .i64 y27.1, .int .i64 y27.2.1, .slice A31 y27.2.2.1.length c33]) (ld_blk (hC.bx (i := 0) rfl) Try.isAgg28 Try.sizeOf28 e3) ?_
        obtain ⟨y52, h53, hb⟩ := bd hb
        refine lex.gcl (want_t rfl rfl (show _ = Value.bool (decide (y27.2.2.2 = 1)) from rfl) hq51) (⟨_, _, op_call (vs := [.agg #[.int .i64 y27.1, .int .i64 y27.2.1, .slice A31 y27.2.2.1.length c33]]) Try.call15 rfl rfl rfl, law34_zero_ok n hC.lt hr29 hr30 (hC.rd (i := 1) rfl) h53⟩) ?_
        rintro _ w54 ⟨rfl, hK⟩
        replace hC := hC.merge hK
        clear hK
        refine lex.pure (v := .bool y52) (pu_pickT (q := (decide (y27.2.2.2 = 1))) rfl hq51 rfl) ?_
        refine lex.pure (v := .bool y52) (pu_assign rfl) ?_
        refine lex.nil ?_
        refine hK50 _ _ ?_
        obtain rfl := Option.some.inj hb
        refine Wc.ret ?_
        refine hKR _ _ ?_
        refine ⟨_, res1 Try.results3 (show RV _ _ _ (.tmp _) (.bool y52) from rfl), _, rfl, rfl, hC.sel [] (by decide)⟩
      · replace hb := (cF hq51).symm.trans hb
        refine lex.gskip (want_f rfl rfl (show _ = Value.bool (decide (y27.2.2.2 = 1)) from rfl) hq51) ?_
        refine lex.gskip (want_f rfl rfl (show _ = Value.bool (decide (y27.2.2.2 = 1)) from rfl) hq51) ?_
        refine lex.pure (v := .bool false) (pu_pickF (q := (decide (y27.2.2.2 = 1))) rfl hq51 rfl) ?_
        refine lex.pure (v := .bool false) (pu_assign rfl) ?_
        refine lex.nil ?_
        refine hK50 _ _ ?_
        obtain rfl := Option.some.inj hb
        refine Wc.ret ?_
        refine hKR _ _ ?_
        refine ⟨_, res1 Try.results3 (show RV _ _ _ (.tmp _) (.bool false) from rfl), _, rfl, rfl, hC.sel [] (by decide)⟩
    · replace hb := (cF hq49).symm.trans hb
      refine Wc.skip ?_
      refine hK43 _ _ ?_
      refine Wc.seq fun K55 hK55 => ?_
      refine Wc.seq fun K56 hK56 => ?_
      refine Wc.regionMix [] (frm [] ([] : List Fact) ([] : List Fact)) (fun _ => rfl) mixed (by decide +kernel) (by decide +kernel) fun w58 hw57 => ?_
      replace hC := hC.step (Fr.of_drew hw57)
      have hM := Fr.refl (fun k => k ∈ blocks ([] : List Fact)) w58
      clear hw57
      have hS := hC
      refine mixE.pure (v := .int .i64 y27.2.2.2) (pu_move e4) ?_
      refine mixE.pure (v := .bool (!(decide (y27.2.2.2 = 0)))) (pu_neq (k := .i64) (a := y27.2.2.2) (b := 0) rfl rfl) ?_
      refine mixE.pure (v := .bool (!(decide (y27.2.2.2 = 0)))) (pu_move rfl) ?_
      rcases bS (!(decide (y27.2.2.2 = 0))) with hq59 | hq59
      · replace hb := (cT hq59).symm.trans hb
        refine mixE.gskip (want_f rfl rfl (show _ = Value.bool (!(decide (y27.2.2.2 = 0))) from rfl) hq59) ?_
        refine mixE.gskip (want_f rfl rfl (show _ = Value.bool (!(decide (y27.2.2.2 = 0))) from rfl) hq59) ?_
        refine mixE.gskip (want_f rfl rfl (show _ = Value.bool (!(decide (y27.2.2.2 = 0))) from rfl) hq59) ?_
        refine mixE.gskip (want_f rfl rfl (show _ = Value.bool (!(decide (y27.2.2.2 = 0))) from rfl) hq59) ?_
        refine mixE.gskip (want_f rfl rfl (show _ = Value.bool (!(decide (y27.2.2.2 = 0))) from rfl) hq59) ?_
        refine mixE.pure (v := .bool true) (pu_pickT (q := (!(decide (y27.2.2.2 = 0)))) rfl hq59 rfl) ?_
        refine mixE.pure (v := .bool true) (pu_move rfl) ?_
        refine mixE.gskip (want_f rfl rfl (show _ = Value.bool true from rfl) rfl) ?_
        refine mixE.gskip (want_f rfl rfl (show _ = Value.bool true from rfl) rfl) ?_
        refine mixE.gskip (want_f rfl rfl (show _ = Value.bool true from rfl) rfl) ?_
        refine mixE.gskip (want_f rfl rfl (show _ = Value.bool true from rfl) rfl) ?_
        refine mixE.gskip (want_f rfl rfl (show _ = Value.bool true from rfl) rfl) ?_
        refine mixE.gskip (want_f rfl rfl (show _ = Value.bool true from rfl) rfl) ?_
        refine mixE.gskip (want_f rfl rfl (show _ = Value.bool true from rfl) rfl) ?_
        refine mixE.gskip (want_f rfl rfl (show _ = Value.bool true from rfl) rfl) ?_
        refine mixE.gskip (want_f rfl rfl (show _ = Value.bool true from rfl) rfl) ?_
        refine mixE.pure (v := .bool true) (pu_pickT (q := true) rfl rfl rfl) ?_
        refine mixE.pure (v := .bool true) (pu_move rfl) ?_
        refine mixE.gskip (want_f rfl rfl (show _ = Value.bool true from rfl) rfl) ?_
        refine mixE.gskip (want_f rfl rfl (show _ = Value.bool true from rfl) rfl) ?_
        refine mixE.gskip (want_f rfl rfl (show _ = Value.bool true from rfl) rfl) ?_
        refine mixE.gskip (want_f rfl rfl (show _ = Value.bool true from rfl) rfl) ?_
        refine mixE.gskip (want_f rfl rfl (show _ = Value.bool true from rfl) rfl) ?_
        refine mixE.gskip (want_f rfl rfl (show _ = Value.bool true from rfl) rfl) ?_
        refine mixE.gskip (want_f rfl rfl (show _ = Value.bool true from rfl) rfl) ?_
        refine mixE.pure (v := .bool true) (pu_pickT (q := true) rfl rfl rfl) ?_
        refine mixE.pure (v := .bool true) (pu_move rfl) ?_
        refine mixE.gskip (want_f rfl rfl (show _ = Value.bool true from rfl) rfl) ?_
        refine mixE.gskip (want_f rfl rfl (show _ = Value.bool true from rfl) rfl) ?_
        refine mixE.gskip (want_f rfl rfl (show _ = Value.bool true from rfl) rfl) ?_
        refine mixE.gskip (want_f rfl rfl (show _ = Value.bool true from rfl) rfl) ?_
        refine mixE.gskip (want_f rfl rfl (show _ = Value.bool true from rfl) rfl) ?_
        refine mixE.gskip (want_f rfl rfl (show _ = Value.bool true from rfl) rfl) ?_
        refine mixE.gskip (want_f rfl rfl (show _ = Value.bool true from rfl) rfl) ?_
        refine mixE.gskip (want_f rfl rfl (show _ = Value.bool true from rfl) rfl) ?_
        refine mixE.gskip (want_f rfl rfl (show _ = Value.bool true from rfl) rfl) ?_
        refine mixE.gskip (want_f rfl rfl (show _ = Value.bool true from rfl) rfl) ?_
        refine mixE.pure (v := .bool true) (pu_pickT (q := true) rfl rfl rfl) ?_
        refine mixE.nil ?_
        clear hS hM
        refine hK56 _ _ ?_
        refine Wc.cond_true (rfl) ?_
        refine Wc.seq fun K60 hK60 => ?_
        refine Wc.region (by decide +kernel) ?_
        refine lex.pure (v := .bool false) (pu_assign rfl) ?_
        refine lex.nil ?_
        refine hK60 _ _ ?_
        obtain rfl := Option.some.inj hb
        refine Wc.ret ?_
        refine hKR _ _ ?_
        refine ⟨_, res1 Try.results3 (show RV _ _ _ (.tmp _) (.bool false) from rfl), _, rfl, rfl, hC.sel [] (by decide)⟩
      · replace hb := (cF hq59).symm.trans hb
        refine mixE.gpure rfl (want_t rfl rfl (show _ = Value.bool (!(decide (y27.2.2.2 = 0))) from rfl) hq59) (v := .pointer (some ((⟨g39, 0, none⟩ : Addr).add 0))) (pu_field (sz := 1) Try.underlying28 rfl Try.sizeOf3 (by decide) rfl e3) ?_
        refine mixE.gload rfl (want_t rfl rfl (show _ = Value.bool (!(decide (y27.2.2.2 = 0))) from rfl) hq59) hM (v := .int .i64 y27.1) (fun _ hF => ld_fld (hS.bx2 (i := 0) rfl [] (by decide) hF) Try.isAgg3 rfl rfl) ?_
        refine mixE.gpure rfl (want_t rfl rfl (show _ = Value.bool (!(decide (y27.2.2.2 = 0))) from rfl) hq59) (v := .pointer (some ((⟨g3, 0, none⟩ : Addr).add 0))) (pu_field (sz := 1) Try.underlying24 rfl Try.sizeOf3 (by decide) rfl e1) ?_
        refine mixE.gload rfl (want_t rfl rfl (show _ = Value.bool (!(decide (y27.2.2.2 = 0))) from rfl) hq59) hM (v := .int .i64 b_0_0) (fun _ hF => ld_fld (hS.bx2 (i := 2) rfl [] (by decide) hF) Try.isAgg3 rfl rfl) ?_
        refine mixE.gpure rfl (want_t rfl rfl (show _ = Value.bool (!(decide (y27.2.2.2 = 0))) from rfl) hq59) (v := .bool (!(decide (y27.1 = b_0_0)))) (pu_neq (k := .i64) (a := y27.1) (b := b_0_0) rfl rfl) ?_
        refine mixE.pure (v := .bool (!(decide (y27.1 = b_0_0)))) (pu_pickF (q := (!(decide (y27.2.2.2 = 0)))) rfl hq59 rfl) ?_
        refine mixE.pure (v := .bool (!(decide (y27.1 = b_0_0)))) (pu_move rfl) ?_
        rcases bS (!(decide (y27.1 = b_0_0))) with hq61 | hq61
        · replace hb := (cT hq61).symm.trans hb
          refine mixE.gskip (want_f rfl rfl (show _ = Value.bool (!(decide (y27.1 = b_0_0))) from rfl) hq61) ?_
          refine mixE.gskip (want_f rfl rfl (show _ = Value.bool (!(decide (y27.1 = b_0_0))) from rfl) hq61) ?_
          refine mixE.gskip (want_f rfl rfl (show _ = Value.bool (!(decide (y27.1 = b_0_0))) from rfl) hq61) ?_
          refine mixE.gskip (want_f rfl rfl (show _ = Value.bool (!(decide (y27.1 = b_0_0))) from rfl) hq61) ?_
          refine mixE.gskip (want_f rfl rfl (show _ = Value.bool (!(decide (y27.1 = b_0_0))) from rfl) hq61) ?_
          refine mixE.gskip (want_f rfl rfl (show _ = Value.bool (!(decide (y27.1 = b_0_0))) from rfl) hq61) ?_
          refine mixE.gskip (want_f rfl rfl (show _ = Value.bool (!(decide (y27.1 = b_0_0))) from rfl) hq61) ?_
          refine mixE.gskip (want_f rfl rfl (show _ = Value.bool (!(decide (y27.1 = b_0_0))) from rfl) hq61) ?_
          refine mixE.gskip (want_f rfl rfl (show _ = Value.bool (!(decide (y27.1 = b_0_0))) from rfl) hq61) ?_
          refine mixE.pure (v := .bool true) (pu_pickT (q := (!(decide (y27.1 = b_0_0)))) rfl hq61 rfl) ?_
          refine mixE.pure (v := .bool true) (pu_move rfl) ?_
          refine mixE.gskip (want_f rfl rfl (show _ = Value.bool true from rfl) rfl) ?_
          refine mixE.gskip (want_f rfl rfl (show _ = Value.bool true from rfl) rfl) ?_
          refine mixE.gskip (want_f rfl rfl (show _ = Value.bool true from rfl) rfl) ?_
          refine mixE.gskip (want_f rfl rfl (show _ = Value.bool true from rfl) rfl) ?_
          refine mixE.gskip (want_f rfl rfl (show _ = Value.bool true from rfl) rfl) ?_
          refine mixE.gskip (want_f rfl rfl (show _ = Value.bool true from rfl) rfl) ?_
          refine mixE.gskip (want_f rfl rfl (show _ = Value.bool true from rfl) rfl) ?_
          refine mixE.pure (v := .bool true) (pu_pickT (q := true) rfl rfl rfl) ?_
          refine mixE.pure (v := .bool true) (pu_move rfl) ?_
          refine mixE.gskip (want_f rfl rfl (show _ = Value.bool true from rfl) rfl) ?_
          refine mixE.gskip (want_f rfl rfl (show _ = Value.bool true from rfl) rfl) ?_
          refine mixE.gskip (want_f rfl rfl (show _ = Value.bool true from rfl) rfl) ?_
          refine mixE.gskip (want_f rfl rfl (show _ = Value.bool true from rfl) rfl) ?_
          refine mixE.gskip (want_f rfl rfl (show _ = Value.bool true from rfl) rfl) ?_
          refine mixE.gskip (want_f rfl rfl (show _ = Value.bool true from rfl) rfl) ?_
          refine mixE.gskip (want_f rfl rfl (show _ = Value.bool true from rfl) rfl) ?_
          refine mixE.gskip (want_f rfl rfl (show _ = Value.bool true from rfl) rfl) ?_
          refine mixE.gskip (want_f rfl rfl (show _ = Value.bool true from rfl) rfl) ?_
          refine mixE.gskip (want_f rfl rfl (show _ = Value.bool true from rfl) rfl) ?_
          refine mixE.pure (v := .bool true) (pu_pickT (q := true) rfl rfl rfl) ?_
          refine mixE.nil ?_
          clear hS hM
          refine hK56 _ _ ?_
          refine Wc.cond_true (rfl) ?_
          refine Wc.seq fun K62 hK62 => ?_
          refine Wc.region (by decide +kernel) ?_
          refine lex.pure (v := .bool false) (pu_assign rfl) ?_
          refine lex.nil ?_
          refine hK62 _ _ ?_
          obtain rfl := Option.some.inj hb
          refine Wc.ret ?_
          refine hKR _ _ ?_
          refine ⟨_, res1 Try.results3 (show RV _ _ _ (.tmp _) (.bool false) from rfl), _, rfl, rfl, hC.sel [] (by decide)⟩
        · replace hb := (cF hq61).symm.trans hb
          refine mixE.gpure rfl (want_t rfl rfl (show _ = Value.bool (!(decide (y27.1 = b_0_0))) from rfl) hq61) (v := .pointer (some ((⟨g39, 0, none⟩ : Addr).add 0))) (pu_field (sz := 1) Try.underlying28 rfl Try.sizeOf3 (by decide) rfl e3) ?_
          refine mixE.gload rfl (want_t rfl rfl (show _ = Value.bool (!(decide (y27.1 = b_0_0))) from rfl) hq61) hM (v := .int .i64 y27.1) (fun _ hF => ld_fld (hS.bx2 (i := 0) rfl [] (by decide) hF) Try.isAgg3 rfl rfl) ?_
          refine mixE.gpure rfl (want_t rfl rfl (show _ = Value.bool (!(decide (y27.1 = b_0_0))) from rfl) hq61) (v := .pointer (some ((⟨g39, 0, none⟩ : Addr).add 1))) (pu_field (sz := 1) Try.underlying28 rfl Try.sizeOf3 (by decide) rfl e3) ?_
          refine mixE.gload rfl (want_t rfl rfl (show _ = Value.bool (!(decide (y27.1 = b_0_0))) from rfl) hq61) hM (v := .int .i64 y27.2.1) (fun _ hF => ld_fld (hS.bx2 (i := 0) rfl [] (by decide) hF) Try.isAgg3 rfl rfl) ?_
          refine mixE.gpure rfl (want_t rfl rfl (show _ = Value.bool (!(decide (y27.1 = b_0_0))) from rfl) hq61) (v := .pointer (some ((⟨g39, 0, none⟩ : Addr).add 2))) (pu_field (sz := 1) Try.underlying28 rfl Try.sizeOf26 (by decide) rfl e3) ?_
          refine mixE.gload rfl (want_t rfl rfl (show _ = Value.bool (!(decide (y27.1 = b_0_0))) from rfl) hq61) hM (v := .slice A31 y27.2.2.1.length c33) (fun _ hF => ld_fld (hS.bx2 (i := 0) rfl [] (by decide) hF) Try.isAgg26 rfl rfl) ?_
          obtain ⟨y63, h64, hb⟩ := bd hb
          refine mixE.gcl rfl (want_t rfl rfl (show _ = Value.bool (!(decide (y27.1 = b_0_0))) from rfl) hq61) hM (⟨_, _, op_call (vs := [.slice A31 y27.2.2.1.length c33]) Try.call17 rfl rfl rfl, law34_plain_ok n hC.lt (hC.rd (i := 1) rfl) h64⟩) ?_
          rintro _ w69 ⟨A65, m66, c67, rfl, hK⟩
          replace hM := hM.none hK.fr
          refine ⟨hM, ?_⟩
          replace hC := hC.merge hK
          clear hK
          obtain ⟨rfl, hl70, hc71⟩ := (hC.ow (i := 0) rfl).sl_len
          obtain ⟨y72, h73, hb⟩ := bd hb
          refine mixE.gcl rfl (want_t rfl rfl (show _ = Value.bool (!(decide (y27.1 = b_0_0))) from rfl) hq61) hM (⟨_, _, op_call (vs := [.int .i64 y27.1, .int .i64 y27.2.1, .slice A65 y63.length c67]) Try.call16 rfl rfl rfl, ref34_Valid_ok n (hC.lentLt [.slice A65 y63.length c67]) hr29 hr30 ((hC.ow (i := 0) rfl).lend (vs := [.slice A65 y63.length c67]) (by simp)) h73⟩) ?_
          rintro _ w74 ⟨rfl, hK⟩
          replace hM := hM.none hK.fr
          refine ⟨hM, ?_⟩
          replace hC := hC.mergeF hK rfl
          clear hK
          refine mixE.gpure rfl (want_t rfl rfl (show _ = Value.bool (!(decide (y27.1 = b_0_0))) from rfl) hq61) (v := .bool (!y72)) (pu_not (q := y72) rfl) ?_
          refine mixE.pure (v := .bool (!y72)) (pu_pickF (q := (!(decide (y27.1 = b_0_0)))) rfl hq61 rfl) ?_
          refine mixE.pure (v := .bool (!y72)) (pu_move rfl) ?_
          rcases bS (!y72) with hq75 | hq75
          · replace hb := (cT hq75).symm.trans hb
            refine mixE.gskip (want_f rfl rfl (show _ = Value.bool (!y72) from rfl) hq75) ?_
            refine mixE.gskip (want_f rfl rfl (show _ = Value.bool (!y72) from rfl) hq75) ?_
            refine mixE.gskip (want_f rfl rfl (show _ = Value.bool (!y72) from rfl) hq75) ?_
            refine mixE.gskip (want_f rfl rfl (show _ = Value.bool (!y72) from rfl) hq75) ?_
            refine mixE.gskip (want_f rfl rfl (show _ = Value.bool (!y72) from rfl) hq75) ?_
            refine mixE.gskip (want_f rfl rfl (show _ = Value.bool (!y72) from rfl) hq75) ?_
            refine mixE.gskip (want_f rfl rfl (show _ = Value.bool (!y72) from rfl) hq75) ?_
            refine mixE.pure (v := .bool true) (pu_pickT (q := (!y72)) rfl hq75 rfl) ?_
            refine mixE.pure (v := .bool true) (pu_move rfl) ?_
            refine mixE.gskip (want_f rfl rfl (show _ = Value.bool true from rfl) rfl) ?_
            refine mixE.gskip (want_f rfl rfl (show _ = Value.bool true from rfl) rfl) ?_
            refine mixE.gskip (want_f rfl rfl (show _ = Value.bool true from rfl) rfl) ?_
            refine mixE.gskip (want_f rfl rfl (show _ = Value.bool true from rfl) rfl) ?_
            refine mixE.gskip (want_f rfl rfl (show _ = Value.bool true from rfl) rfl) ?_
            refine mixE.gskip (want_f rfl rfl (show _ = Value.bool true from rfl) rfl) ?_
            refine mixE.gskip (want_f rfl rfl (show _ = Value.bool true from rfl) rfl) ?_
            refine mixE.gskip (want_f rfl rfl (show _ = Value.bool true from rfl) rfl) ?_
            refine mixE.gskip (want_f rfl rfl (show _ = Value.bool true from rfl) rfl) ?_
            refine mixE.gskip (want_f rfl rfl (show _ = Value.bool true from rfl) rfl) ?_
            refine mixE.pure (v := .bool true) (pu_pickT (q := true) rfl rfl rfl) ?_
            refine mixE.nil ?_
            clear hS hM
            refine hK56 _ _ ?_
            refine Wc.cond_true (rfl) ?_
            refine Wc.seq fun K76 hK76 => ?_
            refine Wc.region (by decide +kernel) ?_
            refine lex.pure (v := .bool false) (pu_assign rfl) ?_
            refine lex.nil ?_
            refine hK76 _ _ ?_
            obtain rfl := Option.some.inj hb
            refine Wc.ret ?_
            refine hKR _ _ ?_
            refine ⟨_, res1 Try.results3 (show RV _ _ _ (.tmp _) (.bool false) from rfl), _, rfl, rfl, hC.sel [] (by decide)⟩
          · replace hb := (cF hq75).symm.trans hb
            refine mixE.gpure rfl (want_t rfl rfl (show _ = Value.bool (!y72) from rfl) hq75) (v := .pointer (some ((⟨g39, 0, none⟩ : Addr).add 1))) (pu_field (sz := 1) Try.underlying28 rfl Try.sizeOf3 (by decide) rfl e3) ?_
            refine mixE.gload rfl (want_t rfl rfl (show _ = Value.bool (!y72) from rfl) hq75) hM (v := .int .i64 y27.2.1) (fun _ hF => ld_fld (hS.bx2 (i := 0) rfl [] (by decide) hF) Try.isAgg3 rfl rfl) ?_
            refine mixE.gpure rfl (want_t rfl rfl (show _ = Value.bool (!y72) from rfl) hq75) (v := .pointer (some ((⟨g3, 0, none⟩ : Addr).add 1))) (pu_field (sz := 1) Try.underlying24 rfl Try.sizeOf22 (by decide) rfl e1) ?_
            refine mixE.gload rfl (want_t rfl rfl (show _ = Value.bool (!y72) from rfl) hq75) hM (v := .slice Ab_0_1 b_0_1.length cb_0_1) (fun _ hF => ld_fld (hS.bx2 (i := 2) rfl [] (by decide) hF) Try.isAgg22 rfl rfl) ?_
            refine mixE.gpure rfl (want_t rfl rfl (show _ = Value.bool (!y72) from rfl) hq75) (v := .int .i64 (b_0_1.length : Int)) (pu_len (A := Ab_0_1) (n := b_0_1.length) (m := cb_0_1) Try.underlying22 rfl) ?_
            obtain ⟨z77, h78, hb⟩ := bd hb
            refine mixE.gpure rfl (want_t rfl rfl (show _ = Value.bool (!y72) from rfl) hq75) (v := .int .i64 z77) (pu_negc (a := (b_0_1.length : Int)) rfl h78) ?_
            refine mixE.gpure rfl (want_t rfl rfl (show _ = Value.bool (!y72) from rfl) hq75) (v := .bool (decide (y27.2.1 < z77))) (pu_lss (k := .i64) (a := y27.2.1) (b := z77) rfl rfl) ?_
            refine mixE.pure (v := .bool (decide (y27.2.1 < z77))) (pu_pickF (q := (!y72)) rfl hq75 rfl) ?_
            refine mixE.pure (v := .bool (decide (y27.2.1 < z77))) (pu_move rfl) ?_
            rcases bS (decide (y27.2.1 < z77)) with hq79 | hq79
            · replace hb := (cT hq79).symm.trans hb
              refine mixE.gskip (want_f rfl rfl (show _ = Value.bool (decide (y27.2.1 < z77)) from rfl) hq79) ?_
              refine mixE.gskip (want_f rfl rfl (show _ = Value.bool (decide (y27.2.1 < z77)) from rfl) hq79) ?_
              refine mixE.gskip (want_f rfl rfl (show _ = Value.bool (decide (y27.2.1 < z77)) from rfl) hq79) ?_
              refine mixE.gskip (want_f rfl rfl (show _ = Value.bool (decide (y27.2.1 < z77)) from rfl) hq79) ?_
              refine mixE.gskip (want_f rfl rfl (show _ = Value.bool (decide (y27.2.1 < z77)) from rfl) hq79) ?_
              refine mixE.gskip (want_f rfl rfl (show _ = Value.bool (decide (y27.2.1 < z77)) from rfl) hq79) ?_
              refine mixE.gskip (want_f rfl rfl (show _ = Value.bool (decide (y27.2.1 < z77)) from rfl) hq79) ?_
              refine mixE.gskip (want_f rfl rfl (show _ = Value.bool (decide (y27.2.1 < z77)) from rfl) hq79) ?_
              refine mixE.gskip (want_f rfl rfl (show _ = Value.bool (decide (y27.2.1 < z77)) from rfl) hq79) ?_
              refine mixE.gskip (want_f rfl rfl (show _ = Value.bool (decide (y27.2.1 < z77)) from rfl) hq79) ?_
              refine mixE.pure (v := .bool true) (pu_pickT (q := (decide (y27.2.1 < z77))) rfl hq79 rfl) ?_
              refine mixE.nil ?_
              clear hS hM
              refine hK56 _ _ ?_
              refine Wc.cond_true (rfl) ?_
              refine Wc.seq fun K80 hK80 => ?_
              refine Wc.region (by decide +kernel) ?_
              refine lex.pure (v := .bool false) (pu_assign rfl) ?_
              refine lex.nil ?_
              refine hK80 _ _ ?_
              obtain rfl := Option.some.inj hb
              refine Wc.ret ?_
              refine hKR _ _ ?_
              refine ⟨_, res1 Try.results3 (show RV _ _ _ (.tmp _) (.bool false) from rfl), _, rfl, rfl, hC.sel [] (by decide)⟩
            · replace hb := (cF hq79).symm.trans hb
              refine mixE.gpure rfl (want_t rfl rfl (show _ = Value.bool (decide (y27.2.1 < z77)) from rfl) hq79) (v := .pointer (some ((⟨g39, 0, none⟩ : Addr).add 1))) (pu_field (sz := 1) Try.underlying28 rfl Try.sizeOf3 (by decide) rfl e3) ?_
              refine mixE.gload rfl (want_t rfl rfl (show _ = Value.bool (decide (y27.2.1 < z77)) from rfl) hq79) hM (v := .int .i64 y27.2.1) (fun _ hF => ld_fld (hS.bx2 (i := 0) rfl [] (by decide) hF) Try.isAgg3 rfl rfl) ?_
              refine mixE.gpure rfl (want_t rfl rfl (show _ = Value.bool (decide (y27.2.1 < z77)) from rfl) hq79) (v := .pointer (some ((⟨g39, 0, none⟩ : Addr).add 2))) (pu_field (sz := 1) Try.underlying28 rfl Try.sizeOf26 (by decide) rfl e3) ?_
              refine mixE.gload rfl (want_t rfl rfl (show _ = Value.bool (decide (y27.2.1 < z77)) from rfl) hq79) hM (v := .slice A31 y27.2.2.1.length c33) (fun _ hF => ld_fld (hS.bx2 (i := 0) rfl [] (by decide) hF) Try.isAgg26 rfl rfl) ?_
              refine mixE.gpure rfl (want_t rfl rfl (show _ = Value.bool (decide (y27.2.1 < z77)) from rfl) hq79) (v := .int .i64 (y27.2.2.1.length : Int)) (pu_len (A := A31) (n := y27.2.2.1.length) (m := c33) Try.underlying26 rfl) ?_
              obtain ⟨z81, h82, hb⟩ := bd hb
              refine mixE.gpure rfl (want_t rfl rfl (show _ = Value.bool (decide (y27.2.1 < z77)) from rfl) hq79) (v := .int .i64 z81) (pu_addc (a := y27.2.1) (b := (y27.2.2.1.length : Int)) rfl rfl h82) ?_
              refine mixE.gpure rfl (want_t rfl rfl (show _ = Value.bool (decide (y27.2.1 < z77)) from rfl) hq79) (v := .pointer (some ((⟨g3, 0, none⟩ : Addr).add 1))) (pu_field (sz := 1) Try.underlying24 rfl Try.sizeOf22 (by decide) rfl e1) ?_
              refine mixE.gload rfl (want_t rfl rfl (show _ = Value.bool (decide (y27.2.1 < z77)) from rfl) hq79) hM (v := .slice Ab_0_1 b_0_1.length cb_0_1) (fun _ hF => ld_fld (hS.bx2 (i := 2) rfl [] (by decide) hF) Try.isAgg22 rfl rfl) ?_
              refine mixE.gpure rfl (want_t rfl rfl (show _ = Value.bool (decide (y27.2.1 < z77)) from rfl) hq79) (v := .int .i64 (b_0_1.length : Int)) (pu_len (A := Ab_0_1) (n := b_0_1.length) (m := cb_0_1) Try.underlying22 rfl) ?_
              refine mixE.gpure rfl (want_t rfl rfl (show _ = Value.bool (decide (y27.2.1 < z77)) from rfl) hq79) (v := .bool (decide ((b_0_1.length : Int) < z81))) (pu_gtr (k := .i64) (a := z81) (b := (b_0_1.length : Int)) rfl rfl) ?_
              refine mixE.pure (v := .bool (decide ((b_0_1.length : Int) < z81))) (pu_pickF (q := (decide (y27.2.1 < z77))) rfl hq79 rfl) ?_
              refine mixE.nil ?_
              clear hS hM
              refine hK56 _ _ ?_
              refine Wc.cond (t := (decide ((b_0_1.length : Int) < z81))) (rfl) (fun hq83 => ?_) (fun hq83 => ?_)
              · replace hb := (cT hq83).symm.trans hb
                refine Wc.seq fun K84 hK84 => ?_
                refine Wc.region (by decide +kernel) ?_
                refine lex.pure (v := .bool false) (pu_assign rfl) ?_
                refine lex.nil ?_
                refine hK84 _ _ ?_
                obtain rfl := Option.some.inj hb
                refine Wc.ret ?_
                refine hKR _ _ ?_
                refine ⟨_, res1 Try.results3 (show RV _ _ _ (.tmp _) (.bool false) from rfl), _, rfl, rfl, hC.sel [] (by decide)⟩
              · replace hb := (cF hq83).symm.trans hb
                refine Wc.skip ?_
                refine hK55 _ _ ?_
                refine Wc.fresh fun E85 hE => ?_
                have e1 : E85 1 = .pointer (some ⟨g3, 0, none⟩) := (congrFun hE 1).trans e1
                have e2 : E85 2 = .bool false := (congrFun hE 2).trans e2
                have e3 : E85 3 = .pointer (some ⟨g39, 0, none⟩) := (congrFun hE 3).trans e3
                clear hE
                refine Wc.seq fun K86 hK86 => ?_
                refine Wc.region (by decide +kernel) ?_
                refine lex.pure (v := .pointer (some ((⟨g3, 0, none⟩ : Addr).add 0))) (pu_field (sz := 1) Try.underlying24 rfl Try.sizeOf3 (by decide) rfl e1) ?_
                refine lex.val (v := .int .i64 b_0_0) (ld_fld (hC.bx (i := 3) rfl) Try.isAgg3 rfl rfl) ?_
                refine lex.pure (v := .pointer (some ((⟨g3, 0, none⟩ : Addr).add 1))) (pu_field (sz := 1) Try.underlying24 rfl Try.sizeOf22 (by decide) rfl e1) ?_
                refine lex.val (v := .slice Ab_0_1 b_0_1.length cb_0_1) (ld_fld (hC.bx (i := 3) rfl) Try.isAgg22 rfl rfl) ?_
                obtain ⟨y87, h88, hb⟩ := bd hb
                refine lex.cl (⟨_, _, op_call (vs := [.int .i64 b_0_0, .slice Ab_0_1 b_0_1.length cb_0_1, .int .i64 20000]) Try.call18 rfl rfl rfl, ref34_Action_ok n hC.lt hb_0_0 (hC.rd (i := 4) rfl) (show I64 20000 from by unfold I64; omega) h88⟩) ?_
                rintro _ w93 ⟨A89, m90, c91, rfl, hK⟩
                replace hC := hC.merge hK
                clear hK
                obtain ⟨rfl, hl94, hc95⟩ := (hC.ow (i := 0) rfl).sl_len
                refine lex.pure (v := .slice A89 y87.length c91) (pu_assign rfl) ?_
                refine lex.nil ?_
                refine hK86 _ _ ?_
                refine Wc.seq fun K96 hK96 => ?_
                refine Wc.regionMix [] (frm [] ([] : List Fact) ([] : List Fact)) (fun _ => rfl) mixed (by decide +kernel) (by decide +kernel) fun w98 hw97 => ?_
                replace hC := hC.step (Fr.of_drew hw97)
                have hM := Fr.refl (fun k => k ∈ blocks ([] : List Fact)) w98
                clear hw97
                have hS := hC
                refine mixE.pure (v := .pointer (some ((⟨g3, 0, none⟩ : Addr).add 0))) (pu_field (sz := 1) Try.underlying24 rfl Try.sizeOf3 (by decide) rfl e1) ?_
                refine mixE.load hM (v := .int .i64 b_0_0) (fun _ hF => ld_fld (hS.bx2 (i := 4) rfl [] (by decide) hF) Try.isAgg3 rfl rfl) ?_
                refine mixE.pure (v := .pointer (some ((⟨g39, 0, none⟩ : Addr).add 0))) (pu_field (sz := 1) Try.underlying28 rfl Try.sizeOf3 (by decide) rfl e3) ?_
                refine mixE.load hM (v := .int .i64 y27.1) (fun _ hF => ld_fld (hS.bx2 (i := 2) rfl [] (by decide) hF) Try.isAgg3 rfl rfl) ?_
                refine mixE.pure (v := .pointer (some ((⟨g39, 0, none⟩ : Addr).add 1))) (pu_field (sz := 1) Try.underlying28 rfl Try.sizeOf3 (by decide) rfl e3) ?_
                refine mixE.load hM (v := .int .i64 y27.2.1) (fun _ hF => ld_fld (hS.bx2 (i := 2) rfl [] (by decide) hF) Try.isAgg3 rfl rfl) ?_
                refine mixE.pure (v := .pointer (some ((⟨g39, 0, none⟩ : Addr).add 2))) (pu_field (sz := 1) Try.underlying28 rfl Try.sizeOf26 (by decide) rfl e3) ?_
                refine mixE.load hM (v := .slice A31 y27.2.2.1.length c33) (fun _ hF => ld_fld (hS.bx2 (i := 2) rfl [] (by decide) hF) Try.isAgg26 rfl rfl) ?_
                obtain ⟨y99, h100, hb⟩ := bd hb
                refine mixE.cl hM (⟨_, _, op_call (vs := [.slice A31 y27.2.2.1.length c33]) Try.call17 rfl rfl rfl, law34_plain_ok n hC.lt (hC.rd (i := 3) rfl) h100⟩) ?_
                rintro _ w105 ⟨A101, m102, c103, rfl, hK⟩
                replace hM := hM.none hK.fr
                refine ⟨hM, ?_⟩
                replace hC := hC.merge hK
                clear hK
                obtain ⟨rfl, hl106, hc107⟩ := (hC.ow (i := 0) rfl).sl_len
                obtain ⟨y108, h109, hb⟩ := bd hb
                refine mixE.cl hM (⟨_, _, op_call (vs := [.int .i64 y27.1, .int .i64 y27.2.1, .slice A101 y99.length c103]) Try.call19 rfl rfl rfl, ref34_Whole_ok n (hC.lentLt [.slice A101 y99.length c103]) hr29 hr30 ((hC.ow (i := 0) rfl).lend (vs := [.slice A101 y99.length c103]) (by simp)) h109⟩) ?_
                rintro _ w114 ⟨A110, m111, c112, rfl, hK⟩
                replace hM := hM.none hK.fr
                refine ⟨hM, ?_⟩
                replace hC := hC.mergeF hK rfl
                clear hK
                obtain ⟨rfl, hl115, hc116⟩ := (hC.ow (i := 0) rfl).sl_len
                replace hC := hC.freeze (i := 0) rfl (hC.own_new (i := 0) rfl)
                obtain ⟨y117, h118, hb⟩ := bd hb
                refine mixE.cl hM (⟨_, _, op_call (vs := [.int .i64 b_0_0, .slice A110 y108.length c112, .int .i64 20000]) Try.call18 rfl rfl rfl, ref34_Action_ok n hC.lt hb_0_0 (hC.rd (i := 0) rfl) (show I64 20000 from by unfold I64; omega) h118⟩) ?_
                rintro _ w123 ⟨A119, m120, c121, rfl, hK⟩
                replace hM := hM.none hK.fr
                refine ⟨hM, ?_⟩
                replace hC := hC.merge hK
                clear hK
                obtain ⟨rfl, hl124, hc125⟩ := (hC.ow (i := 0) rfl).sl_len
                refine mixE.pure (v := .slice A119 y117.length c121) (pu_assign rfl) ?_
                refine mixE.nil ?_
                clear hS hM
                refine hK96 _ _ ?_
                refine Wc.fresh fun E126 hE => ?_
                have e2 : E126 2 = .bool false := (congrFun hE 2).trans e2
                have e5 : E126 5 = .slice A89 y87.length c91 := (congrFun hE 5).trans rfl
                have e6 : E126 6 = .slice A119 y117.length c121 := (congrFun hE 6).trans rfl
                clear hE
                refine Wc.seq fun K127 hK127 => ?_
                refine Wc.region (by decide +kernel) ?_
                refine lex.pure (v := .slice A89 y87.length c91) (pu_move e5) ?_
                refine lex.pure (v := .int .i64 (y87.length : Int)) (pu_len (A := A89) (n := y87.length) (m := c91) Try.underlying35 rfl) ?_
                refine lex.pure (v := .bool (decide ((y87.length : Int) = 0))) (pu_eql (k := .i64) (a := (y87.length : Int)) (b := 0) rfl rfl) ?_
                refine lex.pure (v := .bool (decide ((y87.length : Int) = 0))) (pu_move rfl) ?_
                rcases bS (decide ((y87.length : Int) = 0)) with hq128 | hq128
                · replace hb := (cT hq128).symm.trans hb
                  refine lex.gskip (want_f rfl rfl (show _ = Value.bool (decide ((y87.length : Int) = 0)) from rfl) hq128) ?_
                  refine lex.gskip (want_f rfl rfl (show _ = Value.bool (decide ((y87.length : Int) = 0)) from rfl) hq128) ?_
                  refine lex.gskip (want_f rfl rfl (show _ = Value.bool (decide ((y87.length : Int) = 0)) from rfl) hq128) ?_
                  refine lex.pure (v := .bool true) (pu_pickT (q := (decide ((y87.length : Int) = 0))) rfl hq128 rfl) ?_
                  refine lex.pure (v := .bool true) (pu_move rfl) ?_
                  refine lex.gskip (want_f rfl rfl (show _ = Value.bool true from rfl) rfl) ?_
                  refine lex.gskip (want_f rfl rfl (show _ = Value.bool true from rfl) rfl) ?_
                  refine lex.gskip (want_f rfl rfl (show _ = Value.bool true from rfl) rfl) ?_
                  refine lex.pure (v := .bool true) (pu_pickT (q := true) rfl rfl rfl) ?_
                  refine lex.pure (v := .bool true) (pu_assign rfl) ?_
                  refine lex.nil ?_
                  refine hK127 _ _ ?_
                  obtain rfl := Option.some.inj hb
                  refine Wc.ret ?_
                  refine hKR _ _ ?_
                  refine ⟨_, res1 Try.results3 (show RV _ _ _ (.tmp _) (.bool true) from rfl), _, rfl, rfl, hC.sel [] (by decide)⟩
                · replace hb := (cF hq128).symm.trans hb
                  refine lex.gpure (want_t rfl rfl (show _ = Value.bool (decide ((y87.length : Int) = 0)) from rfl) hq128) (v := .slice A119 y117.length c121) (pu_move e6) ?_
                  refine lex.gpure (want_t rfl rfl (show _ = Value.bool (decide ((y87.length : Int) = 0)) from rfl) hq128) (v := .int .i64 (y117.length : Int)) (pu_len (A := A119) (n := y117.length) (m := c121) Try.underlying35 rfl) ?_
                  refine lex.gpure (want_t rfl rfl (show _ = Value.bool (decide ((y87.length : Int) = 0)) from rfl) hq128) (v := .bool (decide ((y117.length : Int) = 0))) (pu_eql (k := .i64) (a := (y117.length : Int)) (b := 0) rfl rfl) ?_
                  refine lex.pure (v := .bool (decide ((y117.length : Int) = 0))) (pu_pickF (q := (decide ((y87.length : Int) = 0))) rfl hq128 rfl) ?_
                  refine lex.pure (v := .bool (decide ((y117.length : Int) = 0))) (pu_move rfl) ?_
                  rcases bS (decide ((y117.length : Int) = 0)) with hq129 | hq129
                  · replace hb := (cT hq129).symm.trans hb
                    refine lex.gskip (want_f rfl rfl (show _ = Value.bool (decide ((y117.length : Int) = 0)) from rfl) hq129) ?_
                    refine lex.gskip (want_f rfl rfl (show _ = Value.bool (decide ((y117.length : Int) = 0)) from rfl) hq129) ?_
                    refine lex.gskip (want_f rfl rfl (show _ = Value.bool (decide ((y117.length : Int) = 0)) from rfl) hq129) ?_
                    refine lex.pure (v := .bool true) (pu_pickT (q := (decide ((y117.length : Int) = 0))) rfl hq129 rfl) ?_
                    refine lex.pure (v := .bool true) (pu_assign rfl) ?_
                    refine lex.nil ?_
                    refine hK127 _ _ ?_
                    obtain rfl := Option.some.inj hb
                    refine Wc.ret ?_
                    refine hKR _ _ ?_
                    refine ⟨_, res1 Try.results3 (show RV _ _ _ (.tmp _) (.bool true) from rfl), _, rfl, rfl, hC.sel [] (by decide)⟩
                  · replace hb := (cF hq129).symm.trans hb
                    refine lex.gpure (want_t rfl rfl (show _ = Value.bool (decide ((y117.length : Int) = 0)) from rfl) hq129) (v := .slice A89 y87.length c91) (pu_move e5) ?_
                    refine lex.gpure (want_t rfl rfl (show _ = Value.bool (decide ((y117.length : Int) = 0)) from rfl) hq129) (v := .slice A119 y117.length c121) (pu_move e6) ?_
                    obtain ⟨y130, h131, hb⟩ := bd hb
                    refine lex.gcl (want_t rfl rfl (show _ = Value.bool (decide ((y117.length : Int) = 0)) from rfl) hq129) (⟨_, _, op_call (vs := [.slice A89 y87.length c91, .slice A119 y117.length c121]) Try.call20 rfl rfl rfl, ref34_Same_ok n (hC.lentLt [.slice A119 y117.length c121, .slice A89 y87.length c91]) ((hC.ow (i := 3) rfl).lend (vs := [.slice A119 y117.length c121, .slice A89 y87.length c91]) (by simp)) ((hC.ow (i := 0) rfl).lend (vs := [.slice A119 y117.length c121, .slice A89 y87.length c91]) (by simp)) h131⟩) ?_
                    rintro _ w132 ⟨rfl, hK⟩
                    replace hC := hC.mergeF hK rfl
                    clear hK
                    refine lex.pure (v := .bool y130) (pu_pickF (q := (decide ((y117.length : Int) = 0))) rfl hq129 rfl) ?_
                    refine lex.pure (v := .bool y130) (pu_assign rfl) ?_
                    refine lex.nil ?_
                    refine hK127 _ _ ?_
                    obtain rfl := Option.some.inj hb
                    refine Wc.ret ?_
                    refine hKR _ _ ?_
                    refine ⟨_, res1 Try.results3 (show RV _ _ _ (.tmp _) (.bool y130) from rfl), _, rfl, rfl, hC.sel [] (by decide)⟩
end Go.Proofs.Ytkeaonceaaafcaa
