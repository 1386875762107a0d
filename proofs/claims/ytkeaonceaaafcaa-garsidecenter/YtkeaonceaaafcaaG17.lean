/- The walks: part 17. -/
import Derived.Test.YtkeaonceaaafcaaS
import Derived.Test.YtkeaonceaaafcaaG0
import Derived.Test.YtkeaonceaaafcaaG3
import Derived.Test.YtkeaonceaaafcaaG4
import Derived.Test.YtkeaonceaaafcaaG10
import Derived.Test.YtkeaonceaaafcaaG15
import Derived.Test.YtkeaonceaaafcaaG16
set_option linter.unusedVariables false
set_option linter.unusedSimpArgs false
namespace Go.Proofs.Ytkeaonceaaafcaa
open Ev
set_option maxRecDepth 100000 in
set_option maxHeartbeats 4000000 in
theorem law34_GarsideCenter_ok (n : Nat) {w : World} {O0 : List Nat} (hO : ∀ k ∈ O0, k < w.heap.size) {b_0_0 : Int} (hb_0_0 : I64 b_0_0) {Ab_0_1 : Option Addr} {mb_0_1 cb_0_1 : Nat} {b_0_1 : List Int} (hb_0_1 : Rep O0 w (.sl (.int .i64)) [.slice Ab_0_1 mb_0_1 cb_0_1] b_0_1) {r : Bool} (hb : F.law34_GarsideCenter n b_0_0 b_0_1 = some r) :
  Calls Try.prog 5 #[.agg #[.int .i64 b_0_0, .slice Ab_0_1 mb_0_1 cb_0_1]] w fun e w' => ∃ v, e = .returned v ∧ v = .bool r ∧ Cx (fun _ => False) O0 w w' [] := by
 unfold F.law34_GarsideCenter at hb
 have hC := Cx.start hO
 replace hC := hC.arg rfl hb_0_1
 clear hO
 obtain ⟨rfl, hlb_0_1, hcb_0_1⟩ := hb_0_1.sl_len
 refine calls_of_Wc Try.func5 rfl (by rw [Try.ntmps5]; exact Nat.le_of_ble_eq_true rfl) fun KR hKR => ?_
 refine Wc.seq fun K2 hK2 => ?_
 refine Wc.region (by decide +kernel) ?_
 refine lex.op (hC.box (cs := [.int .i64 b_0_0, .slice Ab_0_1 b_0_1.length cb_0_1]) rfl rfl) ?_
 rintro _ w4 ⟨g3, rfl, hC, hF, hG⟩
 clear hG
 refine lex.pure (v := .bool false) (pu_assign rfl) ?_
 refine lex.nil ?_
 refine hK2 _ _ ?_
 refine Wc.seq fun K6 hK6 => ?_
 refine Wc.seq fun K7 hK7 => ?_
 refine Wc.region (by decide +kernel) ?_
 obtain ⟨y8, h9, hb⟩ := bd hb
 refine lex.cl (⟨_, _, op_call (vs := []) Try.call12 rfl rfl rfl, law34_awake_ok n hC.lt  h9⟩) ?_
 rintro _ w10 ⟨rfl, hK⟩
 replace hC := hC.merge hK
 clear hK
 refine lex.pure (v := .bool (!y8)) (pu_not (q := y8) rfl) ?_
 refine lex.pure (v := .bool (!y8)) (pu_move rfl) ?_
 rcases bS (!y8) with hq11 | hq11
 ·
  replace hb := (cT hq11).symm.trans hb
  refine lex.gskip (want_f rfl rfl (show _ = Value.bool (!y8) from rfl) hq11) ?_
  refine lex.gskip (want_f rfl rfl (show _ = Value.bool (!y8) from rfl) hq11) ?_
  refine lex.gskip (want_f rfl rfl (show _ = Value.bool (!y8) from rfl) hq11) ?_
  refine lex.gskip (want_f rfl rfl (show _ = Value.bool (!y8) from rfl) hq11) ?_
  refine lex.pure (v := .bool true) (pu_pickT (q := (!y8)) rfl hq11 rfl) ?_
  refine lex.pure (v := .bool true) (pu_move rfl) ?_
  refine lex.gskip (want_f rfl rfl (show _ = Value.bool true from rfl) rfl) ?_
  refine lex.gskip (want_f rfl rfl (show _ = Value.bool true from rfl) rfl) ?_
  refine lex.gskip (want_f rfl rfl (show _ = Value.bool true from rfl) rfl) ?_
  refine lex.pure (v := .bool true) (pu_pickT (q := true) rfl rfl rfl) ?_
  refine lex.pure (v := .bool true) (pu_move rfl) ?_
  refine lex.gskip (want_f rfl rfl (show _ = Value.bool true from rfl) rfl) ?_
  refine lex.gskip (want_f rfl rfl (show _ = Value.bool true from rfl) rfl) ?_
  refine lex.gskip (want_f rfl rfl (show _ = Value.bool true from rfl) rfl) ?_
  refine lex.pure (v := .bool true) (pu_pickT (q := true) rfl rfl rfl) ?_
  refine lex.pure (v := .bool true) (pu_move rfl) ?_
  refine lex.gskip (want_f rfl rfl (show _ = Value.bool true from rfl) rfl) ?_
  refine lex.gskip (want_f rfl rfl (show _ = Value.bool true from rfl) rfl) ?_
  refine lex.gskip (want_f rfl rfl (show _ = Value.bool true from rfl) rfl) ?_
  refine lex.pure (v := .bool true) (pu_pickT (q := true) rfl rfl rfl) ?_
  refine lex.nil ?_
  refine hK7 _ _ ?_
  refine Wc.fresh fun E12 hE => ?_
  have e1 : E12 1 = .pointer (some ⟨g3, 0, none⟩) := (congrFun hE 1).trans rfl
  have e2 : E12 2 = .bool false := (congrFun hE 2).trans rfl
  have e32 : E12 32 = .bool true := (congrFun hE 32).trans rfl
  clear hE
  refine Wc.cond_true (e32) ?_
  refine Wc.seq fun K13 hK13 => ?_
  refine Wc.region (by decide +kernel) ?_
  obtain ⟨y14, h15, hb⟩ := bd hb
  refine lex.cl (⟨_, _, op_call (vs := []) Try.call12 rfl rfl rfl, law34_awake_ok n hC.lt  h15⟩) ?_
  rintro _ w16 ⟨rfl, hK⟩
  replace hC := hC.merge hK
  clear hK
  refine lex.pure (v := .bool y14) (pu_assign rfl) ?_
  refine lex.nil ?_
  refine hK13 _ _ ?_
  obtain rfl := Option.some.inj hb
  refine Wc.ret ?_
  refine hKR _ _ ?_
  refine ⟨_, res1 Try.results5 (show RV _ _ _ (.tmp _) (.bool y14) from rfl), _, rfl, rfl, hC.sel [] (by decide)⟩
 ·
  replace hb := (cF hq11).symm.trans hb
  refine lex.gpure (want_t rfl rfl (show _ = Value.bool (!y8) from rfl) hq11) (v := .pointer (some ((⟨g3, 0, none⟩ : Addr).add 1))) (pu_field (sz := 1) Try.underlying24 rfl Try.sizeOf22 (by decide) rfl rfl) ?_
  refine lex.gval (want_t rfl rfl (show _ = Value.bool (!y8) from rfl) hq11) (v := .slice Ab_0_1 b_0_1.length cb_0_1) (ld_fld (hC.bx (i := 0) rfl) Try.isAgg22 rfl rfl) ?_
  refine lex.gpure (want_t rfl rfl (show _ = Value.bool (!y8) from rfl) hq11) (v := .int .i64 (b_0_1.length : Int)) (pu_len (A := Ab_0_1) (n := b_0_1.length) (m := cb_0_1) Try.underlying22 rfl) ?_
  refine lex.gpure (want_t rfl rfl (show _ = Value.bool (!y8) from rfl) hq11) (v := .bool (decide (40 < (b_0_1.length : Int)))) (pu_gtr (k := .i64) (a := (b_0_1.length : Int)) (b := 40) rfl rfl) ?_
  refine lex.pure (v := .bool (decide (40 < (b_0_1.length : Int)))) (pu_pickF (q := (!y8)) rfl hq11 rfl) ?_
  refine lex.pure (v := .bool (decide (40 < (b_0_1.length : Int)))) (pu_move rfl) ?_
  rcases bS (decide (40 < (b_0_1.length : Int))) with hq17 | hq17
  ·
   replace hb := (cT hq17).symm.trans hb
   refine lex.gskip (want_f rfl rfl (show _ = Value.bool (decide (40 < (b_0_1.length : Int))) from rfl) hq17) ?_
   refine lex.gskip (want_f rfl rfl (show _ = Value.bool (decide (40 < (b_0_1.length : Int))) from rfl) hq17) ?_
   refine lex.gskip (want_f rfl rfl (show _ = Value.bool (decide (40 < (b_0_1.length : Int))) from rfl) hq17) ?_
   refine lex.pure (v := .bool true) (pu_pickT (q := (decide (40 < (b_0_1.length : Int)))) rfl hq17 rfl) ?_
   refine lex.pure (v := .bool true) (pu_move rfl) ?_
   refine lex.gskip (want_f rfl rfl (show _ = Value.bool true from rfl) rfl) ?_
   refine lex.gskip (want_f rfl rfl (show _ = Value.bool true from rfl) rfl) ?_
   refine lex.gskip (want_f rfl rfl (show _ = Value.bool true from rfl) rfl) ?_
   refine lex.pure (v := .bool true) (pu_pickT (q := true) rfl rfl rfl) ?_
   refine lex.pure (v := .bool true) (pu_move rfl) ?_
   refine lex.gskip (want_f rfl rfl (show _ = Value.bool true from rfl) rfl) ?_
   refine lex.gskip (want_f rfl rfl (show _ = Value.bool true from rfl) rfl) ?_
   refine lex.gskip (want_f rfl rfl (show _ = Value.bool true from rfl) rfl) ?_
   refine lex.pure (v := .bool true) (pu_pickT (q := true) rfl rfl rfl) ?_
   refine lex.nil ?_
   refine hK7 _ _ ?_
   refine Wc.fresh fun E18 hE => ?_
   have e1 : E18 1 = .pointer (some ⟨g3, 0, none⟩) := (congrFun hE 1).trans rfl
   have e2 : E18 2 = .bool false := (congrFun hE 2).trans rfl
   have e32 : E18 32 = .bool true := (congrFun hE 32).trans rfl
   clear hE
   refine Wc.cond_true (e32) ?_
   refine Wc.seq fun K19 hK19 => ?_
   refine Wc.region (by decide +kernel) ?_
   obtain ⟨y20, h21, hb⟩ := bd hb
   refine lex.cl (⟨_, _, op_call (vs := []) Try.call12 rfl rfl rfl, law34_awake_ok n hC.lt  h21⟩) ?_
   rintro _ w22 ⟨rfl, hK⟩
   replace hC := hC.merge hK
   clear hK
   refine lex.pure (v := .bool y20) (pu_assign rfl) ?_
   refine lex.nil ?_
   refine hK19 _ _ ?_
   obtain rfl := Option.some.inj hb
   refine Wc.ret ?_
   refine hKR _ _ ?_
   refine ⟨_, res1 Try.results5 (show RV _ _ _ (.tmp _) (.bool y20) from rfl), _, rfl, rfl, hC.sel [] (by decide)⟩
  ·
   replace hb := (cF hq17).symm.trans hb
   refine lex.gval (want_t rfl rfl (show _ = Value.bool (decide (40 < (b_0_1.length : Int))) from rfl) hq17) (v := .agg #[.int .i64 b_0_0, .slice Ab_0_1 b_0_1.length cb_0_1]) (ld_blk (hC.bx (i := 0) rfl) Try.isAgg24 Try.sizeOf24 rfl) ?_
   obtain ⟨y23, h24, hb⟩ := bd hb
   refine lex.gcl (want_t rfl rfl (show _ = Value.bool (decide (40 < (b_0_1.length : Int))) from rfl) hq17) (⟨_, _, op_call (vs := [.agg #[.int .i64 b_0_0, .slice Ab_0_1 b_0_1.length cb_0_1]]) Try.call14 rfl rfl rfl, braid_Valid_ok n hC.lt hb_0_0 (hC.rd (i := 1) rfl) h24⟩) ?_
   rintro _ w25 ⟨rfl, hK⟩
   replace hC := hC.merge hK
   clear hK
   refine lex.gpure (want_t rfl rfl (show _ = Value.bool (decide (40 < (b_0_1.length : Int))) from rfl) hq17) (v := .bool (!y23)) (pu_not (q := y23) rfl) ?_
   refine lex.pure (v := .bool (!y23)) (pu_pickF (q := (decide (40 < (b_0_1.length : Int)))) rfl hq17 rfl) ?_
   refine lex.pure (v := .bool (!y23)) (pu_move rfl) ?_
   rcases bS (!y23) with hq26 | hq26
   ·
    replace hb := (cT hq26).symm.trans hb
    refine lex.gskip (want_f rfl rfl (show _ = Value.bool (!y23) from rfl) hq26) ?_
    refine lex.gskip (want_f rfl rfl (show _ = Value.bool (!y23) from rfl) hq26) ?_
    refine lex.gskip (want_f rfl rfl (show _ = Value.bool (!y23) from rfl) hq26) ?_
    refine lex.pure (v := .bool true) (pu_pickT (q := (!y23)) rfl hq26 rfl) ?_
    refine lex.pure (v := .bool true) (pu_move rfl) ?_
    refine lex.gskip (want_f rfl rfl (show _ = Value.bool true from rfl) rfl) ?_
    refine lex.gskip (want_f rfl rfl (show _ = Value.bool true from rfl) rfl) ?_
    refine lex.gskip (want_f rfl rfl (show _ = Value.bool true from rfl) rfl) ?_
    refine lex.pure (v := .bool true) (pu_pickT (q := true) rfl rfl rfl) ?_
    refine lex.nil ?_
    refine hK7 _ _ ?_
    refine Wc.fresh fun E27 hE => ?_
    have e1 : E27 1 = .pointer (some ⟨g3, 0, none⟩) := (congrFun hE 1).trans rfl
    have e2 : E27 2 = .bool false := (congrFun hE 2).trans rfl
    have e32 : E27 32 = .bool true := (congrFun hE 32).trans rfl
    clear hE
    refine Wc.cond_true (e32) ?_
    refine Wc.seq fun K28 hK28 => ?_
    refine Wc.region (by decide +kernel) ?_
    obtain ⟨y29, h30, hb⟩ := bd hb
    refine lex.cl (⟨_, _, op_call (vs := []) Try.call12 rfl rfl rfl, law34_awake_ok n hC.lt  h30⟩) ?_
    rintro _ w31 ⟨rfl, hK⟩
    replace hC := hC.merge hK
    clear hK
    refine lex.pure (v := .bool y29) (pu_assign rfl) ?_
    refine lex.nil ?_
    refine hK28 _ _ ?_
    obtain rfl := Option.some.inj hb
    refine Wc.ret ?_
    refine hKR _ _ ?_
    refine ⟨_, res1 Try.results5 (show RV _ _ _ (.tmp _) (.bool y29) from rfl), _, rfl, rfl, hC.sel [] (by decide)⟩
   ·
    replace hb := (cF hq26).symm.trans hb
    refine lex.gpure (want_t rfl rfl (show _ = Value.bool (!y23) from rfl) hq26) (v := .pointer (some ((⟨g3, 0, none⟩ : Addr).add 0))) (pu_field (sz := 1) Try.underlying24 rfl Try.sizeOf3 (by decide) rfl rfl) ?_
    refine lex.gval (want_t rfl rfl (show _ = Value.bool (!y23) from rfl) hq26) (v := .int .i64 b_0_0) (ld_fld (hC.bx (i := 0) rfl) Try.isAgg3 rfl rfl) ?_
    refine lex.gpure (want_t rfl rfl (show _ = Value.bool (!y23) from rfl) hq26) (v := .bool (decide (b_0_0 < 2))) (pu_lss (k := .i64) (a := b_0_0) (b := 2) rfl rfl) ?_
    refine lex.pure (v := .bool (decide (b_0_0 < 2))) (pu_pickF (q := (!y23)) rfl hq26 rfl) ?_
    refine lex.pure (v := .bool (decide (b_0_0 < 2))) (pu_move rfl) ?_
    rcases bS (decide (b_0_0 < 2)) with hq32 | hq32
    ·
     replace hb := (cT hq32).symm.trans hb
     refine lex.gskip (want_f rfl rfl (show _ = Value.bool (decide (b_0_0 < 2)) from rfl) hq32) ?_
     refine lex.gskip (want_f rfl rfl (show _ = Value.bool (decide (b_0_0 < 2)) from rfl) hq32) ?_
     refine lex.gskip (want_f rfl rfl (show _ = Value.bool (decide (b_0_0 < 2)) from rfl) hq32) ?_
     refine lex.pure (v := .bool true) (pu_pickT (q := (decide (b_0_0 < 2))) rfl hq32 rfl) ?_
     refine lex.nil ?_
     refine hK7 _ _ ?_
     refine Wc.fresh fun E33 hE => ?_
     have e1 : E33 1 = .pointer (some ⟨g3, 0, none⟩) := (congrFun hE 1).trans rfl
     have e2 : E33 2 = .bool false := (congrFun hE 2).trans rfl
     have e32 : E33 32 = .bool true := (congrFun hE 32).trans rfl
     clear hE
     refine Wc.cond_true (e32) ?_
     refine Wc.seq fun K34 hK34 => ?_
     refine Wc.region (by decide +kernel) ?_
     obtain ⟨y35, h36, hb⟩ := bd hb
     refine lex.cl (⟨_, _, op_call (vs := []) Try.call12 rfl rfl rfl, law34_awake_ok n hC.lt  h36⟩) ?_
     rintro _ w37 ⟨rfl, hK⟩
     replace hC := hC.merge hK
     clear hK
     refine lex.pure (v := .bool y35) (pu_assign rfl) ?_
     refine lex.nil ?_
     refine hK34 _ _ ?_
     obtain rfl := Option.some.inj hb
     refine Wc.ret ?_
     refine hKR _ _ ?_
     refine ⟨_, res1 Try.results5 (show RV _ _ _ (.tmp _) (.bool y35) from rfl), _, rfl, rfl, hC.sel [] (by decide)⟩
    ·
     replace hb := (cF hq32).symm.trans hb
     refine lex.gpure (want_t rfl rfl (show _ = Value.bool (decide (b_0_0 < 2)) from rfl) hq32) (v := .pointer (some ((⟨g3, 0, none⟩ : Addr).add 0))) (pu_field (sz := 1) Try.underlying24 rfl Try.sizeOf3 (by decide) rfl rfl) ?_
     refine lex.gval (want_t rfl rfl (show _ = Value.bool (decide (b_0_0 < 2)) from rfl) hq32) (v := .int .i64 b_0_0) (ld_fld (hC.bx (i := 0) rfl) Try.isAgg3 rfl rfl) ?_
     refine lex.gpure (want_t rfl rfl (show _ = Value.bool (decide (b_0_0 < 2)) from rfl) hq32) (v := .bool (decide (5 < b_0_0))) (pu_gtr (k := .i64) (a := b_0_0) (b := 5) rfl rfl) ?_
     refine lex.pure (v := .bool (decide (5 < b_0_0))) (pu_pickF (q := (decide (b_0_0 < 2))) rfl hq32 rfl) ?_
     refine lex.nil ?_
     refine hK7 _ _ ?_
     refine Wc.fresh fun E38 hE => ?_
     have e1 : E38 1 = .pointer (some ⟨g3, 0, none⟩) := (congrFun hE 1).trans rfl
     have e2 : E38 2 = .bool false := (congrFun hE 2).trans rfl
     have e32 : E38 32 = .bool (decide (5 < b_0_0)) := (congrFun hE 32).trans rfl
     clear hE
     refine Wc.cond (t := (decide (5 < b_0_0))) (e32) (fun hq39 => ?_) (fun hq39 => ?_)
     ·
      replace hb := (cT hq39).symm.trans hb
      refine Wc.seq fun K40 hK40 => ?_
      refine Wc.region (by decide +kernel) ?_
      obtain ⟨y41, h42, hb⟩ := bd hb
      refine lex.cl (⟨_, _, op_call (vs := []) Try.call12 rfl rfl rfl, law34_awake_ok n hC.lt  h42⟩) ?_
      rintro _ w43 ⟨rfl, hK⟩
      replace hC := hC.merge hK
      clear hK
      refine lex.pure (v := .bool y41) (pu_assign rfl) ?_
      refine lex.nil ?_
      refine hK40 _ _ ?_
      obtain rfl := Option.some.inj hb
      refine Wc.ret ?_
      refine hKR _ _ ?_
      refine ⟨_, res1 Try.results5 (show RV _ _ _ (.tmp _) (.bool y41) from rfl), _, rfl, rfl, hC.sel [] (by decide)⟩
     ·
      replace hb := (cF hq39).symm.trans hb
      refine Wc.skip ?_
      refine hK6 _ _ ?_
      refine Wc.seq fun K44 hK44 => ?_
      refine Wc.region (by decide +kernel) ?_
      refine lex.pure (v := .pointer (some ((⟨g3, 0, none⟩ : Addr).add 0))) (pu_field (sz := 1) Try.underlying24 rfl Try.sizeOf3 (by decide) rfl e1) ?_
      refine lex.val (v := .int .i64 b_0_0) (ld_fld (hC.bx (i := 0) rfl) Try.isAgg3 rfl rfl) ?_
      obtain ⟨y45, h46, hb⟩ := bd hb
      refine lex.cl (⟨_, _, op_call (vs := [.int .i64 b_0_0, .int .i64 2, .slice none 0 0]) Try.call19 rfl rfl rfl, ref34_Whole_ok n hC.lt hb_0_0 (show I64 2 from by unfold I64; omega) ((show Rep _ _ (.sl (.sl (.int .i64))) [.slice none 0 0] ([] : List (List Int)) from ⟨none, 0, rfl, Nat.le_refl _, by omega, fun h => absurd h (by simp)⟩)) h46⟩) ?_
      rintro _ w51 ⟨A47, m48, c49, rfl, hK⟩
      replace hC := hC.merge hK
      clear hK
      obtain ⟨rfl, hl52, hc53⟩ := (hC.ow (i := 0) rfl).sl_len
      refine lex.pure (v := .slice A47 y45.length c49) (pu_assign rfl) ?_
      refine lex.nil ?_
      refine hK44 _ _ ?_
      refine Wc.seq fun K54 hK54 => ?_
      refine Wc.region (by decide +kernel) ?_
      refine lex.val (v := .agg #[.int .i64 b_0_0, .slice Ab_0_1 b_0_1.length cb_0_1]) (ld_blk (hC.bx (i := 1) rfl) Try.isAgg24 Try.sizeOf24 e1) ?_
      obtain ⟨y55, h56, hb⟩ := bd hb
      refine lex.cl (⟨_, _, op_call (vs := [.agg #[.int .i64 b_0_0, .slice Ab_0_1 b_0_1.length cb_0_1]]) Try.call13 rfl rfl rfl, garside_Form_ok n hC.lt hb_0_0 (hC.rd (i := 2) rfl) h56⟩) ?_
      rintro _ w64 ⟨A59, m60, c61, rfl, hr57, hr58, hr63, hK⟩
      replace hC := hC.merge hK
      clear hK
      obtain ⟨rfl, hl65, hc66⟩ := (hC.rd (i := 0) rfl).sl_len
      refine lex.pure (v := .tuple #[.agg #[.int .i64 y55.1, .int .i64 y55.2.1, .slice A59 y55.2.2.1.length c61], .int .i64 y55.2.2.2]) (pu_move rfl) ?_
      refine lex.pure (v := .agg #[.int .i64 y55.1, .int .i64 y55.2.1, .slice A59 y55.2.2.1.length c61]) (pu_extract rfl rfl) ?_
      refine lex.pure (v := .int .i64 y55.2.2.2) (pu_extract rfl rfl) ?_
      refine lex.op (hC.alloc (cs := [.int .i64 0, .int .i64 0, .slice none 0 0]) Try.zeroValue28 rfl) ?_
      rintro _ w68 ⟨g67, rfl, hC, hF, hG⟩
      clear hG
      refine lex.sk (hC.seta (i := 0) (ds := [.int .i64 y55.1, .int .i64 y55.2.1, .slice A59 y55.2.2.1.length c61]) rfl Try.type28 rfl rfl rfl rfl rfl) ?_
      rintro w70 ⟨hC, hF⟩
      refine lex.pure (v := .int .i64 y55.2.2.2) (pu_assign rfl) ?_
      refine lex.nil ?_
      refine hK54 _ _ ?_
      refine Wc.fresh fun E71 hE => ?_
      have e1 : E71 1 = .pointer (some ⟨g3, 0, none⟩) := (congrFun hE 1).trans e1
      have e2 : E71 2 = .bool false := (congrFun hE 2).trans e2
      have e3 : E71 3 = .slice A47 y45.length c49 := (congrFun hE 3).trans rfl
      have e4 : E71 4 = .pointer (some ⟨g67, 0, none⟩) := (congrFun hE 4).trans rfl
      have e5 : E71 5 = .int .i64 y55.2.2.2 := (congrFun hE 5).trans rfl
      clear hE
      refine Wc.seq fun K72 hK72 => ?_
      refine Wc.regionPlan [44, 47] (frm [44, 47] ([] : List Fact) ([] : List Fact)) (chainP [0, 1, 2, 3, 4] (.alt (chainP [5] (.alt (chainP [6] (chainP [7] (.alt (chainP [8] (chainP [9, 10, 11, 12, 13, 14] .done)) (chainP [12] (chainP [8, 9, 10, 11, 13, 14] .done))))) (chainP [12] (chainP [6, 7, 8, 9, 10, 11, 13, 14] .done)))) (chainP [12] (chainP [5, 6, 7, 8, 9, 10, 11, 13, 14] .done)))) (fun _ => rfl) mixed (by decide +kernel) (by decide +kernel) fun w74 hw73 => ?_
      replace hC := hC.step (Fr.of_drew hw73)
      have hM := Fr.refl (fun k => k ∈ blocks ([] : List Fact)) w74
      clear hw73
      have hS := hC
      have hD : Fr (fun k => k ∈ blocks (([] : List Fact) ++ ([] : List Fact))) w74 w74 := hM.wide
      refine mixPE_chain ?_
      refine mixE.pure (v := .pointer (some ((⟨g3, 0, none⟩ : Addr).add 0))) (pu_field (sz := 1) Try.underlying24 rfl Try.sizeOf3 (by decide) rfl e1) ?_
      refine mixE.steady hD (v := .int .i64 b_0_0) (fun _ hF => ld_fld (hS.bx2 (i := 3) rfl [] (by decide) hF) Try.isAgg3 rfl rfl) ?_
      refine mixE.pure (v := .slice A47 y45.length c49) (pu_move e3) ?_
      refine mixE.pure (v := .pointer (some ((⟨g3, 0, none⟩ : Addr).add 1))) (pu_field (sz := 1) Try.underlying24 rfl Try.sizeOf22 (by decide) rfl e1) ?_
      refine mixE.steady hD (v := .slice Ab_0_1 b_0_1.length cb_0_1) (fun _ hF => ld_fld (hS.bx2 (i := 3) rfl [] (by decide) hF) Try.isAgg22 rfl rfl) ?_
      refine mixE.nil ?_
      refine mixPE_alt ?_ ?_
      ·
       skip
       refine mixPE_chain ?_
       replace hC := hC.freeze (i := 2) rfl (hC.own_new (i := 2) rfl)
       refine mixE.op hM (hC.lit (s := (.sl (.int .i64))) (vs := [.slice A47 y45.length c49, .slice Ab_0_1 b_0_1.length cb_0_1]) (xs := [y45, b_0_1]) Try.underlying35 Try.type22 rfl rfl (Nat.le_of_ble_eq_true rfl) rfl rfl (by simp [Value.cells, Sh.n]) rfl (show Elems _ _ (.sl (.int .i64)) ([.slice A47 y45.length c49] ++ ([.slice Ab_0_1 b_0_1.length cb_0_1] ++ ([]))) ([y45, b_0_1] : List (List Int)) from Elems.cons (hC.rd (i := 2) rfl) (Elems.cons (hC.rd (i := 4) rfl) (Elems.nil _ _ _)))) ?_
       rintro _ w79 ⟨A75, c76, rfl, hl77, hc78, hC, hF, hN⟩
       have hBf80 := Beside.new hM hN
       have hUf80 := Beside.new (hM.wide (H := ([] : List Fact))) hN
       replace hM := hM.none hF
       replace hD := hM.wide (H := ([] : List Fact))
       refine ⟨hM, ?_⟩
       clear hF hN
       refine mixE.nil ?_
       refine mixPE_alt ?_ ?_
       ·
        skip
        refine mixPE_chain ?_
        obtain ⟨y81, h82, hb⟩ := bd hb
        refine mixE.cl hM (⟨_, _, op_call (vs := [.slice A75 ((([y45, b_0_1] : List (List Int))).length) c76]) Try.call22 rfl rfl rfl, slices_Concat_Lint_int_ok n (hC.lentLt [.slice A75 ((([y45, b_0_1] : List (List Int))).length) c76]) ((hC.ow (i := 0) rfl).lend (vs := [.slice A75 ((([y45, b_0_1] : List (List Int))).length) c76]) (by simp)) h82⟩) ?_
        rintro _ w87 ⟨A83, m84, c85, rfl, hK⟩
        replace hM := hM.none hK.fr
        replace hD := hM.wide (H := ([] : List Fact))
        refine ⟨hM, ?_⟩
        replace hC := hC.mergeF hK rfl
        clear hK
        obtain ⟨rfl, hl88, hc89⟩ := (hC.ow (i := 0) rfl).sl_len
        refine mixE.nil ?_
        refine mixPE_chain ?_
        refine mixE.pure (v := .agg #[.int .i64 b_0_0, .slice A83 y81.length c85]) (pu_builds (places := [(0, 1), (1, 1)]) (pv := [(0, .int .i64 b_0_0), (1, .slice A83 y81.length c85)]) Try.type24 Try.underlying24 rfl (mp_cons Try.type3 (mp_cons Try.type22 mp_nil rfl rfl) rfl rfl) rfl (by simp [Instr.fill, Value.cells])) ?_
        refine mixE.nil ?_
        refine mixPE_alt ?_ ?_
        ·
         skip
         refine mixPE_chain ?_
         replace hC := hC.freeze (i := 0) rfl (hC.own_new (i := 0) rfl)
         obtain ⟨y90, h91, hb⟩ := bd hb
         refine mixE.cl hM (⟨_, _, op_call (vs := [.agg #[.int .i64 b_0_0, .slice A83 y81.length c85]]) Try.call13 rfl rfl rfl, garside_Form_ok n hC.lt hb_0_0 (hC.rd (i := 0) rfl) h91⟩) ?_
         rintro _ w99 ⟨A94, m95, c96, rfl, hr92, hr93, hr98, hK⟩
         replace hM := hM.none hK.fr
         replace hD := hM.wide (H := ([] : List Fact))
         refine ⟨hM, ?_⟩
         replace hC := hC.merge hK
         clear hK
         obtain ⟨rfl, hl100, hc101⟩ := (hC.rd (i := 0) rfl).sl_len
         refine mixE.nil ?_
         refine mixPE_chain ?_
         refine mixE.pure (v := .tuple #[.agg #[.int .i64 y90.1, .int .i64 y90.2.1, .slice A94 y90.2.2.1.length c96], .int .i64 y90.2.2.2]) (pu_move rfl) ?_
         refine mixE.pure (v := .agg #[.int .i64 y90.1, .int .i64 y90.2.1, .slice A94 y90.2.2.1.length c96]) (pu_extract rfl rfl) ?_
         refine mixE.pure (v := .int .i64 y90.2.2.2) (pu_extract rfl rfl) ?_
         refine mixE.op hM (hC.alloc (cs := [.int .i64 0, .int .i64 0, .slice none 0 0]) Try.zeroValue28 rfl) ?_
         rintro _ w103 ⟨g102, rfl, hC, hF, hG⟩
         have hUf104 : g102 < w74.heap.size → g102 ∈ blocks (([] : List Fact) ++ ([] : List Fact)) := fun h => absurd (Nat.lt_of_lt_of_le h (Nat.le_trans hM.size hG)) (Nat.lt_irrefl _)
         clear hG
         replace hM := hM.none hF
         replace hD := hM.wide (H := ([] : List Fact))
         refine ⟨hM, ?_⟩
         refine mixE.sk hD (hC.seta (i := 0) (ds := [.int .i64 y90.1, .int .i64 y90.2.1, .slice A94 y90.2.2.1.length c96]) rfl Try.type28 rfl rfl rfl rfl rfl) ?_
         rintro w105 ⟨hC, hF⟩
         replace hD := hD.besideG hUf104 hF
         clear hF
         refine ⟨hD, ?_⟩
         refine mixE.pure (v := .int .i64 y90.2.2.2) (pu_assign rfl) ?_
         refine mixE.nil ?_
         clear hS hM
         clear hD
         refine hK72 _ _ ?_
         refine Wc.fresh fun E106 hE => ?_
         have e1 : E106 1 = .pointer (some ⟨g3, 0, none⟩) := (congrFun hE 1).trans e1
         have e2 : E106 2 = .bool false := (congrFun hE 2).trans e2
         have e3 : E106 3 = .slice A47 y45.length c49 := (congrFun hE 3).trans e3
         have e4 : E106 4 = .pointer (some ⟨g67, 0, none⟩) := (congrFun hE 4).trans e4
         have e5 : E106 5 = .int .i64 y55.2.2.2 := (congrFun hE 5).trans e5
         have e6 : E106 6 = .pointer (some ⟨g102, 0, none⟩) := (congrFun hE 6).trans rfl
         have e7 : E106 7 = .int .i64 y90.2.2.2 := (congrFun hE 7).trans rfl
         clear hE
         refine Wc.seq fun K107 hK107 => ?_
         refine Wc.regionPlan [56, 58] (frm [56, 58] ([] : List Fact) ([] : List Fact)) (chainP [0, 1, 2, 3, 4] (.alt (chainP [5] (.alt (chainP [6] (chainP [7] (.alt (chainP [8] (chainP [9, 10, 11, 12, 13, 14] .done)) (chainP [12] (chainP [8, 9, 10, 11, 13, 14] .done))))) (chainP [12] (chainP [6, 7, 8, 9, 10, 11, 13, 14] .done)))) (chainP [12] (chainP [5, 6, 7, 8, 9, 10, 11, 13, 14] .done)))) (fun _ => rfl) mixed (by decide +kernel) (by decide +kernel) fun w109 hw108 => ?_
         replace hC := hC.step (Fr.of_drew hw108)
         have hM := Fr.refl (fun k => k ∈ blocks ([] : List Fact)) w109
         clear hw108
         have hS := hC
         have hD : Fr (fun k => k ∈ blocks (([] : List Fact) ++ ([] : List Fact))) w109 w109 := hM.wide
         refine mixPE_chain ?_
         refine mixE.pure (v := .pointer (some ((⟨g3, 0, none⟩ : Addr).add 0))) (pu_field (sz := 1) Try.underlying24 rfl Try.sizeOf3 (by decide) rfl e1) ?_
         refine mixE.steady hD (v := .int .i64 b_0_0) (fun _ hF => ld_fld (hS.bx2 (i := 7) rfl [] (by decide) hF) Try.isAgg3 rfl rfl) ?_
         refine mixE.pure (v := .pointer (some ((⟨g3, 0, none⟩ : Addr).add 1))) (pu_field (sz := 1) Try.underlying24 rfl Try.sizeOf22 (by decide) rfl e1) ?_
         refine mixE.steady hD (v := .slice Ab_0_1 b_0_1.length cb_0_1) (fun _ hF => ld_fld (hS.bx2 (i := 7) rfl [] (by decide) hF) Try.isAgg22 rfl rfl) ?_
         refine mixE.pure (v := .slice A47 y45.length c49) (pu_move e3) ?_
         refine mixE.nil ?_
         refine mixPE_alt ?_ ?_
         ·
          skip
          refine mixPE_chain ?_
          refine mixE.op hM (hC.lit (s := (.sl (.int .i64))) (vs := [.slice Ab_0_1 b_0_1.length cb_0_1, .slice A47 y45.length c49]) (xs := [b_0_1, y45]) Try.underlying35 Try.type22 rfl rfl (Nat.le_of_ble_eq_true rfl) rfl rfl (by simp [Value.cells, Sh.n]) rfl (show Elems _ _ (.sl (.int .i64)) ([.slice Ab_0_1 b_0_1.length cb_0_1] ++ ([.slice A47 y45.length c49] ++ ([]))) ([b_0_1, y45] : List (List Int)) from Elems.cons (hC.rd (i := 8) rfl) (Elems.cons (hC.rd (i := 6) rfl) (Elems.nil _ _ _)))) ?_
          rintro _ w114 ⟨A110, c111, rfl, hl112, hc113, hC, hF, hN⟩
          have hBf115 := Beside.new hM hN
          have hUf115 := Beside.new (hM.wide (H := ([] : List Fact))) hN
          replace hM := hM.none hF
          replace hD := hM.wide (H := ([] : List Fact))
          refine ⟨hM, ?_⟩
          clear hF hN
          refine mixE.nil ?_
          refine mixPE_alt ?_ ?_
          ·
           skip
           refine mixPE_chain ?_
           obtain ⟨y116, h117, hb⟩ := bd hb
           refine mixE.cl hM (⟨_, _, op_call (vs := [.slice A110 ((([b_0_1, y45] : List (List Int))).length) c111]) Try.call22 rfl rfl rfl, slices_Concat_Lint_int_ok n (hC.lentLt [.slice A110 ((([b_0_1, y45] : List (List Int))).length) c111]) ((hC.ow (i := 0) rfl).lend (vs := [.slice A110 ((([b_0_1, y45] : List (List Int))).length) c111]) (by simp)) h117⟩) ?_
           rintro _ w122 ⟨A118, m119, c120, rfl, hK⟩
           replace hM := hM.none hK.fr
           replace hD := hM.wide (H := ([] : List Fact))
           refine ⟨hM, ?_⟩
           replace hC := hC.mergeF hK rfl
           clear hK
           obtain ⟨rfl, hl123, hc124⟩ := (hC.ow (i := 0) rfl).sl_len
           refine mixE.nil ?_
           refine mixPE_chain ?_
           refine mixE.pure (v := .agg #[.int .i64 b_0_0, .slice A118 y116.length c120]) (pu_builds (places := [(0, 1), (1, 1)]) (pv := [(0, .int .i64 b_0_0), (1, .slice A118 y116.length c120)]) Try.type24 Try.underlying24 rfl (mp_cons Try.type3 (mp_cons Try.type22 mp_nil rfl rfl) rfl rfl) rfl (by simp [Instr.fill, Value.cells])) ?_
           refine mixE.nil ?_
           refine mixPE_alt ?_ ?_
           ·
            skip
            refine mixPE_chain ?_
            replace hC := hC.freeze (i := 0) rfl (hC.own_new (i := 0) rfl)
            obtain ⟨y125, h126, hb⟩ := bd hb
            refine mixE.cl hM (⟨_, _, op_call (vs := [.agg #[.int .i64 b_0_0, .slice A118 y116.length c120]]) Try.call13 rfl rfl rfl, garside_Form_ok n hC.lt hb_0_0 (hC.rd (i := 0) rfl) h126⟩) ?_
            rintro _ w134 ⟨A129, m130, c131, rfl, hr127, hr128, hr133, hK⟩
            replace hM := hM.none hK.fr
            replace hD := hM.wide (H := ([] : List Fact))
            refine ⟨hM, ?_⟩
            replace hC := hC.merge hK
            clear hK
            obtain ⟨rfl, hl135, hc136⟩ := (hC.rd (i := 0) rfl).sl_len
            refine mixE.nil ?_
            refine mixPE_chain ?_
            refine mixE.pure (v := .tuple #[.agg #[.int .i64 y125.1, .int .i64 y125.2.1, .slice A129 y125.2.2.1.length c131], .int .i64 y125.2.2.2]) (pu_move rfl) ?_
            refine mixE.pure (v := .agg #[.int .i64 y125.1, .int .i64 y125.2.1, .slice A129 y125.2.2.1.length c131]) (pu_extract rfl rfl) ?_
            refine mixE.pure (v := .int .i64 y125.2.2.2) (pu_extract rfl rfl) ?_
            refine mixE.op hM (hC.alloc (cs := [.int .i64 0, .int .i64 0, .slice none 0 0]) Try.zeroValue28 rfl) ?_
            rintro _ w138 ⟨g137, rfl, hC, hF, hG⟩
            have hUf139 : g137 < w109.heap.size → g137 ∈ blocks (([] : List Fact) ++ ([] : List Fact)) := fun h => absurd (Nat.lt_of_lt_of_le h (Nat.le_trans hM.size hG)) (Nat.lt_irrefl _)
            clear hG
            replace hM := hM.none hF
            replace hD := hM.wide (H := ([] : List Fact))
            refine ⟨hM, ?_⟩
            refine mixE.sk hD (hC.seta (i := 0) (ds := [.int .i64 y125.1, .int .i64 y125.2.1, .slice A129 y125.2.2.1.length c131]) rfl Try.type28 rfl rfl rfl rfl rfl) ?_
            rintro w140 ⟨hC, hF⟩
            replace hD := hD.besideG hUf139 hF
            clear hF
            refine ⟨hD, ?_⟩
            refine mixE.pure (v := .int .i64 y125.2.2.2) (pu_assign rfl) ?_
            refine mixE.nil ?_
            clear hS hM
            clear hD
            refine hK107 _ _ ?_
            refine Wc.fresh fun E141 hE => ?_
            have e2 : E141 2 = .bool false := (congrFun hE 2).trans e2
            have e4 : E141 4 = .pointer (some ⟨g67, 0, none⟩) := (congrFun hE 4).trans e4
            have e5 : E141 5 = .int .i64 y55.2.2.2 := (congrFun hE 5).trans e5
            have e6 : E141 6 = .pointer (some ⟨g102, 0, none⟩) := (congrFun hE 6).trans e6
            have e7 : E141 7 = .int .i64 y90.2.2.2 := (congrFun hE 7).trans e7
            have e8 : E141 8 = .pointer (some ⟨g137, 0, none⟩) := (congrFun hE 8).trans rfl
            have e9 : E141 9 = .int .i64 y125.2.2.2 := (congrFun hE 9).trans rfl
            clear hE
            refine Wc.seq fun K142 hK142 => ?_
            refine Wc.region (by decide +kernel) ?_
            refine lex.pure (v := .pointer (some ((⟨g67, 0, none⟩ : Addr).add 1))) (pu_field (sz := 1) Try.underlying28 rfl Try.sizeOf3 (by decide) rfl e4) ?_
            refine lex.val (v := .int .i64 y55.2.1) (ld_fld (hC.bx (i := 8) rfl) Try.isAgg3 rfl rfl) ?_
            obtain ⟨z143, h144, hb⟩ := bd hb
            refine lex.pure (v := .int .i64 z143) (pu_addc (a := y55.2.1) (b := 2) rfl rfl h144) ?_
            refine lex.pure (v := .pointer (some ((⟨g67, 0, none⟩ : Addr).add 1))) (pu_field (sz := 1) Try.underlying28 rfl Try.sizeOf3 (by decide) rfl e4) ?_
            refine lex.sk (hC.setf (i := 8) (k := 1) (v := .int .i64 z143) rfl Try.sizeOf3 rfl rfl rfl rfl) ?_
            rintro w145 ⟨hC, hF⟩
            refine lex.nil ?_
            refine hK142 _ _ ?_
            refine Wc.seq fun K146 hK146 => ?_
            refine Wc.region (by decide +kernel) ?_
            refine lex.pure (v := .int .i64 y55.2.2.2) (pu_move e5) ?_
            refine lex.pure (v := .bool (decide (y55.2.2.2 = 0))) (pu_eql (k := .i64) (a := y55.2.2.2) (b := 0) rfl rfl) ?_
            refine lex.pure (v := .bool (decide (y55.2.2.2 = 0))) (pu_move rfl) ?_
            rcases bS (decide (y55.2.2.2 = 0)) with hq147 | hq147
            ·
             replace hb := (cT hq147).symm.trans hb
             refine lex.gpure (want_t rfl rfl (show _ = Value.bool (decide (y55.2.2.2 = 0)) from rfl) hq147) (v := .int .i64 y90.2.2.2) (pu_move e7) ?_
             refine lex.gpure (want_t rfl rfl (show _ = Value.bool (decide (y55.2.2.2 = 0)) from rfl) hq147) (v := .bool (decide (y90.2.2.2 = 0))) (pu_eql (k := .i64) (a := y90.2.2.2) (b := 0) rfl rfl) ?_
             refine lex.pure (v := .bool (decide (y90.2.2.2 = 0))) (pu_pickT (q := (decide (y55.2.2.2 = 0))) rfl hq147 rfl) ?_
             refine lex.pure (v := .bool (decide (y90.2.2.2 = 0))) (pu_move rfl) ?_
             rcases bS (decide (y90.2.2.2 = 0)) with hq148 | hq148
             ·
              replace hb := (cT hq148).symm.trans hb
              refine lex.gpure (want_t rfl rfl (show _ = Value.bool (decide (y90.2.2.2 = 0)) from rfl) hq148) (v := .int .i64 y125.2.2.2) (pu_move e9) ?_
              refine lex.gpure (want_t rfl rfl (show _ = Value.bool (decide (y90.2.2.2 = 0)) from rfl) hq148) (v := .bool (decide (y125.2.2.2 = 0))) (pu_eql (k := .i64) (a := y125.2.2.2) (b := 0) rfl rfl) ?_
              refine lex.pure (v := .bool (decide (y125.2.2.2 = 0))) (pu_pickT (q := (decide (y90.2.2.2 = 0))) rfl hq148 rfl) ?_
              refine lex.pure (v := .bool (decide (y125.2.2.2 = 0))) (pu_move rfl) ?_
              rcases bS (decide (y125.2.2.2 = 0)) with hq149 | hq149
              ·
               replace hb := (cT hq149).symm.trans hb
               refine lex.gval (want_t rfl rfl (show _ = Value.bool (decide (y125.2.2.2 = 0)) from rfl) hq149) (v := .agg #[.int .i64 y90.1, .int .i64 y90.2.1, .slice A94 y90.2.2.1.length c96]) (ld_blk (hC.bx (i := 4) rfl) Try.isAgg28 Try.sizeOf28 e6) ?_
               refine lex.gval (want_t rfl rfl (show _ = Value.bool (decide (y125.2.2.2 = 0)) from rfl) hq149) (v := .agg #[.int .i64 y55.1, .int .i64 z143, .slice A59 y55.2.2.1.length c61]) (ld_blk (hC.bx (i := 8) rfl) Try.isAgg28 Try.sizeOf28 e4) ?_
               obtain ⟨y150, h151, hb⟩ := bd hb
               refine lex.gcl (want_t rfl rfl (show _ = Value.bool (decide (y125.2.2.2 = 0)) from rfl) hq149) (⟨_, _, op_call (vs := [.agg #[.int .i64 y90.1, .int .i64 y90.2.1, .slice A94 y90.2.2.1.length c96], .agg #[.int .i64 y55.1, .int .i64 z143, .slice A59 y55.2.2.1.length c61]]) Try.call23 rfl rfl rfl, law34_equal_ok n hC.lt hr92 hr93 (hC.rd (i := 5) rfl) hr57 (chk_rng h144) (hC.rd (i := 9) rfl) h151⟩) ?_
               rintro _ w152 ⟨rfl, hK⟩
               replace hC := hC.merge hK
               clear hK
               refine lex.pure (v := .bool y150) (pu_pickT (q := (decide (y125.2.2.2 = 0))) rfl hq149 rfl) ?_
               refine lex.pure (v := .bool y150) (pu_move rfl) ?_
               rcases bS y150 with hq153 | hq153
               ·
                replace hb := (cT hq153).symm.trans hb
                refine lex.gval (want_t rfl rfl (show _ = Value.bool y150 from rfl) hq153) (v := .agg #[.int .i64 y125.1, .int .i64 y125.2.1, .slice A129 y125.2.2.1.length c131]) (ld_blk (hC.bx (i := 0) rfl) Try.isAgg28 Try.sizeOf28 e8) ?_
                refine lex.gval (want_t rfl rfl (show _ = Value.bool y150 from rfl) hq153) (v := .agg #[.int .i64 y55.1, .int .i64 z143, .slice A59 y55.2.2.1.length c61]) (ld_blk (hC.bx (i := 8) rfl) Try.isAgg28 Try.sizeOf28 e4) ?_
                obtain ⟨y154, h155, hb⟩ := bd hb
                refine lex.gcl (want_t rfl rfl (show _ = Value.bool y150 from rfl) hq153) (⟨_, _, op_call (vs := [.agg #[.int .i64 y125.1, .int .i64 y125.2.1, .slice A129 y125.2.2.1.length c131], .agg #[.int .i64 y55.1, .int .i64 z143, .slice A59 y55.2.2.1.length c61]]) Try.call23 rfl rfl rfl, law34_equal_ok n hC.lt hr127 hr128 (hC.rd (i := 1) rfl) hr57 (chk_rng h144) (hC.rd (i := 9) rfl) h155⟩) ?_
                rintro _ w156 ⟨rfl, hK⟩
                replace hC := hC.merge hK
                clear hK
                refine lex.pure (v := .bool y154) (pu_pickT (q := y150) rfl hq153 rfl) ?_
                refine lex.pure (v := .bool y154) (pu_assign rfl) ?_
                refine lex.nil ?_
                refine hK146 _ _ ?_
                obtain rfl := Option.some.inj hb
                refine Wc.ret ?_
                refine hKR _ _ ?_
                refine ⟨_, res1 Try.results5 (show RV _ _ _ (.tmp _) (.bool y154) from rfl), _, rfl, rfl, hC.sel [] (by decide)⟩
               ·
                replace hb := (cF hq153).symm.trans hb
                refine lex.gskip (want_f rfl rfl (show _ = Value.bool y150 from rfl) hq153) ?_
                refine lex.gskip (want_f rfl rfl (show _ = Value.bool y150 from rfl) hq153) ?_
                refine lex.gskip (want_f rfl rfl (show _ = Value.bool y150 from rfl) hq153) ?_
                refine lex.pure (v := .bool false) (pu_pickF (q := y150) rfl hq153 rfl) ?_
                refine lex.pure (v := .bool false) (pu_assign rfl) ?_
                refine lex.nil ?_
                refine hK146 _ _ ?_
                obtain rfl := Option.some.inj hb
                refine Wc.ret ?_
                refine hKR _ _ ?_
                refine ⟨_, res1 Try.results5 (show RV _ _ _ (.tmp _) (.bool false) from rfl), _, rfl, rfl, hC.sel [] (by decide)⟩
              ·
               replace hb := (cF hq149).symm.trans hb
               refine lex.gskip (want_f rfl rfl (show _ = Value.bool (decide (y125.2.2.2 = 0)) from rfl) hq149) ?_
               refine lex.gskip (want_f rfl rfl (show _ = Value.bool (decide (y125.2.2.2 = 0)) from rfl) hq149) ?_
               refine lex.gskip (want_f rfl rfl (show _ = Value.bool (decide (y125.2.2.2 = 0)) from rfl) hq149) ?_
               refine lex.pure (v := .bool false) (pu_pickF (q := (decide (y125.2.2.2 = 0))) rfl hq149 rfl) ?_
               refine lex.pure (v := .bool false) (pu_move rfl) ?_
               refine lex.gskip (want_f rfl rfl (show _ = Value.bool false from rfl) rfl) ?_
               refine lex.gskip (want_f rfl rfl (show _ = Value.bool false from rfl) rfl) ?_
               refine lex.gskip (want_f rfl rfl (show _ = Value.bool false from rfl) rfl) ?_
               refine lex.pure (v := .bool false) (pu_pickF (q := false) rfl rfl rfl) ?_
               refine lex.pure (v := .bool false) (pu_assign rfl) ?_
               refine lex.nil ?_
               refine hK146 _ _ ?_
               obtain rfl := Option.some.inj hb
               refine Wc.ret ?_
               refine hKR _ _ ?_
               refine ⟨_, res1 Try.results5 (show RV _ _ _ (.tmp _) (.bool false) from rfl), _, rfl, rfl, hC.sel [] (by decide)⟩
             ·
              replace hb := (cF hq148).symm.trans hb
              refine lex.gskip (want_f rfl rfl (show _ = Value.bool (decide (y90.2.2.2 = 0)) from rfl) hq148) ?_
              refine lex.gskip (want_f rfl rfl (show _ = Value.bool (decide (y90.2.2.2 = 0)) from rfl) hq148) ?_
              refine lex.pure (v := .bool false) (pu_pickF (q := (decide (y90.2.2.2 = 0))) rfl hq148 rfl) ?_
              refine lex.pure (v := .bool false) (pu_move rfl) ?_
              refine lex.gskip (want_f rfl rfl (show _ = Value.bool false from rfl) rfl) ?_
              refine lex.gskip (want_f rfl rfl (show _ = Value.bool false from rfl) rfl) ?_
              refine lex.gskip (want_f rfl rfl (show _ = Value.bool false from rfl) rfl) ?_
              refine lex.pure (v := .bool false) (pu_pickF (q := false) rfl rfl rfl) ?_
              refine lex.pure (v := .bool false) (pu_move rfl) ?_
              refine lex.gskip (want_f rfl rfl (show _ = Value.bool false from rfl) rfl) ?_
              refine lex.gskip (want_f rfl rfl (show _ = Value.bool false from rfl) rfl) ?_
              refine lex.gskip (want_f rfl rfl (show _ = Value.bool false from rfl) rfl) ?_
              refine lex.pure (v := .bool false) (pu_pickF (q := false) rfl rfl rfl) ?_
              refine lex.pure (v := .bool false) (pu_assign rfl) ?_
              refine lex.nil ?_
              refine hK146 _ _ ?_
              obtain rfl := Option.some.inj hb
              refine Wc.ret ?_
              refine hKR _ _ ?_
              refine ⟨_, res1 Try.results5 (show RV _ _ _ (.tmp _) (.bool false) from rfl), _, rfl, rfl, hC.sel [] (by decide)⟩
            ·
             replace hb := (cF hq147).symm.trans hb
             refine lex.gskip (want_f rfl rfl (show _ = Value.bool (decide (y55.2.2.2 = 0)) from rfl) hq147) ?_
             refine lex.gskip (want_f rfl rfl (show _ = Value.bool (decide (y55.2.2.2 = 0)) from rfl) hq147) ?_
             refine lex.pure (v := .bool false) (pu_pickF (q := (decide (y55.2.2.2 = 0))) rfl hq147 rfl) ?_
             refine lex.pure (v := .bool false) (pu_move rfl) ?_
             refine lex.gskip (want_f rfl rfl (show _ = Value.bool false from rfl) rfl) ?_
             refine lex.gskip (want_f rfl rfl (show _ = Value.bool false from rfl) rfl) ?_
             refine lex.pure (v := .bool false) (pu_pickF (q := false) rfl rfl rfl) ?_
             refine lex.pure (v := .bool false) (pu_move rfl) ?_
             refine lex.gskip (want_f rfl rfl (show _ = Value.bool false from rfl) rfl) ?_
             refine lex.gskip (want_f rfl rfl (show _ = Value.bool false from rfl) rfl) ?_
             refine lex.gskip (want_f rfl rfl (show _ = Value.bool false from rfl) rfl) ?_
             refine lex.pure (v := .bool false) (pu_pickF (q := false) rfl rfl rfl) ?_
             refine lex.pure (v := .bool false) (pu_move rfl) ?_
             refine lex.gskip (want_f rfl rfl (show _ = Value.bool false from rfl) rfl) ?_
             refine lex.gskip (want_f rfl rfl (show _ = Value.bool false from rfl) rfl) ?_
             refine lex.gskip (want_f rfl rfl (show _ = Value.bool false from rfl) rfl) ?_
             refine lex.pure (v := .bool false) (pu_pickF (q := false) rfl rfl rfl) ?_
             refine lex.pure (v := .bool false) (pu_assign rfl) ?_
             refine lex.nil ?_
             refine hK146 _ _ ?_
             obtain rfl := Option.some.inj hb
             refine Wc.ret ?_
             refine hKR _ _ ?_
             refine ⟨_, res1 Try.results5 (show RV _ _ _ (.tmp _) (.bool false) from rfl), _, rfl, rfl, hC.sel [] (by decide)⟩
           ·
            skip
            refine mixPE_chain ?_
            refine mixE.op hM (hC.alloc (cs := [.int .i64 0, .int .i64 0, .slice none 0 0]) Try.zeroValue28 rfl) ?_
            rintro _ w158 ⟨g157, rfl, hC, hF, hG⟩
            have hUf159 : g157 < w109.heap.size → g157 ∈ blocks (([] : List Fact) ++ ([] : List Fact)) := fun h => absurd (Nat.lt_of_lt_of_le h (Nat.le_trans hM.size hG)) (Nat.lt_irrefl _)
            clear hG
            replace hM := hM.none hF
            replace hD := hM.wide (H := ([] : List Fact))
            refine ⟨hM, ?_⟩
            refine mixE.nil ?_
            refine mixPE_chain ?_
            replace hC := hC.freeze (i := 1) rfl (hC.own_new (i := 1) rfl)
            obtain ⟨y160, h161, hb⟩ := bd hb
            refine mixE.cl hM (⟨_, _, op_call (vs := [.agg #[.int .i64 b_0_0, .slice A118 y116.length c120]]) Try.call13 rfl rfl rfl, garside_Form_ok n hC.lt hb_0_0 (hC.rd (i := 1) rfl) h161⟩) ?_
            rintro _ w169 ⟨A164, m165, c166, rfl, hr162, hr163, hr168, hK⟩
            replace hM := hM.none hK.fr
            replace hD := hM.wide (H := ([] : List Fact))
            refine ⟨hM, ?_⟩
            replace hC := hC.merge hK
            clear hK
            obtain ⟨rfl, hl170, hc171⟩ := (hC.rd (i := 0) rfl).sl_len
            refine mixE.pure (v := .tuple #[.agg #[.int .i64 y160.1, .int .i64 y160.2.1, .slice A164 y160.2.2.1.length c166], .int .i64 y160.2.2.2]) (pu_move rfl) ?_
            refine mixE.pure (v := .agg #[.int .i64 y160.1, .int .i64 y160.2.1, .slice A164 y160.2.2.1.length c166]) (pu_extract rfl rfl) ?_
            refine mixE.pure (v := .int .i64 y160.2.2.2) (pu_extract rfl rfl) ?_
            refine mixE.sk hD (hC.seta (i := 1) (ds := [.int .i64 y160.1, .int .i64 y160.2.1, .slice A164 y160.2.2.1.length c166]) rfl Try.type28 rfl rfl rfl rfl rfl) ?_
            rintro w172 ⟨hC, hF⟩
            replace hD := hD.besideG hUf159 hF
            clear hF
            refine ⟨hD, ?_⟩
            refine mixE.pure (v := .int .i64 y160.2.2.2) (pu_assign rfl) ?_
            refine mixE.nil ?_
            clear hS hM
            clear hD
            refine hK107 _ _ ?_
            refine Wc.fresh fun E173 hE => ?_
            have e2 : E173 2 = .bool false := (congrFun hE 2).trans e2
            have e4 : E173 4 = .pointer (some ⟨g67, 0, none⟩) := (congrFun hE 4).trans e4
            have e5 : E173 5 = .int .i64 y55.2.2.2 := (congrFun hE 5).trans e5
            have e6 : E173 6 = .pointer (some ⟨g102, 0, none⟩) := (congrFun hE 6).trans e6
            have e7 : E173 7 = .int .i64 y90.2.2.2 := (congrFun hE 7).trans e7
            have e8 : E173 8 = .pointer (some ⟨g157, 0, none⟩) := (congrFun hE 8).trans rfl
            have e9 : E173 9 = .int .i64 y160.2.2.2 := (congrFun hE 9).trans rfl
            clear hE
            refine Wc.seq fun K174 hK174 => ?_
            refine Wc.region (by decide +kernel) ?_
            refine lex.pure (v := .pointer (some ((⟨g67, 0, none⟩ : Addr).add 1))) (pu_field (sz := 1) Try.underlying28 rfl Try.sizeOf3 (by decide) rfl e4) ?_
            refine lex.val (v := .int .i64 y55.2.1) (ld_fld (hC.bx (i := 8) rfl) Try.isAgg3 rfl rfl) ?_
            obtain ⟨z175, h176, hb⟩ := bd hb
            refine lex.pure (v := .int .i64 z175) (pu_addc (a := y55.2.1) (b := 2) rfl rfl h176) ?_
            refine lex.pure (v := .pointer (some ((⟨g67, 0, none⟩ : Addr).add 1))) (pu_field (sz := 1) Try.underlying28 rfl Try.sizeOf3 (by decide) rfl e4) ?_
            refine lex.sk (hC.setf (i := 8) (k := 1) (v := .int .i64 z175) rfl Try.sizeOf3 rfl rfl rfl rfl) ?_
            rintro w177 ⟨hC, hF⟩
            refine lex.nil ?_
            refine hK174 _ _ ?_
            refine Wc.seq fun K178 hK178 => ?_
            refine Wc.region (by decide +kernel) ?_
            refine lex.pure (v := .int .i64 y55.2.2.2) (pu_move e5) ?_
            refine lex.pure (v := .bool (decide (y55.2.2.2 = 0))) (pu_eql (k := .i64) (a := y55.2.2.2) (b := 0) rfl rfl) ?_
            refine lex.pure (v := .bool (decide (y55.2.2.2 = 0))) (pu_move rfl) ?_
            rcases bS (decide (y55.2.2.2 = 0)) with hq179 | hq179
            ·
             replace hb := (cT hq179).symm.trans hb
             refine lex.gpure (want_t rfl rfl (show _ = Value.bool (decide (y55.2.2.2 = 0)) from rfl) hq179) (v := .int .i64 y90.2.2.2) (pu_move e7) ?_
             refine lex.gpure (want_t rfl rfl (show _ = Value.bool (decide (y55.2.2.2 = 0)) from rfl) hq179) (v := .bool (decide (y90.2.2.2 = 0))) (pu_eql (k := .i64) (a := y90.2.2.2) (b := 0) rfl rfl) ?_
             refine lex.pure (v := .bool (decide (y90.2.2.2 = 0))) (pu_pickT (q := (decide (y55.2.2.2 = 0))) rfl hq179 rfl) ?_
             refine lex.pure (v := .bool (decide (y90.2.2.2 = 0))) (pu_move rfl) ?_
             rcases bS (decide (y90.2.2.2 = 0)) with hq180 | hq180
             ·
              replace hb := (cT hq180).symm.trans hb
              refine lex.gpure (want_t rfl rfl (show _ = Value.bool (decide (y90.2.2.2 = 0)) from rfl) hq180) (v := .int .i64 y160.2.2.2) (pu_move e9) ?_
              refine lex.gpure (want_t rfl rfl (show _ = Value.bool (decide (y90.2.2.2 = 0)) from rfl) hq180) (v := .bool (decide (y160.2.2.2 = 0))) (pu_eql (k := .i64) (a := y160.2.2.2) (b := 0) rfl rfl) ?_
              refine lex.pure (v := .bool (decide (y160.2.2.2 = 0))) (pu_pickT (q := (decide (y90.2.2.2 = 0))) rfl hq180 rfl) ?_
              refine lex.pure (v := .bool (decide (y160.2.2.2 = 0))) (pu_move rfl) ?_
              rcases bS (decide (y160.2.2.2 = 0)) with hq181 | hq181
              ·
               replace hb := (cT hq181).symm.trans hb
               refine lex.gval (want_t rfl rfl (show _ = Value.bool (decide (y160.2.2.2 = 0)) from rfl) hq181) (v := .agg #[.int .i64 y90.1, .int .i64 y90.2.1, .slice A94 y90.2.2.1.length c96]) (ld_blk (hC.bx (i := 4) rfl) Try.isAgg28 Try.sizeOf28 e6) ?_
               refine lex.gval (want_t rfl rfl (show _ = Value.bool (decide (y160.2.2.2 = 0)) from rfl) hq181) (v := .agg #[.int .i64 y55.1, .int .i64 z175, .slice A59 y55.2.2.1.length c61]) (ld_blk (hC.bx (i := 8) rfl) Try.isAgg28 Try.sizeOf28 e4) ?_
               obtain ⟨y182, h183, hb⟩ := bd hb
               refine lex.gcl (want_t rfl rfl (show _ = Value.bool (decide (y160.2.2.2 = 0)) from rfl) hq181) (⟨_, _, op_call (vs := [.agg #[.int .i64 y90.1, .int .i64 y90.2.1, .slice A94 y90.2.2.1.length c96], .agg #[.int .i64 y55.1, .int .i64 z175, .slice A59 y55.2.2.1.length c61]]) Try.call23 rfl rfl rfl, law34_equal_ok n hC.lt hr92 hr93 (hC.rd (i := 5) rfl) hr57 (chk_rng h176) (hC.rd (i := 9) rfl) h183⟩) ?_
               rintro _ w184 ⟨rfl, hK⟩
               replace hC := hC.merge hK
               clear hK
               refine lex.pure (v := .bool y182) (pu_pickT (q := (decide (y160.2.2.2 = 0))) rfl hq181 rfl) ?_
               refine lex.pure (v := .bool y182) (pu_move rfl) ?_
               rcases bS y182 with hq185 | hq185
               ·
                replace hb := (cT hq185).symm.trans hb
                refine lex.gval (want_t rfl rfl (show _ = Value.bool y182 from rfl) hq185) (v := .agg #[.int .i64 y160.1, .int .i64 y160.2.1, .slice A164 y160.2.2.1.length c166]) (ld_blk (hC.bx (i := 1) rfl) Try.isAgg28 Try.sizeOf28 e8) ?_
                refine lex.gval (want_t rfl rfl (show _ = Value.bool y182 from rfl) hq185) (v := .agg #[.int .i64 y55.1, .int .i64 z175, .slice A59 y55.2.2.1.length c61]) (ld_blk (hC.bx (i := 8) rfl) Try.isAgg28 Try.sizeOf28 e4) ?_
                obtain ⟨y186, h187, hb⟩ := bd hb
                refine lex.gcl (want_t rfl rfl (show _ = Value.bool y182 from rfl) hq185) (⟨_, _, op_call (vs := [.agg #[.int .i64 y160.1, .int .i64 y160.2.1, .slice A164 y160.2.2.1.length c166], .agg #[.int .i64 y55.1, .int .i64 z175, .slice A59 y55.2.2.1.length c61]]) Try.call23 rfl rfl rfl, law34_equal_ok n hC.lt hr162 hr163 (hC.rd (i := 0) rfl) hr57 (chk_rng h176) (hC.rd (i := 9) rfl) h187⟩) ?_
                rintro _ w188 ⟨rfl, hK⟩
                replace hC := hC.merge hK
                clear hK
                refine lex.pure (v := .bool y186) (pu_pickT (q := y182) rfl hq185 rfl) ?_
                refine lex.pure (v := .bool y186) (pu_assign rfl) ?_
                refine lex.nil ?_
                refine hK178 _ _ ?_
                obtain rfl := Option.some.inj hb
                refine Wc.ret ?_
                refine hKR _ _ ?_
                refine ⟨_, res1 Try.results5 (show RV _ _ _ (.tmp _) (.bool y186) from rfl), _, rfl, rfl, hC.sel [] (by decide)⟩
               ·
                replace hb := (cF hq185).symm.trans hb
                refine lex.gskip (want_f rfl rfl (show _ = Value.bool y182 from rfl) hq185) ?_
                refine lex.gskip (want_f rfl rfl (show _ = Value.bool y182 from rfl) hq185) ?_
                refine lex.gskip (want_f rfl rfl (show _ = Value.bool y182 from rfl) hq185) ?_
                refine lex.pure (v := .bool false) (pu_pickF (q := y182) rfl hq185 rfl) ?_
                refine lex.pure (v := .bool false) (pu_assign rfl) ?_
                refine lex.nil ?_
                refine hK178 _ _ ?_
                obtain rfl := Option.some.inj hb
                refine Wc.ret ?_
                refine hKR _ _ ?_
                refine ⟨_, res1 Try.results5 (show RV _ _ _ (.tmp _) (.bool false) from rfl), _, rfl, rfl, hC.sel [] (by decide)⟩
              ·
               replace hb := (cF hq181).symm.trans hb
               refine lex.gskip (want_f rfl rfl (show _ = Value.bool (decide (y160.2.2.2 = 0)) from rfl) hq181) ?_
               refine lex.gskip (want_f rfl rfl (show _ = Value.bool (decide (y160.2.2.2 = 0)) from rfl) hq181) ?_
               refine lex.gskip (want_f rfl rfl (show _ = Value.bool (decide (y160.2.2.2 = 0)) from rfl) hq181) ?_
               refine lex.pure (v := .bool false) (pu_pickF (q := (decide (y160.2.2.2 = 0))) rfl hq181 rfl) ?_
               refine lex.pure (v := .bool false) (pu_move rfl) ?_
               refine lex.gskip (want_f rfl rfl (show _ = Value.bool false from rfl) rfl) ?_
               refine lex.gskip (want_f rfl rfl (show _ = Value.bool false from rfl) rfl) ?_
               refine lex.gskip (want_f rfl rfl (show _ = Value.bool false from rfl) rfl) ?_
               refine lex.pure (v := .bool false) (pu_pickF (q := false) rfl rfl rfl) ?_
               refine lex.pure (v := .bool false) (pu_assign rfl) ?_
               refine lex.nil ?_
               refine hK178 _ _ ?_
               obtain rfl := Option.some.inj hb
               refine Wc.ret ?_
               refine hKR _ _ ?_
               refine ⟨_, res1 Try.results5 (show RV _ _ _ (.tmp _) (.bool false) from rfl), _, rfl, rfl, hC.sel [] (by decide)⟩
             ·
              replace hb := (cF hq180).symm.trans hb
              refine lex.gskip (want_f rfl rfl (show _ = Value.bool (decide (y90.2.2.2 = 0)) from rfl) hq180) ?_
              refine lex.gskip (want_f rfl rfl (show _ = Value.bool (decide (y90.2.2.2 = 0)) from rfl) hq180) ?_
              refine lex.pure (v := .bool false) (pu_pickF (q := (decide (y90.2.2.2 = 0))) rfl hq180 rfl) ?_
              refine lex.pure (v := .bool false) (pu_move rfl) ?_
              refine lex.gskip (want_f rfl rfl (show _ = Value.bool false from rfl) rfl) ?_
              refine lex.gskip (want_f rfl rfl (show _ = Value.bool false from rfl) rfl) ?_
              refine lex.gskip (want_f rfl rfl (show _ = Value.bool false from rfl) rfl) ?_
              refine lex.pure (v := .bool false) (pu_pickF (q := false) rfl rfl rfl) ?_
              refine lex.pure (v := .bool false) (pu_move rfl) ?_
              refine lex.gskip (want_f rfl rfl (show _ = Value.bool false from rfl) rfl) ?_
              refine lex.gskip (want_f rfl rfl (show _ = Value.bool false from rfl) rfl) ?_
              refine lex.gskip (want_f rfl rfl (show _ = Value.bool false from rfl) rfl) ?_
              refine lex.pure (v := .bool false) (pu_pickF (q := false) rfl rfl rfl) ?_
              refine lex.pure (v := .bool false) (pu_assign rfl) ?_
              refine lex.nil ?_
              refine hK178 _ _ ?_
              obtain rfl := Option.some.inj hb
              refine Wc.ret ?_
              refine hKR _ _ ?_
              refine ⟨_, res1 Try.results5 (show RV _ _ _ (.tmp _) (.bool false) from rfl), _, rfl, rfl, hC.sel [] (by decide)⟩
            ·
             replace hb := (cF hq179).symm.trans hb
             refine lex.gskip (want_f rfl rfl (show _ = Value.bool (decide (y55.2.2.2 = 0)) from rfl) hq179) ?_
             refine lex.gskip (want_f rfl rfl (show _ = Value.bool (decide (y55.2.2.2 = 0)) from rfl) hq179) ?_
             refine lex.pure (v := .bool false) (pu_pickF (q := (decide (y55.2.2.2 = 0))) rfl hq179 rfl) ?_
             refine lex.pure (v := .bool false) (pu_move rfl) ?_
             refine lex.gskip (want_f rfl rfl (show _ = Value.bool false from rfl) rfl) ?_
             refine lex.gskip (want_f rfl rfl (show _ = Value.bool false from rfl) rfl) ?_
             refine lex.pure (v := .bool false) (pu_pickF (q := false) rfl rfl rfl) ?_
             refine lex.pure (v := .bool false) (pu_move rfl) ?_
             refine lex.gskip (want_f rfl rfl (show _ = Value.bool false from rfl) rfl) ?_
             refine lex.gskip (want_f rfl rfl (show _ = Value.bool false from rfl) rfl) ?_
             refine lex.gskip (want_f rfl rfl (show _ = Value.bool false from rfl) rfl) ?_
             refine lex.pure (v := .bool false) (pu_pickF (q := false) rfl rfl rfl) ?_
             refine lex.pure (v := .bool false) (pu_move rfl) ?_
             refine lex.gskip (want_f rfl rfl (show _ = Value.bool false from rfl) rfl) ?_
             refine lex.gskip (want_f rfl rfl (show _ = Value.bool false from rfl) rfl) ?_
             refine lex.gskip (want_f rfl rfl (show _ = Value.bool false from rfl) rfl) ?_
             refine lex.pure (v := .bool false) (pu_pickF (q := false) rfl rfl rfl) ?_
             refine lex.pure (v := .bool false) (pu_assign rfl) ?_
             refine lex.nil ?_
             refine hK178 _ _ ?_
             obtain rfl := Option.some.inj hb
             refine Wc.ret ?_
             refine hKR _ _ ?_
             refine ⟨_, res1 Try.results5 (show RV _ _ _ (.tmp _) (.bool false) from rfl), _, rfl, rfl, hC.sel [] (by decide)⟩
          ·
           skip
           refine mixPE_chain ?_
           refine mixE.op hM (hC.alloc (cs := [.int .i64 0, .int .i64 0, .slice none 0 0]) Try.zeroValue28 rfl) ?_
           rintro _ w190 ⟨g189, rfl, hC, hF, hG⟩
           have hUf191 : g189 < w109.heap.size → g189 ∈ blocks (([] : List Fact) ++ ([] : List Fact)) := fun h => absurd (Nat.lt_of_lt_of_le h (Nat.le_trans hM.size hG)) (Nat.lt_irrefl _)
           clear hG
           replace hM := hM.none hF
           replace hD := hM.wide (H := ([] : List Fact))
           refine ⟨hM, ?_⟩
           refine mixE.nil ?_
           refine mixPE_chain ?_
           obtain ⟨y192, h193, hb⟩ := bd hb
           refine mixE.cl hM (⟨_, _, op_call (vs := [.slice A110 ((([b_0_1, y45] : List (List Int))).length) c111]) Try.call22 rfl rfl rfl, slices_Concat_Lint_int_ok n (hC.lentLt [.slice A110 ((([b_0_1, y45] : List (List Int))).length) c111]) ((hC.ow (i := 1) rfl).lend (vs := [.slice A110 ((([b_0_1, y45] : List (List Int))).length) c111]) (by simp)) h193⟩) ?_
           rintro _ w198 ⟨A194, m195, c196, rfl, hK⟩
           replace hM := hM.none hK.fr
           replace hD := hM.wide (H := ([] : List Fact))
           refine ⟨hM, ?_⟩
           replace hC := hC.mergeF hK rfl
           clear hK
           obtain ⟨rfl, hl199, hc200⟩ := (hC.ow (i := 0) rfl).sl_len
           refine mixE.pure (v := .agg #[.int .i64 b_0_0, .slice A194 y192.length c196]) (pu_builds (places := [(0, 1), (1, 1)]) (pv := [(0, .int .i64 b_0_0), (1, .slice A194 y192.length c196)]) Try.type24 Try.underlying24 rfl (mp_cons Try.type3 (mp_cons Try.type22 mp_nil rfl rfl) rfl rfl) rfl (by simp [Instr.fill, Value.cells])) ?_
           replace hC := hC.freeze (i := 0) rfl (hC.own_new (i := 0) rfl)
           obtain ⟨y201, h202, hb⟩ := bd hb
           refine mixE.cl hM (⟨_, _, op_call (vs := [.agg #[.int .i64 b_0_0, .slice A194 y192.length c196]]) Try.call13 rfl rfl rfl, garside_Form_ok n hC.lt hb_0_0 (hC.rd (i := 0) rfl) h202⟩) ?_
           rintro _ w210 ⟨A205, m206, c207, rfl, hr203, hr204, hr209, hK⟩
           replace hM := hM.none hK.fr
           replace hD := hM.wide (H := ([] : List Fact))
           refine ⟨hM, ?_⟩
           replace hC := hC.merge hK
           clear hK
           obtain ⟨rfl, hl211, hc212⟩ := (hC.rd (i := 0) rfl).sl_len
           refine mixE.pure (v := .tuple #[.agg #[.int .i64 y201.1, .int .i64 y201.2.1, .slice A205 y201.2.2.1.length c207], .int .i64 y201.2.2.2]) (pu_move rfl) ?_
           refine mixE.pure (v := .agg #[.int .i64 y201.1, .int .i64 y201.2.1, .slice A205 y201.2.2.1.length c207]) (pu_extract rfl rfl) ?_
           refine mixE.pure (v := .int .i64 y201.2.2.2) (pu_extract rfl rfl) ?_
           refine mixE.sk hD (hC.seta (i := 2) (ds := [.int .i64 y201.1, .int .i64 y201.2.1, .slice A205 y201.2.2.1.length c207]) rfl Try.type28 rfl rfl rfl rfl rfl) ?_
           rintro w213 ⟨hC, hF⟩
           replace hD := hD.besideG hUf191 hF
           clear hF
           refine ⟨hD, ?_⟩
           refine mixE.pure (v := .int .i64 y201.2.2.2) (pu_assign rfl) ?_
           refine mixE.nil ?_
           clear hS hM
           clear hD
           refine hK107 _ _ ?_
           refine Wc.fresh fun E214 hE => ?_
           have e2 : E214 2 = .bool false := (congrFun hE 2).trans e2
           have e4 : E214 4 = .pointer (some ⟨g67, 0, none⟩) := (congrFun hE 4).trans e4
           have e5 : E214 5 = .int .i64 y55.2.2.2 := (congrFun hE 5).trans e5
           have e6 : E214 6 = .pointer (some ⟨g102, 0, none⟩) := (congrFun hE 6).trans e6
           have e7 : E214 7 = .int .i64 y90.2.2.2 := (congrFun hE 7).trans e7
           have e8 : E214 8 = .pointer (some ⟨g189, 0, none⟩) := (congrFun hE 8).trans rfl
           have e9 : E214 9 = .int .i64 y201.2.2.2 := (congrFun hE 9).trans rfl
           clear hE
           refine Wc.seq fun K215 hK215 => ?_
           refine Wc.region (by decide +kernel) ?_
           refine lex.pure (v := .pointer (some ((⟨g67, 0, none⟩ : Addr).add 1))) (pu_field (sz := 1) Try.underlying28 rfl Try.sizeOf3 (by decide) rfl e4) ?_
           refine lex.val (v := .int .i64 y55.2.1) (ld_fld (hC.bx (i := 8) rfl) Try.isAgg3 rfl rfl) ?_
           obtain ⟨z216, h217, hb⟩ := bd hb
           refine lex.pure (v := .int .i64 z216) (pu_addc (a := y55.2.1) (b := 2) rfl rfl h217) ?_
           refine lex.pure (v := .pointer (some ((⟨g67, 0, none⟩ : Addr).add 1))) (pu_field (sz := 1) Try.underlying28 rfl Try.sizeOf3 (by decide) rfl e4) ?_
           refine lex.sk (hC.setf (i := 8) (k := 1) (v := .int .i64 z216) rfl Try.sizeOf3 rfl rfl rfl rfl) ?_
           rintro w218 ⟨hC, hF⟩
           refine lex.nil ?_
           refine hK215 _ _ ?_
           refine Wc.seq fun K219 hK219 => ?_
           refine Wc.region (by decide +kernel) ?_
           refine lex.pure (v := .int .i64 y55.2.2.2) (pu_move e5) ?_
           refine lex.pure (v := .bool (decide (y55.2.2.2 = 0))) (pu_eql (k := .i64) (a := y55.2.2.2) (b := 0) rfl rfl) ?_
           refine lex.pure (v := .bool (decide (y55.2.2.2 = 0))) (pu_move rfl) ?_
           rcases bS (decide (y55.2.2.2 = 0)) with hq220 | hq220
           ·
            replace hb := (cT hq220).symm.trans hb
            refine lex.gpure (want_t rfl rfl (show _ = Value.bool (decide (y55.2.2.2 = 0)) from rfl) hq220) (v := .int .i64 y90.2.2.2) (pu_move e7) ?_
            refine lex.gpure (want_t rfl rfl (show _ = Value.bool (decide (y55.2.2.2 = 0)) from rfl) hq220) (v := .bool (decide (y90.2.2.2 = 0))) (pu_eql (k := .i64) (a := y90.2.2.2) (b := 0) rfl rfl) ?_
            refine lex.pure (v := .bool (decide (y90.2.2.2 = 0))) (pu_pickT (q := (decide (y55.2.2.2 = 0))) rfl hq220 rfl) ?_
            refine lex.pure (v := .bool (decide (y90.2.2.2 = 0))) (pu_move rfl) ?_
            rcases bS (decide (y90.2.2.2 = 0)) with hq221 | hq221
            ·
             replace hb := (cT hq221).symm.trans hb
             refine lex.gpure (want_t rfl rfl (show _ = Value.bool (decide (y90.2.2.2 = 0)) from rfl) hq221) (v := .int .i64 y201.2.2.2) (pu_move e9) ?_
             refine lex.gpure (want_t rfl rfl (show _ = Value.bool (decide (y90.2.2.2 = 0)) from rfl) hq221) (v := .bool (decide (y201.2.2.2 = 0))) (pu_eql (k := .i64) (a := y201.2.2.2) (b := 0) rfl rfl) ?_
             refine lex.pure (v := .bool (decide (y201.2.2.2 = 0))) (pu_pickT (q := (decide (y90.2.2.2 = 0))) rfl hq221 rfl) ?_
             refine lex.pure (v := .bool (decide (y201.2.2.2 = 0))) (pu_move rfl) ?_
             rcases bS (decide (y201.2.2.2 = 0)) with hq222 | hq222
             ·
              replace hb := (cT hq222).symm.trans hb
              refine lex.gval (want_t rfl rfl (show _ = Value.bool (decide (y201.2.2.2 = 0)) from rfl) hq222) (v := .agg #[.int .i64 y90.1, .int .i64 y90.2.1, .slice A94 y90.2.2.1.length c96]) (ld_blk (hC.bx (i := 4) rfl) Try.isAgg28 Try.sizeOf28 e6) ?_
              refine lex.gval (want_t rfl rfl (show _ = Value.bool (decide (y201.2.2.2 = 0)) from rfl) hq222) (v := .agg #[.int .i64 y55.1, .int .i64 z216, .slice A59 y55.2.2.1.length c61]) (ld_blk (hC.bx (i := 8) rfl) Try.isAgg28 Try.sizeOf28 e4) ?_
              obtain ⟨y223, h224, hb⟩ := bd hb
              refine lex.gcl (want_t rfl rfl (show _ = Value.bool (decide (y201.2.2.2 = 0)) from rfl) hq222) (⟨_, _, op_call (vs := [.agg #[.int .i64 y90.1, .int .i64 y90.2.1, .slice A94 y90.2.2.1.length c96], .agg #[.int .i64 y55.1, .int .i64 z216, .slice A59 y55.2.2.1.length c61]]) Try.call23 rfl rfl rfl, law34_equal_ok n hC.lt hr92 hr93 (hC.rd (i := 5) rfl) hr57 (chk_rng h217) (hC.rd (i := 9) rfl) h224⟩) ?_
              rintro _ w225 ⟨rfl, hK⟩
              replace hC := hC.merge hK
              clear hK
              refine lex.pure (v := .bool y223) (pu_pickT (q := (decide (y201.2.2.2 = 0))) rfl hq222 rfl) ?_
              refine lex.pure (v := .bool y223) (pu_move rfl) ?_
              rcases bS y223 with hq226 | hq226
              ·
               replace hb := (cT hq226).symm.trans hb
               refine lex.gval (want_t rfl rfl (show _ = Value.bool y223 from rfl) hq226) (v := .agg #[.int .i64 y201.1, .int .i64 y201.2.1, .slice A205 y201.2.2.1.length c207]) (ld_blk (hC.bx (i := 2) rfl) Try.isAgg28 Try.sizeOf28 e8) ?_
               refine lex.gval (want_t rfl rfl (show _ = Value.bool y223 from rfl) hq226) (v := .agg #[.int .i64 y55.1, .int .i64 z216, .slice A59 y55.2.2.1.length c61]) (ld_blk (hC.bx (i := 8) rfl) Try.isAgg28 Try.sizeOf28 e4) ?_
               obtain ⟨y227, h228, hb⟩ := bd hb
               refine lex.gcl (want_t rfl rfl (show _ = Value.bool y223 from rfl) hq226) (⟨_, _, op_call (vs := [.agg #[.int .i64 y201.1, .int .i64 y201.2.1, .slice A205 y201.2.2.1.length c207], .agg #[.int .i64 y55.1, .int .i64 z216, .slice A59 y55.2.2.1.length c61]]) Try.call23 rfl rfl rfl, law34_equal_ok n hC.lt hr203 hr204 (hC.rd (i := 0) rfl) hr57 (chk_rng h217) (hC.rd (i := 9) rfl) h228⟩) ?_
               rintro _ w229 ⟨rfl, hK⟩
               replace hC := hC.merge hK
               clear hK
               refine lex.pure (v := .bool y227) (pu_pickT (q := y223) rfl hq226 rfl) ?_
               refine lex.pure (v := .bool y227) (pu_assign rfl) ?_
               refine lex.nil ?_
               refine hK219 _ _ ?_
               obtain rfl := Option.some.inj hb
               refine Wc.ret ?_
               refine hKR _ _ ?_
               refine ⟨_, res1 Try.results5 (show RV _ _ _ (.tmp _) (.bool y227) from rfl), _, rfl, rfl, hC.sel [] (by decide)⟩
              ·
               replace hb := (cF hq226).symm.trans hb
               refine lex.gskip (want_f rfl rfl (show _ = Value.bool y223 from rfl) hq226) ?_
               refine lex.gskip (want_f rfl rfl (show _ = Value.bool y223 from rfl) hq226) ?_
               refine lex.gskip (want_f rfl rfl (show _ = Value.bool y223 from rfl) hq226) ?_
               refine lex.pure (v := .bool false) (pu_pickF (q := y223) rfl hq226 rfl) ?_
               refine lex.pure (v := .bool false) (pu_assign rfl) ?_
               refine lex.nil ?_
               refine hK219 _ _ ?_
               obtain rfl := Option.some.inj hb
               refine Wc.ret ?_
               refine hKR _ _ ?_
               refine ⟨_, res1 Try.results5 (show RV _ _ _ (.tmp _) (.bool false) from rfl), _, rfl, rfl, hC.sel [] (by decide)⟩
             ·
              replace hb := (cF hq222).symm.trans hb
              refine lex.gskip (want_f rfl rfl (show _ = Value.bool (decide (y201.2.2.2 = 0)) from rfl) hq222) ?_
              refine lex.gskip (want_f rfl rfl (show _ = Value.bool (decide (y201.2.2.2 = 0)) from rfl) hq222) ?_
              refine lex.gskip (want_f rfl rfl (show _ = Value.bool (decide (y201.2.2.2 = 0)) from rfl) hq222) ?_
              refine lex.pure (v := .bool false) (pu_pickF (q := (decide (y201.2.2.2 = 0))) rfl hq222 rfl) ?_
              refine lex.pure (v := .bool false) (pu_move rfl) ?_
              refine lex.gskip (want_f rfl rfl (show _ = Value.bool false from rfl) rfl) ?_
              refine lex.gskip (want_f rfl rfl (show _ = Value.bool false from rfl) rfl) ?_
              refine lex.gskip (want_f rfl rfl (show _ = Value.bool false from rfl) rfl) ?_
              refine lex.pure (v := .bool false) (pu_pickF (q := false) rfl rfl rfl) ?_
              refine lex.pure (v := .bool false) (pu_assign rfl) ?_
              refine lex.nil ?_
              refine hK219 _ _ ?_
              obtain rfl := Option.some.inj hb
              refine Wc.ret ?_
              refine hKR _ _ ?_
              refine ⟨_, res1 Try.results5 (show RV _ _ _ (.tmp _) (.bool false) from rfl), _, rfl, rfl, hC.sel [] (by decide)⟩
            ·
             replace hb := (cF hq221).symm.trans hb
             refine lex.gskip (want_f rfl rfl (show _ = Value.bool (decide (y90.2.2.2 = 0)) from rfl) hq221) ?_
             refine lex.gskip (want_f rfl rfl (show _ = Value.bool (decide (y90.2.2.2 = 0)) from rfl) hq221) ?_
             refine lex.pure (v := .bool false) (pu_pickF (q := (decide (y90.2.2.2 = 0))) rfl hq221 rfl) ?_
             refine lex.pure (v := .bool false) (pu_move rfl) ?_
             refine lex.gskip (want_f rfl rfl (show _ = Value.bool false from rfl) rfl) ?_
             refine lex.gskip (want_f rfl rfl (show _ = Value.bool false from rfl) rfl) ?_
             refine lex.gskip (want_f rfl rfl (show _ = Value.bool false from rfl) rfl) ?_
             refine lex.pure (v := .bool false) (pu_pickF (q := false) rfl rfl rfl) ?_
             refine lex.pure (v := .bool false) (pu_move rfl) ?_
             refine lex.gskip (want_f rfl rfl (show _ = Value.bool false from rfl) rfl) ?_
             refine lex.gskip (want_f rfl rfl (show _ = Value.bool false from rfl) rfl) ?_
             refine lex.gskip (want_f rfl rfl (show _ = Value.bool false from rfl) rfl) ?_
             refine lex.pure (v := .bool false) (pu_pickF (q := false) rfl rfl rfl) ?_
             refine lex.pure (v := .bool false) (pu_assign rfl) ?_
             refine lex.nil ?_
             refine hK219 _ _ ?_
             obtain rfl := Option.some.inj hb
             refine Wc.ret ?_
             refine hKR _ _ ?_
             refine ⟨_, res1 Try.results5 (show RV _ _ _ (.tmp _) (.bool false) from rfl), _, rfl, rfl, hC.sel [] (by decide)⟩
           ·
            replace hb := (cF hq220).symm.trans hb
            refine lex.gskip (want_f rfl rfl (show _ = Value.bool (decide (y55.2.2.2 = 0)) from rfl) hq220) ?_
            refine lex.gskip (want_f rfl rfl (show _ = Value.bool (decide (y55.2.2.2 = 0)) from rfl) hq220) ?_
            refine lex.pure (v := .bool false) (pu_pickF (q := (decide (y55.2.2.2 = 0))) rfl hq220 rfl) ?_
            refine lex.pure (v := .bool false) (pu_move rfl) ?_
            refine lex.gskip (want_f rfl rfl (show _ = Value.bool false from rfl) rfl) ?_
            refine lex.gskip (want_f rfl rfl (show _ = Value.bool false from rfl) rfl) ?_
            refine lex.pure (v := .bool false) (pu_pickF (q := false) rfl rfl rfl) ?_
            refine lex.pure (v := .bool false) (pu_move rfl) ?_
            refine lex.gskip (want_f rfl rfl (show _ = Value.bool false from rfl) rfl) ?_
            refine lex.gskip (want_f rfl rfl (show _ = Value.bool false from rfl) rfl) ?_
            refine lex.gskip (want_f rfl rfl (show _ = Value.bool false from rfl) rfl) ?_
            refine lex.pure (v := .bool false) (pu_pickF (q := false) rfl rfl rfl) ?_
            refine lex.pure (v := .bool false) (pu_move rfl) ?_
            refine lex.gskip (want_f rfl rfl (show _ = Value.bool false from rfl) rfl) ?_
            refine lex.gskip (want_f rfl rfl (show _ = Value.bool false from rfl) rfl) ?_
            refine lex.gskip (want_f rfl rfl (show _ = Value.bool false from rfl) rfl) ?_
            refine lex.pure (v := .bool false) (pu_pickF (q := false) rfl rfl rfl) ?_
            refine lex.pure (v := .bool false) (pu_assign rfl) ?_
            refine lex.nil ?_
            refine hK219 _ _ ?_
            obtain rfl := Option.some.inj hb
            refine Wc.ret ?_
            refine hKR _ _ ?_
            refine ⟨_, res1 Try.results5 (show RV _ _ _ (.tmp _) (.bool false) from rfl), _, rfl, rfl, hC.sel [] (by decide)⟩
         ·
          skip
          refine mixPE_chain ?_
          refine mixE.op hM (hC.alloc (cs := [.int .i64 0, .int .i64 0, .slice none 0 0]) Try.zeroValue28 rfl) ?_
          rintro _ w231 ⟨g230, rfl, hC, hF, hG⟩
          have hUf232 : g230 < w109.heap.size → g230 ∈ blocks (([] : List Fact) ++ ([] : List Fact)) := fun h => absurd (Nat.lt_of_lt_of_le h (Nat.le_trans hM.size hG)) (Nat.lt_irrefl _)
          clear hG
          replace hM := hM.none hF
          replace hD := hM.wide (H := ([] : List Fact))
          refine ⟨hM, ?_⟩
          refine mixE.nil ?_
          refine mixPE_chain ?_
          refine mixE.op hM (hC.lit (s := (.sl (.int .i64))) (vs := [.slice Ab_0_1 b_0_1.length cb_0_1, .slice A47 y45.length c49]) (xs := [b_0_1, y45]) Try.underlying35 Try.type22 rfl rfl (Nat.le_of_ble_eq_true rfl) rfl rfl (by simp [Value.cells, Sh.n]) rfl (show Elems _ _ (.sl (.int .i64)) ([.slice Ab_0_1 b_0_1.length cb_0_1] ++ ([.slice A47 y45.length c49] ++ ([]))) ([b_0_1, y45] : List (List Int)) from Elems.cons (hC.rd (i := 9) rfl) (Elems.cons (hC.rd (i := 7) rfl) (Elems.nil _ _ _)))) ?_
          rintro _ w237 ⟨A233, c234, rfl, hl235, hc236, hC, hF, hN⟩
          have hBf238 := Beside.new hM hN
          have hUf238 := Beside.new (hM.wide (H := ([] : List Fact))) hN
          replace hM := hM.none hF
          replace hD := hM.wide (H := ([] : List Fact))
          refine ⟨hM, ?_⟩
          clear hF hN
          obtain ⟨y239, h240, hb⟩ := bd hb
          refine mixE.cl hM (⟨_, _, op_call (vs := [.slice A233 ((([b_0_1, y45] : List (List Int))).length) c234]) Try.call22 rfl rfl rfl, slices_Concat_Lint_int_ok n (hC.lentLt [.slice A233 ((([b_0_1, y45] : List (List Int))).length) c234]) ((hC.ow (i := 0) rfl).lend (vs := [.slice A233 ((([b_0_1, y45] : List (List Int))).length) c234]) (by simp)) h240⟩) ?_
          rintro _ w245 ⟨A241, m242, c243, rfl, hK⟩
          replace hM := hM.none hK.fr
          replace hD := hM.wide (H := ([] : List Fact))
          refine ⟨hM, ?_⟩
          replace hC := hC.mergeF hK rfl
          clear hK
          obtain ⟨rfl, hl246, hc247⟩ := (hC.ow (i := 0) rfl).sl_len
          refine mixE.pure (v := .agg #[.int .i64 b_0_0, .slice A241 y239.length c243]) (pu_builds (places := [(0, 1), (1, 1)]) (pv := [(0, .int .i64 b_0_0), (1, .slice A241 y239.length c243)]) Try.type24 Try.underlying24 rfl (mp_cons Try.type3 (mp_cons Try.type22 mp_nil rfl rfl) rfl rfl) rfl (by simp [Instr.fill, Value.cells])) ?_
          replace hC := hC.freeze (i := 0) rfl (hC.own_new (i := 0) rfl)
          obtain ⟨y248, h249, hb⟩ := bd hb
          refine mixE.cl hM (⟨_, _, op_call (vs := [.agg #[.int .i64 b_0_0, .slice A241 y239.length c243]]) Try.call13 rfl rfl rfl, garside_Form_ok n hC.lt hb_0_0 (hC.rd (i := 0) rfl) h249⟩) ?_
          rintro _ w257 ⟨A252, m253, c254, rfl, hr250, hr251, hr256, hK⟩
          replace hM := hM.none hK.fr
          replace hD := hM.wide (H := ([] : List Fact))
          refine ⟨hM, ?_⟩
          replace hC := hC.merge hK
          clear hK
          obtain ⟨rfl, hl258, hc259⟩ := (hC.rd (i := 0) rfl).sl_len
          refine mixE.pure (v := .tuple #[.agg #[.int .i64 y248.1, .int .i64 y248.2.1, .slice A252 y248.2.2.1.length c254], .int .i64 y248.2.2.2]) (pu_move rfl) ?_
          refine mixE.pure (v := .agg #[.int .i64 y248.1, .int .i64 y248.2.1, .slice A252 y248.2.2.1.length c254]) (pu_extract rfl rfl) ?_
          refine mixE.pure (v := .int .i64 y248.2.2.2) (pu_extract rfl rfl) ?_
          refine mixE.sk hD (hC.seta (i := 3) (ds := [.int .i64 y248.1, .int .i64 y248.2.1, .slice A252 y248.2.2.1.length c254]) rfl Try.type28 rfl rfl rfl rfl rfl) ?_
          rintro w260 ⟨hC, hF⟩
          replace hD := hD.besideG hUf232 hF
          clear hF
          refine ⟨hD, ?_⟩
          refine mixE.pure (v := .int .i64 y248.2.2.2) (pu_assign rfl) ?_
          refine mixE.nil ?_
          clear hS hM
          clear hD
          refine hK107 _ _ ?_
          refine Wc.fresh fun E261 hE => ?_
          have e2 : E261 2 = .bool false := (congrFun hE 2).trans e2
          have e4 : E261 4 = .pointer (some ⟨g67, 0, none⟩) := (congrFun hE 4).trans e4
          have e5 : E261 5 = .int .i64 y55.2.2.2 := (congrFun hE 5).trans e5
          have e6 : E261 6 = .pointer (some ⟨g102, 0, none⟩) := (congrFun hE 6).trans e6
          have e7 : E261 7 = .int .i64 y90.2.2.2 := (congrFun hE 7).trans e7
          have e8 : E261 8 = .pointer (some ⟨g230, 0, none⟩) := (congrFun hE 8).trans rfl
          have e9 : E261 9 = .int .i64 y248.2.2.2 := (congrFun hE 9).trans rfl
          clear hE
          refine Wc.seq fun K262 hK262 => ?_
          refine Wc.region (by decide +kernel) ?_
          refine lex.pure (v := .pointer (some ((⟨g67, 0, none⟩ : Addr).add 1))) (pu_field (sz := 1) Try.underlying28 rfl Try.sizeOf3 (by decide) rfl e4) ?_
          refine lex.val (v := .int .i64 y55.2.1) (ld_fld (hC.bx (i := 8) rfl) Try.isAgg3 rfl rfl) ?_
          obtain ⟨z263, h264, hb⟩ := bd hb
          refine lex.pure (v := .int .i64 z263) (pu_addc (a := y55.2.1) (b := 2) rfl rfl h264) ?_
          refine lex.pure (v := .pointer (some ((⟨g67, 0, none⟩ : Addr).add 1))) (pu_field (sz := 1) Try.underlying28 rfl Try.sizeOf3 (by decide) rfl e4) ?_
          refine lex.sk (hC.setf (i := 8) (k := 1) (v := .int .i64 z263) rfl Try.sizeOf3 rfl rfl rfl rfl) ?_
          rintro w265 ⟨hC, hF⟩
          refine lex.nil ?_
          refine hK262 _ _ ?_
          refine Wc.seq fun K266 hK266 => ?_
          refine Wc.region (by decide +kernel) ?_
          refine lex.pure (v := .int .i64 y55.2.2.2) (pu_move e5) ?_
          refine lex.pure (v := .bool (decide (y55.2.2.2 = 0))) (pu_eql (k := .i64) (a := y55.2.2.2) (b := 0) rfl rfl) ?_
          refine lex.pure (v := .bool (decide (y55.2.2.2 = 0))) (pu_move rfl) ?_
          rcases bS (decide (y55.2.2.2 = 0)) with hq267 | hq267
          ·
           replace hb := (cT hq267).symm.trans hb
           refine lex.gpure (want_t rfl rfl (show _ = Value.bool (decide (y55.2.2.2 = 0)) from rfl) hq267) (v := .int .i64 y90.2.2.2) (pu_move e7) ?_
           refine lex.gpure (want_t rfl rfl (show _ = Value.bool (decide (y55.2.2.2 = 0)) from rfl) hq267) (v := .bool (decide (y90.2.2.2 = 0))) (pu_eql (k := .i64) (a := y90.2.2.2) (b := 0) rfl rfl) ?_
           refine lex.pure (v := .bool (decide (y90.2.2.2 = 0))) (pu_pickT (q := (decide (y55.2.2.2 = 0))) rfl hq267 rfl) ?_
           refine lex.pure (v := .bool (decide (y90.2.2.2 = 0))) (pu_move rfl) ?_
           rcases bS (decide (y90.2.2.2 = 0)) with hq268 | hq268
           ·
            replace hb := (cT hq268).symm.trans hb
            refine lex.gpure (want_t rfl rfl (show _ = Value.bool (decide (y90.2.2.2 = 0)) from rfl) hq268) (v := .int .i64 y248.2.2.2) (pu_move e9) ?_
            refine lex.gpure (want_t rfl rfl (show _ = Value.bool (decide (y90.2.2.2 = 0)) from rfl) hq268) (v := .bool (decide (y248.2.2.2 = 0))) (pu_eql (k := .i64) (a := y248.2.2.2) (b := 0) rfl rfl) ?_
            refine lex.pure (v := .bool (decide (y248.2.2.2 = 0))) (pu_pickT (q := (decide (y90.2.2.2 = 0))) rfl hq268 rfl) ?_
            refine lex.pure (v := .bool (decide (y248.2.2.2 = 0))) (pu_move rfl) ?_
            rcases bS (decide (y248.2.2.2 = 0)) with hq269 | hq269
            ·
             replace hb := (cT hq269).symm.trans hb
             refine lex.gval (want_t rfl rfl (show _ = Value.bool (decide (y248.2.2.2 = 0)) from rfl) hq269) (v := .agg #[.int .i64 y90.1, .int .i64 y90.2.1, .slice A94 y90.2.2.1.length c96]) (ld_blk (hC.bx (i := 4) rfl) Try.isAgg28 Try.sizeOf28 e6) ?_
             refine lex.gval (want_t rfl rfl (show _ = Value.bool (decide (y248.2.2.2 = 0)) from rfl) hq269) (v := .agg #[.int .i64 y55.1, .int .i64 z263, .slice A59 y55.2.2.1.length c61]) (ld_blk (hC.bx (i := 8) rfl) Try.isAgg28 Try.sizeOf28 e4) ?_
             obtain ⟨y270, h271, hb⟩ := bd hb
             refine lex.gcl (want_t rfl rfl (show _ = Value.bool (decide (y248.2.2.2 = 0)) from rfl) hq269) (⟨_, _, op_call (vs := [.agg #[.int .i64 y90.1, .int .i64 y90.2.1, .slice A94 y90.2.2.1.length c96], .agg #[.int .i64 y55.1, .int .i64 z263, .slice A59 y55.2.2.1.length c61]]) Try.call23 rfl rfl rfl, law34_equal_ok n hC.lt hr92 hr93 (hC.rd (i := 5) rfl) hr57 (chk_rng h264) (hC.rd (i := 9) rfl) h271⟩) ?_
             rintro _ w272 ⟨rfl, hK⟩
             replace hC := hC.merge hK
             clear hK
             refine lex.pure (v := .bool y270) (pu_pickT (q := (decide (y248.2.2.2 = 0))) rfl hq269 rfl) ?_
             refine lex.pure (v := .bool y270) (pu_move rfl) ?_
             rcases bS y270 with hq273 | hq273
             ·
              replace hb := (cT hq273).symm.trans hb
              refine lex.gval (want_t rfl rfl (show _ = Value.bool y270 from rfl) hq273) (v := .agg #[.int .i64 y248.1, .int .i64 y248.2.1, .slice A252 y248.2.2.1.length c254]) (ld_blk (hC.bx (i := 3) rfl) Try.isAgg28 Try.sizeOf28 e8) ?_
              refine lex.gval (want_t rfl rfl (show _ = Value.bool y270 from rfl) hq273) (v := .agg #[.int .i64 y55.1, .int .i64 z263, .slice A59 y55.2.2.1.length c61]) (ld_blk (hC.bx (i := 8) rfl) Try.isAgg28 Try.sizeOf28 e4) ?_
              obtain ⟨y274, h275, hb⟩ := bd hb
              refine lex.gcl (want_t rfl rfl (show _ = Value.bool y270 from rfl) hq273) (⟨_, _, op_call (vs := [.agg #[.int .i64 y248.1, .int .i64 y248.2.1, .slice A252 y248.2.2.1.length c254], .agg #[.int .i64 y55.1, .int .i64 z263, .slice A59 y55.2.2.1.length c61]]) Try.call23 rfl rfl rfl, law34_equal_ok n hC.lt hr250 hr251 (hC.rd (i := 0) rfl) hr57 (chk_rng h264) (hC.rd (i := 9) rfl) h275⟩) ?_
              rintro _ w276 ⟨rfl, hK⟩
              replace hC := hC.merge hK
              clear hK
              refine lex.pure (v := .bool y274) (pu_pickT (q := y270) rfl hq273 rfl) ?_
              refine lex.pure (v := .bool y274) (pu_assign rfl) ?_
              refine lex.nil ?_
              refine hK266 _ _ ?_
              obtain rfl := Option.some.inj hb
              refine Wc.ret ?_
              refine hKR _ _ ?_
              refine ⟨_, res1 Try.results5 (show RV _ _ _ (.tmp _) (.bool y274) from rfl), _, rfl, rfl, hC.sel [] (by decide)⟩
             ·
              replace hb := (cF hq273).symm.trans hb
              refine lex.gskip (want_f rfl rfl (show _ = Value.bool y270 from rfl) hq273) ?_
              refine lex.gskip (want_f rfl rfl (show _ = Value.bool y270 from rfl) hq273) ?_
              refine lex.gskip (want_f rfl rfl (show _ = Value.bool y270 from rfl) hq273) ?_
              refine lex.pure (v := .bool false) (pu_pickF (q := y270) rfl hq273 rfl) ?_
              refine lex.pure (v := .bool false) (pu_assign rfl) ?_
              refine lex.nil ?_
              refine hK266 _ _ ?_
              obtain rfl := Option.some.inj hb
              refine Wc.ret ?_
              refine hKR _ _ ?_
              refine ⟨_, res1 Try.results5 (show RV _ _ _ (.tmp _) (.bool false) from rfl), _, rfl, rfl, hC.sel [] (by decide)⟩
            ·
             replace hb := (cF hq269).symm.trans hb
             refine lex.gskip (want_f rfl rfl (show _ = Value.bool (decide (y248.2.2.2 = 0)) from rfl) hq269) ?_
             refine lex.gskip (want_f rfl rfl (show _ = Value.bool (decide (y248.2.2.2 = 0)) from rfl) hq269) ?_
             refine lex.gskip (want_f rfl rfl (show _ = Value.bool (decide (y248.2.2.2 = 0)) from rfl) hq269) ?_
             refine lex.pure (v := .bool false) (pu_pickF (q := (decide (y248.2.2.2 = 0))) rfl hq269 rfl) ?_
             refine lex.pure (v := .bool false) (pu_move rfl) ?_
             refine lex.gskip (want_f rfl rfl (show _ = Value.bool false from rfl) rfl) ?_
             refine lex.gskip (want_f rfl rfl (show _ = Value.bool false from rfl) rfl) ?_
             refine lex.gskip (want_f rfl rfl (show _ = Value.bool false from rfl) rfl) ?_
             refine lex.pure (v := .bool false) (pu_pickF (q := false) rfl rfl rfl) ?_
             refine lex.pure (v := .bool false) (pu_assign rfl) ?_
             refine lex.nil ?_
             refine hK266 _ _ ?_
             obtain rfl := Option.some.inj hb
             refine Wc.ret ?_
             refine hKR _ _ ?_
             refine ⟨_, res1 Try.results5 (show RV _ _ _ (.tmp _) (.bool false) from rfl), _, rfl, rfl, hC.sel [] (by decide)⟩
           ·
            replace hb := (cF hq268).symm.trans hb
            refine lex.gskip (want_f rfl rfl (show _ = Value.bool (decide (y90.2.2.2 = 0)) from rfl) hq268) ?_
            refine lex.gskip (want_f rfl rfl (show _ = Value.bool (decide (y90.2.2.2 = 0)) from rfl) hq268) ?_
            refine lex.pure (v := .bool false) (pu_pickF (q := (decide (y90.2.2.2 = 0))) rfl hq268 rfl) ?_
            refine lex.pure (v := .bool false) (pu_move rfl) ?_
            refine lex.gskip (want_f rfl rfl (show _ = Value.bool false from rfl) rfl) ?_
            refine lex.gskip (want_f rfl rfl (show _ = Value.bool false from rfl) rfl) ?_
            refine lex.gskip (want_f rfl rfl (show _ = Value.bool false from rfl) rfl) ?_
            refine lex.pure (v := .bool false) (pu_pickF (q := false) rfl rfl rfl) ?_
            refine lex.pure (v := .bool false) (pu_move rfl) ?_
            refine lex.gskip (want_f rfl rfl (show _ = Value.bool false from rfl) rfl) ?_
            refine lex.gskip (want_f rfl rfl (show _ = Value.bool false from rfl) rfl) ?_
            refine lex.gskip (want_f rfl rfl (show _ = Value.bool false from rfl) rfl) ?_
            refine lex.pure (v := .bool false) (pu_pickF (q := false) rfl rfl rfl) ?_
            refine lex.pure (v := .bool false) (pu_assign rfl) ?_
            refine lex.nil ?_
            refine hK266 _ _ ?_
            obtain rfl := Option.some.inj hb
            refine Wc.ret ?_
            refine hKR _ _ ?_
            refine ⟨_, res1 Try.results5 (show RV _ _ _ (.tmp _) (.bool false) from rfl), _, rfl, rfl, hC.sel [] (by decide)⟩
          ·
           replace hb := (cF hq267).symm.trans hb
           refine lex.gskip (want_f rfl rfl (show _ = Value.bool (decide (y55.2.2.2 = 0)) from rfl) hq267) ?_
           refine lex.gskip (want_f rfl rfl (show _ = Value.bool (decide (y55.2.2.2 = 0)) from rfl) hq267) ?_
           refine lex.pure (v := .bool false) (pu_pickF (q := (decide (y55.2.2.2 = 0))) rfl hq267 rfl) ?_
           refine lex.pure (v := .bool false) (pu_move rfl) ?_
           refine lex.gskip (want_f rfl rfl (show _ = Value.bool false from rfl) rfl) ?_
           refine lex.gskip (want_f rfl rfl (show _ = Value.bool false from rfl) rfl) ?_
           refine lex.pure (v := .bool false) (pu_pickF (q := false) rfl rfl rfl) ?_
           refine lex.pure (v := .bool false) (pu_move rfl) ?_
           refine lex.gskip (want_f rfl rfl (show _ = Value.bool false from rfl) rfl) ?_
           refine lex.gskip (want_f rfl rfl (show _ = Value.bool false from rfl) rfl) ?_
           refine lex.gskip (want_f rfl rfl (show _ = Value.bool false from rfl) rfl) ?_
           refine lex.pure (v := .bool false) (pu_pickF (q := false) rfl rfl rfl) ?_
           refine lex.pure (v := .bool false) (pu_move rfl) ?_
           refine lex.gskip (want_f rfl rfl (show _ = Value.bool false from rfl) rfl) ?_
           refine lex.gskip (want_f rfl rfl (show _ = Value.bool false from rfl) rfl) ?_
           refine lex.gskip (want_f rfl rfl (show _ = Value.bool false from rfl) rfl) ?_
           refine lex.pure (v := .bool false) (pu_pickF (q := false) rfl rfl rfl) ?_
           refine lex.pure (v := .bool false) (pu_assign rfl) ?_
           refine lex.nil ?_
           refine hK266 _ _ ?_
           obtain rfl := Option.some.inj hb
           refine Wc.ret ?_
           refine hKR _ _ ?_
           refine ⟨_, res1 Try.results5 (show RV _ _ _ (.tmp _) (.bool false) from rfl), _, rfl, rfl, hC.sel [] (by decide)⟩
        ·
         skip
         refine mixPE_chain ?_
         refine mixE.op hM (hC.alloc (cs := [.int .i64 0, .int .i64 0, .slice none 0 0]) Try.zeroValue28 rfl) ?_
         rintro _ w278 ⟨g277, rfl, hC, hF, hG⟩
         have hUf279 : g277 < w74.heap.size → g277 ∈ blocks (([] : List Fact) ++ ([] : List Fact)) := fun h => absurd (Nat.lt_of_lt_of_le h (Nat.le_trans hM.size hG)) (Nat.lt_irrefl _)
         clear hG
         replace hM := hM.none hF
         replace hD := hM.wide (H := ([] : List Fact))
         refine ⟨hM, ?_⟩
         refine mixE.nil ?_
         refine mixPE_chain ?_
         replace hC := hC.freeze (i := 1) rfl (hC.own_new (i := 1) rfl)
         obtain ⟨y280, h281, hb⟩ := bd hb
         refine mixE.cl hM (⟨_, _, op_call (vs := [.agg #[.int .i64 b_0_0, .slice A83 y81.length c85]]) Try.call13 rfl rfl rfl, garside_Form_ok n hC.lt hb_0_0 (hC.rd (i := 1) rfl) h281⟩) ?_
         rintro _ w289 ⟨A284, m285, c286, rfl, hr282, hr283, hr288, hK⟩
         replace hM := hM.none hK.fr
         replace hD := hM.wide (H := ([] : List Fact))
         refine ⟨hM, ?_⟩
         replace hC := hC.merge hK
         clear hK
         obtain ⟨rfl, hl290, hc291⟩ := (hC.rd (i := 0) rfl).sl_len
         refine mixE.pure (v := .tuple #[.agg #[.int .i64 y280.1, .int .i64 y280.2.1, .slice A284 y280.2.2.1.length c286], .int .i64 y280.2.2.2]) (pu_move rfl) ?_
         refine mixE.pure (v := .agg #[.int .i64 y280.1, .int .i64 y280.2.1, .slice A284 y280.2.2.1.length c286]) (pu_extract rfl rfl) ?_
         refine mixE.pure (v := .int .i64 y280.2.2.2) (pu_extract rfl rfl) ?_
         refine mixE.sk hD (hC.seta (i := 1) (ds := [.int .i64 y280.1, .int .i64 y280.2.1, .slice A284 y280.2.2.1.length c286]) rfl Try.type28 rfl rfl rfl rfl rfl) ?_
         rintro w292 ⟨hC, hF⟩
         replace hD := hD.besideG hUf279 hF
         clear hF
         refine ⟨hD, ?_⟩
         refine mixE.pure (v := .int .i64 y280.2.2.2) (pu_assign rfl) ?_
         refine mixE.nil ?_
         clear hS hM
         clear hD
         refine hK72 _ _ ?_
         refine Wc.fresh fun E293 hE => ?_
         have e1 : E293 1 = .pointer (some ⟨g3, 0, none⟩) := (congrFun hE 1).trans e1
         have e2 : E293 2 = .bool false := (congrFun hE 2).trans e2
         have e3 : E293 3 = .slice A47 y45.length c49 := (congrFun hE 3).trans e3
         have e4 : E293 4 = .pointer (some ⟨g67, 0, none⟩) := (congrFun hE 4).trans e4
         have e5 : E293 5 = .int .i64 y55.2.2.2 := (congrFun hE 5).trans e5
         have e6 : E293 6 = .pointer (some ⟨g277, 0, none⟩) := (congrFun hE 6).trans rfl
         have e7 : E293 7 = .int .i64 y280.2.2.2 := (congrFun hE 7).trans rfl
         clear hE
         refine Wc.seq fun K294 hK294 => ?_
         refine Wc.regionPlan [56, 58] (frm [56, 58] ([] : List Fact) ([] : List Fact)) (chainP [0, 1, 2, 3, 4] (.alt (chainP [5] (.alt (chainP [6] (chainP [7] (.alt (chainP [8] (chainP [9, 10, 11, 12, 13, 14] .done)) (chainP [12] (chainP [8, 9, 10, 11, 13, 14] .done))))) (chainP [12] (chainP [6, 7, 8, 9, 10, 11, 13, 14] .done)))) (chainP [12] (chainP [5, 6, 7, 8, 9, 10, 11, 13, 14] .done)))) (fun _ => rfl) mixed (by decide +kernel) (by decide +kernel) fun w296 hw295 => ?_
         replace hC := hC.step (Fr.of_drew hw295)
         have hM := Fr.refl (fun k => k ∈ blocks ([] : List Fact)) w296
         clear hw295
         have hS := hC
         have hD : Fr (fun k => k ∈ blocks (([] : List Fact) ++ ([] : List Fact))) w296 w296 := hM.wide
         refine mixPE_chain ?_
         refine mixE.pure (v := .pointer (some ((⟨g3, 0, none⟩ : Addr).add 0))) (pu_field (sz := 1) Try.underlying24 rfl Try.sizeOf3 (by decide) rfl e1) ?_
         refine mixE.steady hD (v := .int .i64 b_0_0) (fun _ hF => ld_fld (hS.bx2 (i := 7) rfl [] (by decide) hF) Try.isAgg3 rfl rfl) ?_
         refine mixE.pure (v := .pointer (some ((⟨g3, 0, none⟩ : Addr).add 1))) (pu_field (sz := 1) Try.underlying24 rfl Try.sizeOf22 (by decide) rfl e1) ?_
         refine mixE.steady hD (v := .slice Ab_0_1 b_0_1.length cb_0_1) (fun _ hF => ld_fld (hS.bx2 (i := 7) rfl [] (by decide) hF) Try.isAgg22 rfl rfl) ?_
         refine mixE.pure (v := .slice A47 y45.length c49) (pu_move e3) ?_
         refine mixE.nil ?_
         refine mixPE_alt ?_ ?_
         ·
          skip
          refine mixPE_chain ?_
          refine mixE.op hM (hC.lit (s := (.sl (.int .i64))) (vs := [.slice Ab_0_1 b_0_1.length cb_0_1, .slice A47 y45.length c49]) (xs := [b_0_1, y45]) Try.underlying35 Try.type22 rfl rfl (Nat.le_of_ble_eq_true rfl) rfl rfl (by simp [Value.cells, Sh.n]) rfl (show Elems _ _ (.sl (.int .i64)) ([.slice Ab_0_1 b_0_1.length cb_0_1] ++ ([.slice A47 y45.length c49] ++ ([]))) ([b_0_1, y45] : List (List Int)) from Elems.cons (hC.rd (i := 8) rfl) (Elems.cons (hC.rd (i := 6) rfl) (Elems.nil _ _ _)))) ?_
          rintro _ w301 ⟨A297, c298, rfl, hl299, hc300, hC, hF, hN⟩
          have hBf302 := Beside.new hM hN
          have hUf302 := Beside.new (hM.wide (H := ([] : List Fact))) hN
          replace hM := hM.none hF
          replace hD := hM.wide (H := ([] : List Fact))
          refine ⟨hM, ?_⟩
          clear hF hN
          refine mixE.nil ?_
          refine mixPE_alt ?_ ?_
          ·
           skip
           refine mixPE_chain ?_
           obtain ⟨y303, h304, hb⟩ := bd hb
           refine mixE.cl hM (⟨_, _, op_call (vs := [.slice A297 ((([b_0_1, y45] : List (List Int))).length) c298]) Try.call22 rfl rfl rfl, slices_Concat_Lint_int_ok n (hC.lentLt [.slice A297 ((([b_0_1, y45] : List (List Int))).length) c298]) ((hC.ow (i := 0) rfl).lend (vs := [.slice A297 ((([b_0_1, y45] : List (List Int))).length) c298]) (by simp)) h304⟩) ?_
           rintro _ w309 ⟨A305, m306, c307, rfl, hK⟩
           replace hM := hM.none hK.fr
           replace hD := hM.wide (H := ([] : List Fact))
           refine ⟨hM, ?_⟩
           replace hC := hC.mergeF hK rfl
           clear hK
           obtain ⟨rfl, hl310, hc311⟩ := (hC.ow (i := 0) rfl).sl_len
           refine mixE.nil ?_
           refine mixPE_chain ?_
           refine mixE.pure (v := .agg #[.int .i64 b_0_0, .slice A305 y303.length c307]) (pu_builds (places := [(0, 1), (1, 1)]) (pv := [(0, .int .i64 b_0_0), (1, .slice A305 y303.length c307)]) Try.type24 Try.underlying24 rfl (mp_cons Try.type3 (mp_cons Try.type22 mp_nil rfl rfl) rfl rfl) rfl (by simp [Instr.fill, Value.cells])) ?_
           refine mixE.nil ?_
           refine mixPE_alt ?_ ?_
           ·
            skip
            refine mixPE_chain ?_
            replace hC := hC.freeze (i := 0) rfl (hC.own_new (i := 0) rfl)
            obtain ⟨y312, h313, hb⟩ := bd hb
            refine mixE.cl hM (⟨_, _, op_call (vs := [.agg #[.int .i64 b_0_0, .slice A305 y303.length c307]]) Try.call13 rfl rfl rfl, garside_Form_ok n hC.lt hb_0_0 (hC.rd (i := 0) rfl) h313⟩) ?_
            rintro _ w321 ⟨A316, m317, c318, rfl, hr314, hr315, hr320, hK⟩
            replace hM := hM.none hK.fr
            replace hD := hM.wide (H := ([] : List Fact))
            refine ⟨hM, ?_⟩
            replace hC := hC.merge hK
            clear hK
            obtain ⟨rfl, hl322, hc323⟩ := (hC.rd (i := 0) rfl).sl_len
            refine mixE.nil ?_
            refine mixPE_chain ?_
            refine mixE.pure (v := .tuple #[.agg #[.int .i64 y312.1, .int .i64 y312.2.1, .slice A316 y312.2.2.1.length c318], .int .i64 y312.2.2.2]) (pu_move rfl) ?_
            refine mixE.pure (v := .agg #[.int .i64 y312.1, .int .i64 y312.2.1, .slice A316 y312.2.2.1.length c318]) (pu_extract rfl rfl) ?_
            refine mixE.pure (v := .int .i64 y312.2.2.2) (pu_extract rfl rfl) ?_
            refine mixE.op hM (hC.alloc (cs := [.int .i64 0, .int .i64 0, .slice none 0 0]) Try.zeroValue28 rfl) ?_
            rintro _ w325 ⟨g324, rfl, hC, hF, hG⟩
            have hUf326 : g324 < w296.heap.size → g324 ∈ blocks (([] : List Fact) ++ ([] : List Fact)) := fun h => absurd (Nat.lt_of_lt_of_le h (Nat.le_trans hM.size hG)) (Nat.lt_irrefl _)
            clear hG
            replace hM := hM.none hF
            replace hD := hM.wide (H := ([] : List Fact))
            refine ⟨hM, ?_⟩
            refine mixE.sk hD (hC.seta (i := 0) (ds := [.int .i64 y312.1, .int .i64 y312.2.1, .slice A316 y312.2.2.1.length c318]) rfl Try.type28 rfl rfl rfl rfl rfl) ?_
            rintro w327 ⟨hC, hF⟩
            replace hD := hD.besideG hUf326 hF
            clear hF
            refine ⟨hD, ?_⟩
            refine mixE.pure (v := .int .i64 y312.2.2.2) (pu_assign rfl) ?_
            refine mixE.nil ?_
            clear hS hM
            clear hD
            refine hK294 _ _ ?_
            refine Wc.fresh fun E328 hE => ?_
            have e2 : E328 2 = .bool false := (congrFun hE 2).trans e2
            have e4 : E328 4 = .pointer (some ⟨g67, 0, none⟩) := (congrFun hE 4).trans e4
            have e5 : E328 5 = .int .i64 y55.2.2.2 := (congrFun hE 5).trans e5
            have e6 : E328 6 = .pointer (some ⟨g277, 0, none⟩) := (congrFun hE 6).trans e6
            have e7 : E328 7 = .int .i64 y280.2.2.2 := (congrFun hE 7).trans e7
            have e8 : E328 8 = .pointer (some ⟨g324, 0, none⟩) := (congrFun hE 8).trans rfl
            have e9 : E328 9 = .int .i64 y312.2.2.2 := (congrFun hE 9).trans rfl
            clear hE
            refine Wc.seq fun K329 hK329 => ?_
            refine Wc.region (by decide +kernel) ?_
            refine lex.pure (v := .pointer (some ((⟨g67, 0, none⟩ : Addr).add 1))) (pu_field (sz := 1) Try.underlying28 rfl Try.sizeOf3 (by decide) rfl e4) ?_
            refine lex.val (v := .int .i64 y55.2.1) (ld_fld (hC.bx (i := 8) rfl) Try.isAgg3 rfl rfl) ?_
            obtain ⟨z330, h331, hb⟩ := bd hb
            refine lex.pure (v := .int .i64 z330) (pu_addc (a := y55.2.1) (b := 2) rfl rfl h331) ?_
            refine lex.pure (v := .pointer (some ((⟨g67, 0, none⟩ : Addr).add 1))) (pu_field (sz := 1) Try.underlying28 rfl Try.sizeOf3 (by decide) rfl e4) ?_
            refine lex.sk (hC.setf (i := 8) (k := 1) (v := .int .i64 z330) rfl Try.sizeOf3 rfl rfl rfl rfl) ?_
            rintro w332 ⟨hC, hF⟩
            refine lex.nil ?_
            refine hK329 _ _ ?_
            refine Wc.seq fun K333 hK333 => ?_
            refine Wc.region (by decide +kernel) ?_
            refine lex.pure (v := .int .i64 y55.2.2.2) (pu_move e5) ?_
            refine lex.pure (v := .bool (decide (y55.2.2.2 = 0))) (pu_eql (k := .i64) (a := y55.2.2.2) (b := 0) rfl rfl) ?_
            refine lex.pure (v := .bool (decide (y55.2.2.2 = 0))) (pu_move rfl) ?_
            rcases bS (decide (y55.2.2.2 = 0)) with hq334 | hq334
            ·
             replace hb := (cT hq334).symm.trans hb
             refine lex.gpure (want_t rfl rfl (show _ = Value.bool (decide (y55.2.2.2 = 0)) from rfl) hq334) (v := .int .i64 y280.2.2.2) (pu_move e7) ?_
             refine lex.gpure (want_t rfl rfl (show _ = Value.bool (decide (y55.2.2.2 = 0)) from rfl) hq334) (v := .bool (decide (y280.2.2.2 = 0))) (pu_eql (k := .i64) (a := y280.2.2.2) (b := 0) rfl rfl) ?_
             refine lex.pure (v := .bool (decide (y280.2.2.2 = 0))) (pu_pickT (q := (decide (y55.2.2.2 = 0))) rfl hq334 rfl) ?_
             refine lex.pure (v := .bool (decide (y280.2.2.2 = 0))) (pu_move rfl) ?_
             rcases bS (decide (y280.2.2.2 = 0)) with hq335 | hq335
             ·
              replace hb := (cT hq335).symm.trans hb
              refine lex.gpure (want_t rfl rfl (show _ = Value.bool (decide (y280.2.2.2 = 0)) from rfl) hq335) (v := .int .i64 y312.2.2.2) (pu_move e9) ?_
              refine lex.gpure (want_t rfl rfl (show _ = Value.bool (decide (y280.2.2.2 = 0)) from rfl) hq335) (v := .bool (decide (y312.2.2.2 = 0))) (pu_eql (k := .i64) (a := y312.2.2.2) (b := 0) rfl rfl) ?_
              refine lex.pure (v := .bool (decide (y312.2.2.2 = 0))) (pu_pickT (q := (decide (y280.2.2.2 = 0))) rfl hq335 rfl) ?_
              refine lex.pure (v := .bool (decide (y312.2.2.2 = 0))) (pu_move rfl) ?_
              rcases bS (decide (y312.2.2.2 = 0)) with hq336 | hq336
              ·
               replace hb := (cT hq336).symm.trans hb
               refine lex.gval (want_t rfl rfl (show _ = Value.bool (decide (y312.2.2.2 = 0)) from rfl) hq336) (v := .agg #[.int .i64 y280.1, .int .i64 y280.2.1, .slice A284 y280.2.2.1.length c286]) (ld_blk (hC.bx (i := 5) rfl) Try.isAgg28 Try.sizeOf28 e6) ?_
               refine lex.gval (want_t rfl rfl (show _ = Value.bool (decide (y312.2.2.2 = 0)) from rfl) hq336) (v := .agg #[.int .i64 y55.1, .int .i64 z330, .slice A59 y55.2.2.1.length c61]) (ld_blk (hC.bx (i := 8) rfl) Try.isAgg28 Try.sizeOf28 e4) ?_
               obtain ⟨y337, h338, hb⟩ := bd hb
               refine lex.gcl (want_t rfl rfl (show _ = Value.bool (decide (y312.2.2.2 = 0)) from rfl) hq336) (⟨_, _, op_call (vs := [.agg #[.int .i64 y280.1, .int .i64 y280.2.1, .slice A284 y280.2.2.1.length c286], .agg #[.int .i64 y55.1, .int .i64 z330, .slice A59 y55.2.2.1.length c61]]) Try.call23 rfl rfl rfl, law34_equal_ok n hC.lt hr282 hr283 (hC.rd (i := 4) rfl) hr57 (chk_rng h331) (hC.rd (i := 9) rfl) h338⟩) ?_
               rintro _ w339 ⟨rfl, hK⟩
               replace hC := hC.merge hK
               clear hK
               refine lex.pure (v := .bool y337) (pu_pickT (q := (decide (y312.2.2.2 = 0))) rfl hq336 rfl) ?_
               refine lex.pure (v := .bool y337) (pu_move rfl) ?_
               rcases bS y337 with hq340 | hq340
               ·
                replace hb := (cT hq340).symm.trans hb
                refine lex.gval (want_t rfl rfl (show _ = Value.bool y337 from rfl) hq340) (v := .agg #[.int .i64 y312.1, .int .i64 y312.2.1, .slice A316 y312.2.2.1.length c318]) (ld_blk (hC.bx (i := 0) rfl) Try.isAgg28 Try.sizeOf28 e8) ?_
                refine lex.gval (want_t rfl rfl (show _ = Value.bool y337 from rfl) hq340) (v := .agg #[.int .i64 y55.1, .int .i64 z330, .slice A59 y55.2.2.1.length c61]) (ld_blk (hC.bx (i := 8) rfl) Try.isAgg28 Try.sizeOf28 e4) ?_
                obtain ⟨y341, h342, hb⟩ := bd hb
                refine lex.gcl (want_t rfl rfl (show _ = Value.bool y337 from rfl) hq340) (⟨_, _, op_call (vs := [.agg #[.int .i64 y312.1, .int .i64 y312.2.1, .slice A316 y312.2.2.1.length c318], .agg #[.int .i64 y55.1, .int .i64 z330, .slice A59 y55.2.2.1.length c61]]) Try.call23 rfl rfl rfl, law34_equal_ok n hC.lt hr314 hr315 (hC.rd (i := 1) rfl) hr57 (chk_rng h331) (hC.rd (i := 9) rfl) h342⟩) ?_
                rintro _ w343 ⟨rfl, hK⟩
                replace hC := hC.merge hK
                clear hK
                refine lex.pure (v := .bool y341) (pu_pickT (q := y337) rfl hq340 rfl) ?_
                refine lex.pure (v := .bool y341) (pu_assign rfl) ?_
                refine lex.nil ?_
                refine hK333 _ _ ?_
                obtain rfl := Option.some.inj hb
                refine Wc.ret ?_
                refine hKR _ _ ?_
                refine ⟨_, res1 Try.results5 (show RV _ _ _ (.tmp _) (.bool y341) from rfl), _, rfl, rfl, hC.sel [] (by decide)⟩
               ·
                replace hb := (cF hq340).symm.trans hb
                refine lex.gskip (want_f rfl rfl (show _ = Value.bool y337 from rfl) hq340) ?_
                refine lex.gskip (want_f rfl rfl (show _ = Value.bool y337 from rfl) hq340) ?_
                refine lex.gskip (want_f rfl rfl (show _ = Value.bool y337 from rfl) hq340) ?_
                refine lex.pure (v := .bool false) (pu_pickF (q := y337) rfl hq340 rfl) ?_
                refine lex.pure (v := .bool false) (pu_assign rfl) ?_
                refine lex.nil ?_
                refine hK333 _ _ ?_
                obtain rfl := Option.some.inj hb
                refine Wc.ret ?_
                refine hKR _ _ ?_
                refine ⟨_, res1 Try.results5 (show RV _ _ _ (.tmp _) (.bool false) from rfl), _, rfl, rfl, hC.sel [] (by decide)⟩
              ·
               replace hb := (cF hq336).symm.trans hb
               refine lex.gskip (want_f rfl rfl (show _ = Value.bool (decide (y312.2.2.2 = 0)) from rfl) hq336) ?_
               refine lex.gskip (want_f rfl rfl (show _ = Value.bool (decide (y312.2.2.2 = 0)) from rfl) hq336) ?_
               refine lex.gskip (want_f rfl rfl (show _ = Value.bool (decide (y312.2.2.2 = 0)) from rfl) hq336) ?_
               refine lex.pure (v := .bool false) (pu_pickF (q := (decide (y312.2.2.2 = 0))) rfl hq336 rfl) ?_
               refine lex.pure (v := .bool false) (pu_move rfl) ?_
               refine lex.gskip (want_f rfl rfl (show _ = Value.bool false from rfl) rfl) ?_
               refine lex.gskip (want_f rfl rfl (show _ = Value.bool false from rfl) rfl) ?_
               refine lex.gskip (want_f rfl rfl (show _ = Value.bool false from rfl) rfl) ?_
               refine lex.pure (v := .bool false) (pu_pickF (q := false) rfl rfl rfl) ?_
               refine lex.pure (v := .bool false) (pu_assign rfl) ?_
               refine lex.nil ?_
               refine hK333 _ _ ?_
               obtain rfl := Option.some.inj hb
               refine Wc.ret ?_
               refine hKR _ _ ?_
               refine ⟨_, res1 Try.results5 (show RV _ _ _ (.tmp _) (.bool false) from rfl), _, rfl, rfl, hC.sel [] (by decide)⟩
             ·
              replace hb := (cF hq335).symm.trans hb
              refine lex.gskip (want_f rfl rfl (show _ = Value.bool (decide (y280.2.2.2 = 0)) from rfl) hq335) ?_
              refine lex.gskip (want_f rfl rfl (show _ = Value.bool (decide (y280.2.2.2 = 0)) from rfl) hq335) ?_
              refine lex.pure (v := .bool false) (pu_pickF (q := (decide (y280.2.2.2 = 0))) rfl hq335 rfl) ?_
              refine lex.pure (v := .bool false) (pu_move rfl) ?_
              refine lex.gskip (want_f rfl rfl (show _ = Value.bool false from rfl) rfl) ?_
              refine lex.gskip (want_f rfl rfl (show _ = Value.bool false from rfl) rfl) ?_
              refine lex.gskip (want_f rfl rfl (show _ = Value.bool false from rfl) rfl) ?_
              refine lex.pure (v := .bool false) (pu_pickF (q := false) rfl rfl rfl) ?_
              refine lex.pure (v := .bool false) (pu_move rfl) ?_
              refine lex.gskip (want_f rfl rfl (show _ = Value.bool false from rfl) rfl) ?_
              refine lex.gskip (want_f rfl rfl (show _ = Value.bool false from rfl) rfl) ?_
              refine lex.gskip (want_f rfl rfl (show _ = Value.bool false from rfl) rfl) ?_
              refine lex.pure (v := .bool false) (pu_pickF (q := false) rfl rfl rfl) ?_
              refine lex.pure (v := .bool false) (pu_assign rfl) ?_
              refine lex.nil ?_
              refine hK333 _ _ ?_
              obtain rfl := Option.some.inj hb
              refine Wc.ret ?_
              refine hKR _ _ ?_
              refine ⟨_, res1 Try.results5 (show RV _ _ _ (.tmp _) (.bool false) from rfl), _, rfl, rfl, hC.sel [] (by decide)⟩
            ·
             replace hb := (cF hq334).symm.trans hb
             refine lex.gskip (want_f rfl rfl (show _ = Value.bool (decide (y55.2.2.2 = 0)) from rfl) hq334) ?_
             refine lex.gskip (want_f rfl rfl (show _ = Value.bool (decide (y55.2.2.2 = 0)) from rfl) hq334) ?_
             refine lex.pure (v := .bool false) (pu_pickF (q := (decide (y55.2.2.2 = 0))) rfl hq334 rfl) ?_
             refine lex.pure (v := .bool false) (pu_move rfl) ?_
             refine lex.gskip (want_f rfl rfl (show _ = Value.bool false from rfl) rfl) ?_
             refine lex.gskip (want_f rfl rfl (show _ = Value.bool false from rfl) rfl) ?_
             refine lex.pure (v := .bool false) (pu_pickF (q := false) rfl rfl rfl) ?_
             refine lex.pure (v := .bool false) (pu_move rfl) ?_
             refine lex.gskip (want_f rfl rfl (show _ = Value.bool false from rfl) rfl) ?_
             refine lex.gskip (want_f rfl rfl (show _ = Value.bool false from rfl) rfl) ?_
             refine lex.gskip (want_f rfl rfl (show _ = Value.bool false from rfl) rfl) ?_
             refine lex.pure (v := .bool false) (pu_pickF (q := false) rfl rfl rfl) ?_
             refine lex.pure (v := .bool false) (pu_move rfl) ?_
             refine lex.gskip (want_f rfl rfl (show _ = Value.bool false from rfl) rfl) ?_
             refine lex.gskip (want_f rfl rfl (show _ = Value.bool false from rfl) rfl) ?_
             refine lex.gskip (want_f rfl rfl (show _ = Value.bool false from rfl) rfl) ?_
             refine lex.pure (v := .bool false) (pu_pickF (q := false) rfl rfl rfl) ?_
             refine lex.pure (v := .bool false) (pu_assign rfl) ?_
             refine lex.nil ?_
             refine hK333 _ _ ?_
             obtain rfl := Option.some.inj hb
             refine Wc.ret ?_
             refine hKR _ _ ?_
             refine ⟨_, res1 Try.results5 (show RV _ _ _ (.tmp _) (.bool false) from rfl), _, rfl, rfl, hC.sel [] (by decide)⟩
           ·
            skip
            refine mixPE_chain ?_
            refine mixE.op hM (hC.alloc (cs := [.int .i64 0, .int .i64 0, .slice none 0 0]) Try.zeroValue28 rfl) ?_
            rintro _ w345 ⟨g344, rfl, hC, hF, hG⟩
            have hUf346 : g344 < w296.heap.size → g344 ∈ blocks (([] : List Fact) ++ ([] : List Fact)) := fun h => absurd (Nat.lt_of_lt_of_le h (Nat.le_trans hM.size hG)) (Nat.lt_irrefl _)
            clear hG
            replace hM := hM.none hF
            replace hD := hM.wide (H := ([] : List Fact))
            refine ⟨hM, ?_⟩
            refine mixE.nil ?_
            refine mixPE_chain ?_
            replace hC := hC.freeze (i := 1) rfl (hC.own_new (i := 1) rfl)
            obtain ⟨y347, h348, hb⟩ := bd hb
            refine mixE.cl hM (⟨_, _, op_call (vs := [.agg #[.int .i64 b_0_0, .slice A305 y303.length c307]]) Try.call13 rfl rfl rfl, garside_Form_ok n hC.lt hb_0_0 (hC.rd (i := 1) rfl) h348⟩) ?_
            rintro _ w356 ⟨A351, m352, c353, rfl, hr349, hr350, hr355, hK⟩
            replace hM := hM.none hK.fr
            replace hD := hM.wide (H := ([] : List Fact))
            refine ⟨hM, ?_⟩
            replace hC := hC.merge hK
            clear hK
            obtain ⟨rfl, hl357, hc358⟩ := (hC.rd (i := 0) rfl).sl_len
            refine mixE.pure (v := .tuple #[.agg #[.int .i64 y347.1, .int .i64 y347.2.1, .slice A351 y347.2.2.1.length c353], .int .i64 y347.2.2.2]) (pu_move rfl) ?_
            refine mixE.pure (v := .agg #[.int .i64 y347.1, .int .i64 y347.2.1, .slice A351 y347.2.2.1.length c353]) (pu_extract rfl rfl) ?_
            refine mixE.pure (v := .int .i64 y347.2.2.2) (pu_extract rfl rfl) ?_
            refine mixE.sk hD (hC.seta (i := 1) (ds := [.int .i64 y347.1, .int .i64 y347.2.1, .slice A351 y347.2.2.1.length c353]) rfl Try.type28 rfl rfl rfl rfl rfl) ?_
            rintro w359 ⟨hC, hF⟩
            replace hD := hD.besideG hUf346 hF
            clear hF
            refine ⟨hD, ?_⟩
            refine mixE.pure (v := .int .i64 y347.2.2.2) (pu_assign rfl) ?_
            refine mixE.nil ?_
            clear hS hM
            clear hD
            refine hK294 _ _ ?_
            refine Wc.fresh fun E360 hE => ?_
            have e2 : E360 2 = .bool false := (congrFun hE 2).trans e2
            have e4 : E360 4 = .pointer (some ⟨g67, 0, none⟩) := (congrFun hE 4).trans e4
            have e5 : E360 5 = .int .i64 y55.2.2.2 := (congrFun hE 5).trans e5
            have e6 : E360 6 = .pointer (some ⟨g277, 0, none⟩) := (congrFun hE 6).trans e6
            have e7 : E360 7 = .int .i64 y280.2.2.2 := (congrFun hE 7).trans e7
            have e8 : E360 8 = .pointer (some ⟨g344, 0, none⟩) := (congrFun hE 8).trans rfl
            have e9 : E360 9 = .int .i64 y347.2.2.2 := (congrFun hE 9).trans rfl
            clear hE
            refine Wc.seq fun K361 hK361 => ?_
            refine Wc.region (by decide +kernel) ?_
            refine lex.pure (v := .pointer (some ((⟨g67, 0, none⟩ : Addr).add 1))) (pu_field (sz := 1) Try.underlying28 rfl Try.sizeOf3 (by decide) rfl e4) ?_
            refine lex.val (v := .int .i64 y55.2.1) (ld_fld (hC.bx (i := 8) rfl) Try.isAgg3 rfl rfl) ?_
            obtain ⟨z362, h363, hb⟩ := bd hb
            refine lex.pure (v := .int .i64 z362) (pu_addc (a := y55.2.1) (b := 2) rfl rfl h363) ?_
            refine lex.pure (v := .pointer (some ((⟨g67, 0, none⟩ : Addr).add 1))) (pu_field (sz := 1) Try.underlying28 rfl Try.sizeOf3 (by decide) rfl e4) ?_
            refine lex.sk (hC.setf (i := 8) (k := 1) (v := .int .i64 z362) rfl Try.sizeOf3 rfl rfl rfl rfl) ?_
            rintro w364 ⟨hC, hF⟩
            refine lex.nil ?_
            refine hK361 _ _ ?_
            refine Wc.seq fun K365 hK365 => ?_
            refine Wc.region (by decide +kernel) ?_
            refine lex.pure (v := .int .i64 y55.2.2.2) (pu_move e5) ?_
            refine lex.pure (v := .bool (decide (y55.2.2.2 = 0))) (pu_eql (k := .i64) (a := y55.2.2.2) (b := 0) rfl rfl) ?_
            refine lex.pure (v := .bool (decide (y55.2.2.2 = 0))) (pu_move rfl) ?_
            rcases bS (decide (y55.2.2.2 = 0)) with hq366 | hq366
            ·
             replace hb := (cT hq366).symm.trans hb
             refine lex.gpure (want_t rfl rfl (show _ = Value.bool (decide (y55.2.2.2 = 0)) from rfl) hq366) (v := .int .i64 y280.2.2.2) (pu_move e7) ?_
             refine lex.gpure (want_t rfl rfl (show _ = Value.bool (decide (y55.2.2.2 = 0)) from rfl) hq366) (v := .bool (decide (y280.2.2.2 = 0))) (pu_eql (k := .i64) (a := y280.2.2.2) (b := 0) rfl rfl) ?_
             refine lex.pure (v := .bool (decide (y280.2.2.2 = 0))) (pu_pickT (q := (decide (y55.2.2.2 = 0))) rfl hq366 rfl) ?_
             refine lex.pure (v := .bool (decide (y280.2.2.2 = 0))) (pu_move rfl) ?_
             rcases bS (decide (y280.2.2.2 = 0)) with hq367 | hq367
             ·
              replace hb := (cT hq367).symm.trans hb
              refine lex.gpure (want_t rfl rfl (show _ = Value.bool (decide (y280.2.2.2 = 0)) from rfl) hq367) (v := .int .i64 y347.2.2.2) (pu_move e9) ?_
              refine lex.gpure (want_t rfl rfl (show _ = Value.bool (decide (y280.2.2.2 = 0)) from rfl) hq367) (v := .bool (decide (y347.2.2.2 = 0))) (pu_eql (k := .i64) (a := y347.2.2.2) (b := 0) rfl rfl) ?_
              refine lex.pure (v := .bool (decide (y347.2.2.2 = 0))) (pu_pickT (q := (decide (y280.2.2.2 = 0))) rfl hq367 rfl) ?_
              refine lex.pure (v := .bool (decide (y347.2.2.2 = 0))) (pu_move rfl) ?_
              rcases bS (decide (y347.2.2.2 = 0)) with hq368 | hq368
              ·
               replace hb := (cT hq368).symm.trans hb
               refine lex.gval (want_t rfl rfl (show _ = Value.bool (decide (y347.2.2.2 = 0)) from rfl) hq368) (v := .agg #[.int .i64 y280.1, .int .i64 y280.2.1, .slice A284 y280.2.2.1.length c286]) (ld_blk (hC.bx (i := 5) rfl) Try.isAgg28 Try.sizeOf28 e6) ?_
               refine lex.gval (want_t rfl rfl (show _ = Value.bool (decide (y347.2.2.2 = 0)) from rfl) hq368) (v := .agg #[.int .i64 y55.1, .int .i64 z362, .slice A59 y55.2.2.1.length c61]) (ld_blk (hC.bx (i := 8) rfl) Try.isAgg28 Try.sizeOf28 e4) ?_
               obtain ⟨y369, h370, hb⟩ := bd hb
               refine lex.gcl (want_t rfl rfl (show _ = Value.bool (decide (y347.2.2.2 = 0)) from rfl) hq368) (⟨_, _, op_call (vs := [.agg #[.int .i64 y280.1, .int .i64 y280.2.1, .slice A284 y280.2.2.1.length c286], .agg #[.int .i64 y55.1, .int .i64 z362, .slice A59 y55.2.2.1.length c61]]) Try.call23 rfl rfl rfl, law34_equal_ok n hC.lt hr282 hr283 (hC.rd (i := 4) rfl) hr57 (chk_rng h363) (hC.rd (i := 9) rfl) h370⟩) ?_
               rintro _ w371 ⟨rfl, hK⟩
               replace hC := hC.merge hK
               clear hK
               refine lex.pure (v := .bool y369) (pu_pickT (q := (decide (y347.2.2.2 = 0))) rfl hq368 rfl) ?_
               refine lex.pure (v := .bool y369) (pu_move rfl) ?_
               rcases bS y369 with hq372 | hq372
               ·
                replace hb := (cT hq372).symm.trans hb
                refine lex.gval (want_t rfl rfl (show _ = Value.bool y369 from rfl) hq372) (v := .agg #[.int .i64 y347.1, .int .i64 y347.2.1, .slice A351 y347.2.2.1.length c353]) (ld_blk (hC.bx (i := 1) rfl) Try.isAgg28 Try.sizeOf28 e8) ?_
                refine lex.gval (want_t rfl rfl (show _ = Value.bool y369 from rfl) hq372) (v := .agg #[.int .i64 y55.1, .int .i64 z362, .slice A59 y55.2.2.1.length c61]) (ld_blk (hC.bx (i := 8) rfl) Try.isAgg28 Try.sizeOf28 e4) ?_
                obtain ⟨y373, h374, hb⟩ := bd hb
                refine lex.gcl (want_t rfl rfl (show _ = Value.bool y369 from rfl) hq372) (⟨_, _, op_call (vs := [.agg #[.int .i64 y347.1, .int .i64 y347.2.1, .slice A351 y347.2.2.1.length c353], .agg #[.int .i64 y55.1, .int .i64 z362, .slice A59 y55.2.2.1.length c61]]) Try.call23 rfl rfl rfl, law34_equal_ok n hC.lt hr349 hr350 (hC.rd (i := 0) rfl) hr57 (chk_rng h363) (hC.rd (i := 9) rfl) h374⟩) ?_
                rintro _ w375 ⟨rfl, hK⟩
                replace hC := hC.merge hK
                clear hK
                refine lex.pure (v := .bool y373) (pu_pickT (q := y369) rfl hq372 rfl) ?_
                refine lex.pure (v := .bool y373) (pu_assign rfl) ?_
                refine lex.nil ?_
                refine hK365 _ _ ?_
                obtain rfl := Option.some.inj hb
                refine Wc.ret ?_
                refine hKR _ _ ?_
                refine ⟨_, res1 Try.results5 (show RV _ _ _ (.tmp _) (.bool y373) from rfl), _, rfl, rfl, hC.sel [] (by decide)⟩
               ·
                replace hb := (cF hq372).symm.trans hb
                refine lex.gskip (want_f rfl rfl (show _ = Value.bool y369 from rfl) hq372) ?_
                refine lex.gskip (want_f rfl rfl (show _ = Value.bool y369 from rfl) hq372) ?_
                refine lex.gskip (want_f rfl rfl (show _ = Value.bool y369 from rfl) hq372) ?_
                refine lex.pure (v := .bool false) (pu_pickF (q := y369) rfl hq372 rfl) ?_
                refine lex.pure (v := .bool false) (pu_assign rfl) ?_
                refine lex.nil ?_
                refine hK365 _ _ ?_
                obtain rfl := Option.some.inj hb
                refine Wc.ret ?_
                refine hKR _ _ ?_
                refine ⟨_, res1 Try.results5 (show RV _ _ _ (.tmp _) (.bool false) from rfl), _, rfl, rfl, hC.sel [] (by decide)⟩
              ·
               replace hb := (cF hq368).symm.trans hb
               refine lex.gskip (want_f rfl rfl (show _ = Value.bool (decide (y347.2.2.2 = 0)) from rfl) hq368) ?_
               refine lex.gskip (want_f rfl rfl (show _ = Value.bool (decide (y347.2.2.2 = 0)) from rfl) hq368) ?_
               refine lex.gskip (want_f rfl rfl (show _ = Value.bool (decide (y347.2.2.2 = 0)) from rfl) hq368) ?_
               refine lex.pure (v := .bool false) (pu_pickF (q := (decide (y347.2.2.2 = 0))) rfl hq368 rfl) ?_
               refine lex.pure (v := .bool false) (pu_move rfl) ?_
               refine lex.gskip (want_f rfl rfl (show _ = Value.bool false from rfl) rfl) ?_
               refine lex.gskip (want_f rfl rfl (show _ = Value.bool false from rfl) rfl) ?_
               refine lex.gskip (want_f rfl rfl (show _ = Value.bool false from rfl) rfl) ?_
               refine lex.pure (v := .bool false) (pu_pickF (q := false) rfl rfl rfl) ?_
               refine lex.pure (v := .bool false) (pu_assign rfl) ?_
               refine lex.nil ?_
               refine hK365 _ _ ?_
               obtain rfl := Option.some.inj hb
               refine Wc.ret ?_
               refine hKR _ _ ?_
               refine ⟨_, res1 Try.results5 (show RV _ _ _ (.tmp _) (.bool false) from rfl), _, rfl, rfl, hC.sel [] (by decide)⟩
             ·
              replace hb := (cF hq367).symm.trans hb
              refine lex.gskip (want_f rfl rfl (show _ = Value.bool (decide (y280.2.2.2 = 0)) from rfl) hq367) ?_
              refine lex.gskip (want_f rfl rfl (show _ = Value.bool (decide (y280.2.2.2 = 0)) from rfl) hq367) ?_
              refine lex.pure (v := .bool false) (pu_pickF (q := (decide (y280.2.2.2 = 0))) rfl hq367 rfl) ?_
              refine lex.pure (v := .bool false) (pu_move rfl) ?_
              refine lex.gskip (want_f rfl rfl (show _ = Value.bool false from rfl) rfl) ?_
              refine lex.gskip (want_f rfl rfl (show _ = Value.bool false from rfl) rfl) ?_
              refine lex.gskip (want_f rfl rfl (show _ = Value.bool false from rfl) rfl) ?_
              refine lex.pure (v := .bool false) (pu_pickF (q := false) rfl rfl rfl) ?_
              refine lex.pure (v := .bool false) (pu_move rfl) ?_
              refine lex.gskip (want_f rfl rfl (show _ = Value.bool false from rfl) rfl) ?_
              refine lex.gskip (want_f rfl rfl (show _ = Value.bool false from rfl) rfl) ?_
              refine lex.gskip (want_f rfl rfl (show _ = Value.bool false from rfl) rfl) ?_
              refine lex.pure (v := .bool false) (pu_pickF (q := false) rfl rfl rfl) ?_
              refine lex.pure (v := .bool false) (pu_assign rfl) ?_
              refine lex.nil ?_
              refine hK365 _ _ ?_
              obtain rfl := Option.some.inj hb
              refine Wc.ret ?_
              refine hKR _ _ ?_
              refine ⟨_, res1 Try.results5 (show RV _ _ _ (.tmp _) (.bool false) from rfl), _, rfl, rfl, hC.sel [] (by decide)⟩
            ·
             replace hb := (cF hq366).symm.trans hb
             refine lex.gskip (want_f rfl rfl (show _ = Value.bool (decide (y55.2.2.2 = 0)) from rfl) hq366) ?_
             refine lex.gskip (want_f rfl rfl (show _ = Value.bool (decide (y55.2.2.2 = 0)) from rfl) hq366) ?_
             refine lex.pure (v := .bool false) (pu_pickF (q := (decide (y55.2.2.2 = 0))) rfl hq366 rfl) ?_
             refine lex.pure (v := .bool false) (pu_move rfl) ?_
             refine lex.gskip (want_f rfl rfl (show _ = Value.bool false from rfl) rfl) ?_
             refine lex.gskip (want_f rfl rfl (show _ = Value.bool false from rfl) rfl) ?_
             refine lex.pure (v := .bool false) (pu_pickF (q := false) rfl rfl rfl) ?_
             refine lex.pure (v := .bool false) (pu_move rfl) ?_
             refine lex.gskip (want_f rfl rfl (show _ = Value.bool false from rfl) rfl) ?_
             refine lex.gskip (want_f rfl rfl (show _ = Value.bool false from rfl) rfl) ?_
             refine lex.gskip (want_f rfl rfl (show _ = Value.bool false from rfl) rfl) ?_
             refine lex.pure (v := .bool false) (pu_pickF (q := false) rfl rfl rfl) ?_
             refine lex.pure (v := .bool false) (pu_move rfl) ?_
             refine lex.gskip (want_f rfl rfl (show _ = Value.bool false from rfl) rfl) ?_
             refine lex.gskip (want_f rfl rfl (show _ = Value.bool false from rfl) rfl) ?_
             refine lex.gskip (want_f rfl rfl (show _ = Value.bool false from rfl) rfl) ?_
             refine lex.pure (v := .bool false) (pu_pickF (q := false) rfl rfl rfl) ?_
             refine lex.pure (v := .bool false) (pu_assign rfl) ?_
             refine lex.nil ?_
             refine hK365 _ _ ?_
             obtain rfl := Option.some.inj hb
             refine Wc.ret ?_
             refine hKR _ _ ?_
             refine ⟨_, res1 Try.results5 (show RV _ _ _ (.tmp _) (.bool false) from rfl), _, rfl, rfl, hC.sel [] (by decide)⟩
          ·
           skip
           refine mixPE_chain ?_
           refine mixE.op hM (hC.alloc (cs := [.int .i64 0, .int .i64 0, .slice none 0 0]) Try.zeroValue28 rfl) ?_
           rintro _ w377 ⟨g376, rfl, hC, hF, hG⟩
           have hUf378 : g376 < w296.heap.size → g376 ∈ blocks (([] : List Fact) ++ ([] : List Fact)) := fun h => absurd (Nat.lt_of_lt_of_le h (Nat.le_trans hM.size hG)) (Nat.lt_irrefl _)
           clear hG
           replace hM := hM.none hF
           replace hD := hM.wide (H := ([] : List Fact))
           refine ⟨hM, ?_⟩
           refine mixE.nil ?_
           refine mixPE_chain ?_
           obtain ⟨y379, h380, hb⟩ := bd hb
           refine mixE.cl hM (⟨_, _, op_call (vs := [.slice A297 ((([b_0_1, y45] : List (List Int))).length) c298]) Try.call22 rfl rfl rfl, slices_Concat_Lint_int_ok n (hC.lentLt [.slice A297 ((([b_0_1, y45] : List (List Int))).length) c298]) ((hC.ow (i := 1) rfl).lend (vs := [.slice A297 ((([b_0_1, y45] : List (List Int))).length) c298]) (by simp)) h380⟩) ?_
           rintro _ w385 ⟨A381, m382, c383, rfl, hK⟩
           replace hM := hM.none hK.fr
           replace hD := hM.wide (H := ([] : List Fact))
           refine ⟨hM, ?_⟩
           replace hC := hC.mergeF hK rfl
           clear hK
           obtain ⟨rfl, hl386, hc387⟩ := (hC.ow (i := 0) rfl).sl_len
           refine mixE.pure (v := .agg #[.int .i64 b_0_0, .slice A381 y379.length c383]) (pu_builds (places := [(0, 1), (1, 1)]) (pv := [(0, .int .i64 b_0_0), (1, .slice A381 y379.length c383)]) Try.type24 Try.underlying24 rfl (mp_cons Try.type3 (mp_cons Try.type22 mp_nil rfl rfl) rfl rfl) rfl (by simp [Instr.fill, Value.cells])) ?_
           replace hC := hC.freeze (i := 0) rfl (hC.own_new (i := 0) rfl)
           obtain ⟨y388, h389, hb⟩ := bd hb
           refine mixE.cl hM (⟨_, _, op_call (vs := [.agg #[.int .i64 b_0_0, .slice A381 y379.length c383]]) Try.call13 rfl rfl rfl, garside_Form_ok n hC.lt hb_0_0 (hC.rd (i := 0) rfl) h389⟩) ?_
           rintro _ w397 ⟨A392, m393, c394, rfl, hr390, hr391, hr396, hK⟩
           replace hM := hM.none hK.fr
           replace hD := hM.wide (H := ([] : List Fact))
           refine ⟨hM, ?_⟩
           replace hC := hC.merge hK
           clear hK
           obtain ⟨rfl, hl398, hc399⟩ := (hC.rd (i := 0) rfl).sl_len
           refine mixE.pure (v := .tuple #[.agg #[.int .i64 y388.1, .int .i64 y388.2.1, .slice A392 y388.2.2.1.length c394], .int .i64 y388.2.2.2]) (pu_move rfl) ?_
           refine mixE.pure (v := .agg #[.int .i64 y388.1, .int .i64 y388.2.1, .slice A392 y388.2.2.1.length c394]) (pu_extract rfl rfl) ?_
           refine mixE.pure (v := .int .i64 y388.2.2.2) (pu_extract rfl rfl) ?_
           refine mixE.sk hD (hC.seta (i := 2) (ds := [.int .i64 y388.1, .int .i64 y388.2.1, .slice A392 y388.2.2.1.length c394]) rfl Try.type28 rfl rfl rfl rfl rfl) ?_
           rintro w400 ⟨hC, hF⟩
           replace hD := hD.besideG hUf378 hF
           clear hF
           refine ⟨hD, ?_⟩
           refine mixE.pure (v := .int .i64 y388.2.2.2) (pu_assign rfl) ?_
           refine mixE.nil ?_
           clear hS hM
           clear hD
           refine hK294 _ _ ?_
           refine Wc.fresh fun E401 hE => ?_
           have e2 : E401 2 = .bool false := (congrFun hE 2).trans e2
           have e4 : E401 4 = .pointer (some ⟨g67, 0, none⟩) := (congrFun hE 4).trans e4
           have e5 : E401 5 = .int .i64 y55.2.2.2 := (congrFun hE 5).trans e5
           have e6 : E401 6 = .pointer (some ⟨g277, 0, none⟩) := (congrFun hE 6).trans e6
           have e7 : E401 7 = .int .i64 y280.2.2.2 := (congrFun hE 7).trans e7
           have e8 : E401 8 = .pointer (some ⟨g376, 0, none⟩) := (congrFun hE 8).trans rfl
           have e9 : E401 9 = .int .i64 y388.2.2.2 := (congrFun hE 9).trans rfl
           clear hE
           refine Wc.seq fun K402 hK402 => ?_
           refine Wc.region (by decide +kernel) ?_
           refine lex.pure (v := .pointer (some ((⟨g67, 0, none⟩ : Addr).add 1))) (pu_field (sz := 1) Try.underlying28 rfl Try.sizeOf3 (by decide) rfl e4) ?_
           refine lex.val (v := .int .i64 y55.2.1) (ld_fld (hC.bx (i := 8) rfl) Try.isAgg3 rfl rfl) ?_
           obtain ⟨z403, h404, hb⟩ := bd hb
           refine lex.pure (v := .int .i64 z403) (pu_addc (a := y55.2.1) (b := 2) rfl rfl h404) ?_
           refine lex.pure (v := .pointer (some ((⟨g67, 0, none⟩ : Addr).add 1))) (pu_field (sz := 1) Try.underlying28 rfl Try.sizeOf3 (by decide) rfl e4) ?_
           refine lex.sk (hC.setf (i := 8) (k := 1) (v := .int .i64 z403) rfl Try.sizeOf3 rfl rfl rfl rfl) ?_
           rintro w405 ⟨hC, hF⟩
           refine lex.nil ?_
           refine hK402 _ _ ?_
           refine Wc.seq fun K406 hK406 => ?_
           refine Wc.region (by decide +kernel) ?_
           refine lex.pure (v := .int .i64 y55.2.2.2) (pu_move e5) ?_
           refine lex.pure (v := .bool (decide (y55.2.2.2 = 0))) (pu_eql (k := .i64) (a := y55.2.2.2) (b := 0) rfl rfl) ?_
           refine lex.pure (v := .bool (decide (y55.2.2.2 = 0))) (pu_move rfl) ?_
           rcases bS (decide (y55.2.2.2 = 0)) with hq407 | hq407
           ·
            replace hb := (cT hq407).symm.trans hb
            refine lex.gpure (want_t rfl rfl (show _ = Value.bool (decide (y55.2.2.2 = 0)) from rfl) hq407) (v := .int .i64 y280.2.2.2) (pu_move e7) ?_
            refine lex.gpure (want_t rfl rfl (show _ = Value.bool (decide (y55.2.2.2 = 0)) from rfl) hq407) (v := .bool (decide (y280.2.2.2 = 0))) (pu_eql (k := .i64) (a := y280.2.2.2) (b := 0) rfl rfl) ?_
            refine lex.pure (v := .bool (decide (y280.2.2.2 = 0))) (pu_pickT (q := (decide (y55.2.2.2 = 0))) rfl hq407 rfl) ?_
            refine lex.pure (v := .bool (decide (y280.2.2.2 = 0))) (pu_move rfl) ?_
            rcases bS (decide (y280.2.2.2 = 0)) with hq408 | hq408
            ·
             replace hb := (cT hq408).symm.trans hb
             refine lex.gpure (want_t rfl rfl (show _ = Value.bool (decide (y280.2.2.2 = 0)) from rfl) hq408) (v := .int .i64 y388.2.2.2) (pu_move e9) ?_
             refine lex.gpure (want_t rfl rfl (show _ = Value.bool (decide (y280.2.2.2 = 0)) from rfl) hq408) (v := .bool (decide (y388.2.2.2 = 0))) (pu_eql (k := .i64) (a := y388.2.2.2) (b := 0) rfl rfl) ?_
             refine lex.pure (v := .bool (decide (y388.2.2.2 = 0))) (pu_pickT (q := (decide (y280.2.2.2 = 0))) rfl hq408 rfl) ?_
             refine lex.pure (v := .bool (decide (y388.2.2.2 = 0))) (pu_move rfl) ?_
             rcases bS (decide (y388.2.2.2 = 0)) with hq409 | hq409
             ·
              replace hb := (cT hq409).symm.trans hb
              refine lex.gval (want_t rfl rfl (show _ = Value.bool (decide (y388.2.2.2 = 0)) from rfl) hq409) (v := .agg #[.int .i64 y280.1, .int .i64 y280.2.1, .slice A284 y280.2.2.1.length c286]) (ld_blk (hC.bx (i := 5) rfl) Try.isAgg28 Try.sizeOf28 e6) ?_
              refine lex.gval (want_t rfl rfl (show _ = Value.bool (decide (y388.2.2.2 = 0)) from rfl) hq409) (v := .agg #[.int .i64 y55.1, .int .i64 z403, .slice A59 y55.2.2.1.length c61]) (ld_blk (hC.bx (i := 8) rfl) Try.isAgg28 Try.sizeOf28 e4) ?_
              obtain ⟨y410, h411, hb⟩ := bd hb
              refine lex.gcl (want_t rfl rfl (show _ = Value.bool (decide (y388.2.2.2 = 0)) from rfl) hq409) (⟨_, _, op_call (vs := [.agg #[.int .i64 y280.1, .int .i64 y280.2.1, .slice A284 y280.2.2.1.length c286], .agg #[.int .i64 y55.1, .int .i64 z403, .slice A59 y55.2.2.1.length c61]]) Try.call23 rfl rfl rfl, law34_equal_ok n hC.lt hr282 hr283 (hC.rd (i := 4) rfl) hr57 (chk_rng h404) (hC.rd (i := 9) rfl) h411⟩) ?_
              rintro _ w412 ⟨rfl, hK⟩
              replace hC := hC.merge hK
              clear hK
              refine lex.pure (v := .bool y410) (pu_pickT (q := (decide (y388.2.2.2 = 0))) rfl hq409 rfl) ?_
              refine lex.pure (v := .bool y410) (pu_move rfl) ?_
              rcases bS y410 with hq413 | hq413
              ·
               replace hb := (cT hq413).symm.trans hb
               refine lex.gval (want_t rfl rfl (show _ = Value.bool y410 from rfl) hq413) (v := .agg #[.int .i64 y388.1, .int .i64 y388.2.1, .slice A392 y388.2.2.1.length c394]) (ld_blk (hC.bx (i := 2) rfl) Try.isAgg28 Try.sizeOf28 e8) ?_
               refine lex.gval (want_t rfl rfl (show _ = Value.bool y410 from rfl) hq413) (v := .agg #[.int .i64 y55.1, .int .i64 z403, .slice A59 y55.2.2.1.length c61]) (ld_blk (hC.bx (i := 8) rfl) Try.isAgg28 Try.sizeOf28 e4) ?_
               obtain ⟨y414, h415, hb⟩ := bd hb
               refine lex.gcl (want_t rfl rfl (show _ = Value.bool y410 from rfl) hq413) (⟨_, _, op_call (vs := [.agg #[.int .i64 y388.1, .int .i64 y388.2.1, .slice A392 y388.2.2.1.length c394], .agg #[.int .i64 y55.1, .int .i64 z403, .slice A59 y55.2.2.1.length c61]]) Try.call23 rfl rfl rfl, law34_equal_ok n hC.lt hr390 hr391 (hC.rd (i := 0) rfl) hr57 (chk_rng h404) (hC.rd (i := 9) rfl) h415⟩) ?_
               rintro _ w416 ⟨rfl, hK⟩
               replace hC := hC.merge hK
               clear hK
               refine lex.pure (v := .bool y414) (pu_pickT (q := y410) rfl hq413 rfl) ?_
               refine lex.pure (v := .bool y414) (pu_assign rfl) ?_
               refine lex.nil ?_
               refine hK406 _ _ ?_
               obtain rfl := Option.some.inj hb
               refine Wc.ret ?_
               refine hKR _ _ ?_
               refine ⟨_, res1 Try.results5 (show RV _ _ _ (.tmp _) (.bool y414) from rfl), _, rfl, rfl, hC.sel [] (by decide)⟩
              ·
               replace hb := (cF hq413).symm.trans hb
               refine lex.gskip (want_f rfl rfl (show _ = Value.bool y410 from rfl) hq413) ?_
               refine lex.gskip (want_f rfl rfl (show _ = Value.bool y410 from rfl) hq413) ?_
               refine lex.gskip (want_f rfl rfl (show _ = Value.bool y410 from rfl) hq413) ?_
               refine lex.pure (v := .bool false) (pu_pickF (q := y410) rfl hq413 rfl) ?_
               refine lex.pure (v := .bool false) (pu_assign rfl) ?_
               refine lex.nil ?_
               refine hK406 _ _ ?_
               obtain rfl := Option.some.inj hb
               refine Wc.ret ?_
               refine hKR _ _ ?_
               refine ⟨_, res1 Try.results5 (show RV _ _ _ (.tmp _) (.bool false) from rfl), _, rfl, rfl, hC.sel [] (by decide)⟩
             ·
              replace hb := (cF hq409).symm.trans hb
              refine lex.gskip (want_f rfl rfl (show _ = Value.bool (decide (y388.2.2.2 = 0)) from rfl) hq409) ?_
              refine lex.gskip (want_f rfl rfl (show _ = Value.bool (decide (y388.2.2.2 = 0)) from rfl) hq409) ?_
              refine lex.gskip (want_f rfl rfl (show _ = Value.bool (decide (y388.2.2.2 = 0)) from rfl) hq409) ?_
              refine lex.pure (v := .bool false) (pu_pickF (q := (decide (y388.2.2.2 = 0))) rfl hq409 rfl) ?_
              refine lex.pure (v := .bool false) (pu_move rfl) ?_
              refine lex.gskip (want_f rfl rfl (show _ = Value.bool false from rfl) rfl) ?_
              refine lex.gskip (want_f rfl rfl (show _ = Value.bool false from rfl) rfl) ?_
              refine lex.gskip (want_f rfl rfl (show _ = Value.bool false from rfl) rfl) ?_
              refine lex.pure (v := .bool false) (pu_pickF (q := false) rfl rfl rfl) ?_
              refine lex.pure (v := .bool false) (pu_assign rfl) ?_
              refine lex.nil ?_
              refine hK406 _ _ ?_
              obtain rfl := Option.some.inj hb
              refine Wc.ret ?_
              refine hKR _ _ ?_
              refine ⟨_, res1 Try.results5 (show RV _ _ _ (.tmp _) (.bool false) from rfl), _, rfl, rfl, hC.sel [] (by decide)⟩
            ·
             replace hb := (cF hq408).symm.trans hb
             refine lex.gskip (want_f rfl rfl (show _ = Value.bool (decide (y280.2.2.2 = 0)) from rfl) hq408) ?_
             refine lex.gskip (want_f rfl rfl (show _ = Value.bool (decide (y280.2.2.2 = 0)) from rfl) hq408) ?_
             refine lex.pure (v := .bool false) (pu_pickF (q := (decide (y280.2.2.2 = 0))) rfl hq408 rfl) ?_
             refine lex.pure (v := .bool false) (pu_move rfl) ?_
             refine lex.gskip (want_f rfl rfl (show _ = Value.bool false from rfl) rfl) ?_
             refine lex.gskip (want_f rfl rfl (show _ = Value.bool false from rfl) rfl) ?_
             refine lex.gskip (want_f rfl rfl (show _ = Value.bool false from rfl) rfl) ?_
             refine lex.pure (v := .bool false) (pu_pickF (q := false) rfl rfl rfl) ?_
             refine lex.pure (v := .bool false) (pu_move rfl) ?_
             refine lex.gskip (want_f rfl rfl (show _ = Value.bool false from rfl) rfl) ?_
             refine lex.gskip (want_f rfl rfl (show _ = Value.bool false from rfl) rfl) ?_
             refine lex.gskip (want_f rfl rfl (show _ = Value.bool false from rfl) rfl) ?_
             refine lex.pure (v := .bool false) (pu_pickF (q := false) rfl rfl rfl) ?_
             refine lex.pure (v := .bool false) (pu_assign rfl) ?_
             refine lex.nil ?_
             refine hK406 _ _ ?_
             obtain rfl := Option.some.inj hb
             refine Wc.ret ?_
             refine hKR _ _ ?_
             refine ⟨_, res1 Try.results5 (show RV _ _ _ (.tmp _) (.bool false) from rfl), _, rfl, rfl, hC.sel [] (by decide)⟩
           ·
            replace hb := (cF hq407).symm.trans hb
            refine lex.gskip (want_f rfl rfl (show _ = Value.bool (decide (y55.2.2.2 = 0)) from rfl) hq407) ?_
            refine lex.gskip (want_f rfl rfl (show _ = Value.bool (decide (y55.2.2.2 = 0)) from rfl) hq407) ?_
            refine lex.pure (v := .bool false) (pu_pickF (q := (decide (y55.2.2.2 = 0))) rfl hq407 rfl) ?_
            refine lex.pure (v := .bool false) (pu_move rfl) ?_
            refine lex.gskip (want_f rfl rfl (show _ = Value.bool false from rfl) rfl) ?_
            refine lex.gskip (want_f rfl rfl (show _ = Value.bool false from rfl) rfl) ?_
            refine lex.pure (v := .bool false) (pu_pickF (q := false) rfl rfl rfl) ?_
            refine lex.pure (v := .bool false) (pu_move rfl) ?_
            refine lex.gskip (want_f rfl rfl (show _ = Value.bool false from rfl) rfl) ?_
            refine lex.gskip (want_f rfl rfl (show _ = Value.bool false from rfl) rfl) ?_
            refine lex.gskip (want_f rfl rfl (show _ = Value.bool false from rfl) rfl) ?_
            refine lex.pure (v := .bool false) (pu_pickF (q := false) rfl rfl rfl) ?_
            refine lex.pure (v := .bool false) (pu_move rfl) ?_
            refine lex.gskip (want_f rfl rfl (show _ = Value.bool false from rfl) rfl) ?_
            refine lex.gskip (want_f rfl rfl (show _ = Value.bool false from rfl) rfl) ?_
            refine lex.gskip (want_f rfl rfl (show _ = Value.bool false from rfl) rfl) ?_
            refine lex.pure (v := .bool false) (pu_pickF (q := false) rfl rfl rfl) ?_
            refine lex.pure (v := .bool false) (pu_assign rfl) ?_
            refine lex.nil ?_
            refine hK406 _ _ ?_
            obtain rfl := Option.some.inj hb
            refine Wc.ret ?_
            refine hKR _ _ ?_
            refine ⟨_, res1 Try.results5 (show RV _ _ _ (.tmp _) (.bool false) from rfl), _, rfl, rfl, hC.sel [] (by decide)⟩
         ·
          skip
          refine mixPE_chain ?_
          refine mixE.op hM (hC.alloc (cs := [.int .i64 0, .int .i64 0, .slice none 0 0]) Try.zeroValue28 rfl) ?_
          rintro _ w418 ⟨g417, rfl, hC, hF, hG⟩
          have hUf419 : g417 < w296.heap.size → g417 ∈ blocks (([] : List Fact) ++ ([] : List Fact)) := fun h => absurd (Nat.lt_of_lt_of_le h (Nat.le_trans hM.size hG)) (Nat.lt_irrefl _)
          clear hG
          replace hM := hM.none hF
          replace hD := hM.wide (H := ([] : List Fact))
          refine ⟨hM, ?_⟩
          refine mixE.nil ?_
          refine mixPE_chain ?_
          refine mixE.op hM (hC.lit (s := (.sl (.int .i64))) (vs := [.slice Ab_0_1 b_0_1.length cb_0_1, .slice A47 y45.length c49]) (xs := [b_0_1, y45]) Try.underlying35 Try.type22 rfl rfl (Nat.le_of_ble_eq_true rfl) rfl rfl (by simp [Value.cells, Sh.n]) rfl (show Elems _ _ (.sl (.int .i64)) ([.slice Ab_0_1 b_0_1.length cb_0_1] ++ ([.slice A47 y45.length c49] ++ ([]))) ([b_0_1, y45] : List (List Int)) from Elems.cons (hC.rd (i := 9) rfl) (Elems.cons (hC.rd (i := 7) rfl) (Elems.nil _ _ _)))) ?_
          rintro _ w424 ⟨A420, c421, rfl, hl422, hc423, hC, hF, hN⟩
          have hBf425 := Beside.new hM hN
          have hUf425 := Beside.new (hM.wide (H := ([] : List Fact))) hN
          replace hM := hM.none hF
          replace hD := hM.wide (H := ([] : List Fact))
          refine ⟨hM, ?_⟩
          clear hF hN
          obtain ⟨y426, h427, hb⟩ := bd hb
          refine mixE.cl hM (⟨_, _, op_call (vs := [.slice A420 ((([b_0_1, y45] : List (List Int))).length) c421]) Try.call22 rfl rfl rfl, slices_Concat_Lint_int_ok n (hC.lentLt [.slice A420 ((([b_0_1, y45] : List (List Int))).length) c421]) ((hC.ow (i := 0) rfl).lend (vs := [.slice A420 ((([b_0_1, y45] : List (List Int))).length) c421]) (by simp)) h427⟩) ?_
          rintro _ w432 ⟨A428, m429, c430, rfl, hK⟩
          replace hM := hM.none hK.fr
          replace hD := hM.wide (H := ([] : List Fact))
          refine ⟨hM, ?_⟩
          replace hC := hC.mergeF hK rfl
          clear hK
          obtain ⟨rfl, hl433, hc434⟩ := (hC.ow (i := 0) rfl).sl_len
          refine mixE.pure (v := .agg #[.int .i64 b_0_0, .slice A428 y426.length c430]) (pu_builds (places := [(0, 1), (1, 1)]) (pv := [(0, .int .i64 b_0_0), (1, .slice A428 y426.length c430)]) Try.type24 Try.underlying24 rfl (mp_cons Try.type3 (mp_cons Try.type22 mp_nil rfl rfl) rfl rfl) rfl (by simp [Instr.fill, Value.cells])) ?_
          replace hC := hC.freeze (i := 0) rfl (hC.own_new (i := 0) rfl)
          obtain ⟨y435, h436, hb⟩ := bd hb
          refine mixE.cl hM (⟨_, _, op_call (vs := [.agg #[.int .i64 b_0_0, .slice A428 y426.length c430]]) Try.call13 rfl rfl rfl, garside_Form_ok n hC.lt hb_0_0 (hC.rd (i := 0) rfl) h436⟩) ?_
          rintro _ w444 ⟨A439, m440, c441, rfl, hr437, hr438, hr443, hK⟩
          replace hM := hM.none hK.fr
          replace hD := hM.wide (H := ([] : List Fact))
          refine ⟨hM, ?_⟩
          replace hC := hC.merge hK
          clear hK
          obtain ⟨rfl, hl445, hc446⟩ := (hC.rd (i := 0) rfl).sl_len
          refine mixE.pure (v := .tuple #[.agg #[.int .i64 y435.1, .int .i64 y435.2.1, .slice A439 y435.2.2.1.length c441], .int .i64 y435.2.2.2]) (pu_move rfl) ?_
          refine mixE.pure (v := .agg #[.int .i64 y435.1, .int .i64 y435.2.1, .slice A439 y435.2.2.1.length c441]) (pu_extract rfl rfl) ?_
          refine mixE.pure (v := .int .i64 y435.2.2.2) (pu_extract rfl rfl) ?_
          refine mixE.sk hD (hC.seta (i := 3) (ds := [.int .i64 y435.1, .int .i64 y435.2.1, .slice A439 y435.2.2.1.length c441]) rfl Try.type28 rfl rfl rfl rfl rfl) ?_
          rintro w447 ⟨hC, hF⟩
          replace hD := hD.besideG hUf419 hF
          clear hF
          refine ⟨hD, ?_⟩
          refine mixE.pure (v := .int .i64 y435.2.2.2) (pu_assign rfl) ?_
          refine mixE.nil ?_
          clear hS hM
          clear hD
          refine hK294 _ _ ?_
          refine Wc.fresh fun E448 hE => ?_
          have e2 : E448 2 = .bool false := (congrFun hE 2).trans e2
          have e4 : E448 4 = .pointer (some ⟨g67, 0, none⟩) := (congrFun hE 4).trans e4
          have e5 : E448 5 = .int .i64 y55.2.2.2 := (congrFun hE 5).trans e5
          have e6 : E448 6 = .pointer (some ⟨g277, 0, none⟩) := (congrFun hE 6).trans e6
          have e7 : E448 7 = .int .i64 y280.2.2.2 := (congrFun hE 7).trans e7
          have e8 : E448 8 = .pointer (some ⟨g417, 0, none⟩) := (congrFun hE 8).trans rfl
          have e9 : E448 9 = .int .i64 y435.2.2.2 := (congrFun hE 9).trans rfl
          clear hE
          refine Wc.seq fun K449 hK449 => ?_
          refine Wc.region (by decide +kernel) ?_
          refine lex.pure (v := .pointer (some ((⟨g67, 0, none⟩ : Addr).add 1))) (pu_field (sz := 1) Try.underlying28 rfl Try.sizeOf3 (by decide) rfl e4) ?_
          refine lex.val (v := .int .i64 y55.2.1) (ld_fld (hC.bx (i := 8) rfl) Try.isAgg3 rfl rfl) ?_
          obtain ⟨z450, h451, hb⟩ := bd hb
          refine lex.pure (v := .int .i64 z450) (pu_addc (a := y55.2.1) (b := 2) rfl rfl h451) ?_
          refine lex.pure (v := .pointer (some ((⟨g67, 0, none⟩ : Addr).add 1))) (pu_field (sz := 1) Try.underlying28 rfl Try.sizeOf3 (by decide) rfl e4) ?_
          refine lex.sk (hC.setf (i := 8) (k := 1) (v := .int .i64 z450) rfl Try.sizeOf3 rfl rfl rfl rfl) ?_
          rintro w452 ⟨hC, hF⟩
          refine lex.nil ?_
          refine hK449 _ _ ?_
          refine Wc.seq fun K453 hK453 => ?_
          refine Wc.region (by decide +kernel) ?_
          refine lex.pure (v := .int .i64 y55.2.2.2) (pu_move e5) ?_
          refine lex.pure (v := .bool (decide (y55.2.2.2 = 0))) (pu_eql (k := .i64) (a := y55.2.2.2) (b := 0) rfl rfl) ?_
          refine lex.pure (v := .bool (decide (y55.2.2.2 = 0))) (pu_move rfl) ?_
          rcases bS (decide (y55.2.2.2 = 0)) with hq454 | hq454
          ·
           replace hb := (cT hq454).symm.trans hb
           refine lex.gpure (want_t rfl rfl (show _ = Value.bool (decide (y55.2.2.2 = 0)) from rfl) hq454) (v := .int .i64 y280.2.2.2) (pu_move e7) ?_
           refine lex.gpure (want_t rfl rfl (show _ = Value.bool (decide (y55.2.2.2 = 0)) from rfl) hq454) (v := .bool (decide (y280.2.2.2 = 0))) (pu_eql (k := .i64) (a := y280.2.2.2) (b := 0) rfl rfl) ?_
           refine lex.pure (v := .bool (decide (y280.2.2.2 = 0))) (pu_pickT (q := (decide (y55.2.2.2 = 0))) rfl hq454 rfl) ?_
           refine lex.pure (v := .bool (decide (y280.2.2.2 = 0))) (pu_move rfl) ?_
           rcases bS (decide (y280.2.2.2 = 0)) with hq455 | hq455
           ·
            replace hb := (cT hq455).symm.trans hb
            refine lex.gpure (want_t rfl rfl (show _ = Value.bool (decide (y280.2.2.2 = 0)) from rfl) hq455) (v := .int .i64 y435.2.2.2) (pu_move e9) ?_
            refine lex.gpure (want_t rfl rfl (show _ = Value.bool (decide (y280.2.2.2 = 0)) from rfl) hq455) (v := .bool (decide (y435.2.2.2 = 0))) (pu_eql (k := .i64) (a := y435.2.2.2) (b := 0) rfl rfl) ?_
            refine lex.pure (v := .bool (decide (y435.2.2.2 = 0))) (pu_pickT (q := (decide (y280.2.2.2 = 0))) rfl hq455 rfl) ?_
            refine lex.pure (v := .bool (decide (y435.2.2.2 = 0))) (pu_move rfl) ?_
            rcases bS (decide (y435.2.2.2 = 0)) with hq456 | hq456
            ·
             replace hb := (cT hq456).symm.trans hb
             refine lex.gval (want_t rfl rfl (show _ = Value.bool (decide (y435.2.2.2 = 0)) from rfl) hq456) (v := .agg #[.int .i64 y280.1, .int .i64 y280.2.1, .slice A284 y280.2.2.1.length c286]) (ld_blk (hC.bx (i := 5) rfl) Try.isAgg28 Try.sizeOf28 e6) ?_
             refine lex.gval (want_t rfl rfl (show _ = Value.bool (decide (y435.2.2.2 = 0)) from rfl) hq456) (v := .agg #[.int .i64 y55.1, .int .i64 z450, .slice A59 y55.2.2.1.length c61]) (ld_blk (hC.bx (i := 8) rfl) Try.isAgg28 Try.sizeOf28 e4) ?_
             obtain ⟨y457, h458, hb⟩ := bd hb
             refine lex.gcl (want_t rfl rfl (show _ = Value.bool (decide (y435.2.2.2 = 0)) from rfl) hq456) (⟨_, _, op_call (vs := [.agg #[.int .i64 y280.1, .int .i64 y280.2.1, .slice A284 y280.2.2.1.length c286], .agg #[.int .i64 y55.1, .int .i64 z450, .slice A59 y55.2.2.1.length c61]]) Try.call23 rfl rfl rfl, law34_equal_ok n hC.lt hr282 hr283 (hC.rd (i := 4) rfl) hr57 (chk_rng h451) (hC.rd (i := 9) rfl) h458⟩) ?_
             rintro _ w459 ⟨rfl, hK⟩
             replace hC := hC.merge hK
             clear hK
             refine lex.pure (v := .bool y457) (pu_pickT (q := (decide (y435.2.2.2 = 0))) rfl hq456 rfl) ?_
             refine lex.pure (v := .bool y457) (pu_move rfl) ?_
             rcases bS y457 with hq460 | hq460
             ·
              replace hb := (cT hq460).symm.trans hb
              refine lex.gval (want_t rfl rfl (show _ = Value.bool y457 from rfl) hq460) (v := .agg #[.int .i64 y435.1, .int .i64 y435.2.1, .slice A439 y435.2.2.1.length c441]) (ld_blk (hC.bx (i := 3) rfl) Try.isAgg28 Try.sizeOf28 e8) ?_
              refine lex.gval (want_t rfl rfl (show _ = Value.bool y457 from rfl) hq460) (v := .agg #[.int .i64 y55.1, .int .i64 z450, .slice A59 y55.2.2.1.length c61]) (ld_blk (hC.bx (i := 8) rfl) Try.isAgg28 Try.sizeOf28 e4) ?_
              obtain ⟨y461, h462, hb⟩ := bd hb
              refine lex.gcl (want_t rfl rfl (show _ = Value.bool y457 from rfl) hq460) (⟨_, _, op_call (vs := [.agg #[.int .i64 y435.1, .int .i64 y435.2.1, .slice A439 y435.2.2.1.length c441], .agg #[.int .i64 y55.1, .int .i64 z450, .slice A59 y55.2.2.1.length c61]]) Try.call23 rfl rfl rfl, law34_equal_ok n hC.lt hr437 hr438 (hC.rd (i := 0) rfl) hr57 (chk_rng h451) (hC.rd (i := 9) rfl) h462⟩) ?_
              rintro _ w463 ⟨rfl, hK⟩
              replace hC := hC.merge hK
              clear hK
              refine lex.pure (v := .bool y461) (pu_pickT (q := y457) rfl hq460 rfl) ?_
              refine lex.pure (v := .bool y461) (pu_assign rfl) ?_
              refine lex.nil ?_
              refine hK453 _ _ ?_
              obtain rfl := Option.some.inj hb
              refine Wc.ret ?_
              refine hKR _ _ ?_
              refine ⟨_, res1 Try.results5 (show RV _ _ _ (.tmp _) (.bool y461) from rfl), _, rfl, rfl, hC.sel [] (by decide)⟩
             ·
              replace hb := (cF hq460).symm.trans hb
              refine lex.gskip (want_f rfl rfl (show _ = Value.bool y457 from rfl) hq460) ?_
              refine lex.gskip (want_f rfl rfl (show _ = Value.bool y457 from rfl) hq460) ?_
              refine lex.gskip (want_f rfl rfl (show _ = Value.bool y457 from rfl) hq460) ?_
              refine lex.pure (v := .bool false) (pu_pickF (q := y457) rfl hq460 rfl) ?_
              refine lex.pure (v := .bool false) (pu_assign rfl) ?_
              refine lex.nil ?_
              refine hK453 _ _ ?_
              obtain rfl := Option.some.inj hb
              refine Wc.ret ?_
              refine hKR _ _ ?_
              refine ⟨_, res1 Try.results5 (show RV _ _ _ (.tmp _) (.bool false) from rfl), _, rfl, rfl, hC.sel [] (by decide)⟩
            ·
             replace hb := (cF hq456).symm.trans hb
             refine lex.gskip (want_f rfl rfl (show _ = Value.bool (decide (y435.2.2.2 = 0)) from rfl) hq456) ?_
             refine lex.gskip (want_f rfl rfl (show _ = Value.bool (decide (y435.2.2.2 = 0)) from rfl) hq456) ?_
             refine lex.gskip (want_f rfl rfl (show _ = Value.bool (decide (y435.2.2.2 = 0)) from rfl) hq456) ?_
             refine lex.pure (v := .bool false) (pu_pickF (q := (decide (y435.2.2.2 = 0))) rfl hq456 rfl) ?_
             refine lex.pure (v := .bool false) (pu_move rfl) ?_
             refine lex.gskip (want_f rfl rfl (show _ = Value.bool false from rfl) rfl) ?_
             refine lex.gskip (want_f rfl rfl (show _ = Value.bool false from rfl) rfl) ?_
             refine lex.gskip (want_f rfl rfl (show _ = Value.bool false from rfl) rfl) ?_
             refine lex.pure (v := .bool false) (pu_pickF (q := false) rfl rfl rfl) ?_
             refine lex.pure (v := .bool false) (pu_assign rfl) ?_
             refine lex.nil ?_
             refine hK453 _ _ ?_
             obtain rfl := Option.some.inj hb
             refine Wc.ret ?_
             refine hKR _ _ ?_
             refine ⟨_, res1 Try.results5 (show RV _ _ _ (.tmp _) (.bool false) from rfl), _, rfl, rfl, hC.sel [] (by decide)⟩
           ·
            replace hb := (cF hq455).symm.trans hb
            refine lex.gskip (want_f rfl rfl (show _ = Value.bool (decide (y280.2.2.2 = 0)) from rfl) hq455) ?_
            refine lex.gskip (want_f rfl rfl (show _ = Value.bool (decide (y280.2.2.2 = 0)) from rfl) hq455) ?_
            refine lex.pure (v := .bool false) (pu_pickF (q := (decide (y280.2.2.2 = 0))) rfl hq455 rfl) ?_
            refine lex.pure (v := .bool false) (pu_move rfl) ?_
            refine lex.gskip (want_f rfl rfl (show _ = Value.bool false from rfl) rfl) ?_
            refine lex.gskip (want_f rfl rfl (show _ = Value.bool false from rfl) rfl) ?_
            refine lex.gskip (want_f rfl rfl (show _ = Value.bool false from rfl) rfl) ?_
            refine lex.pure (v := .bool false) (pu_pickF (q := false) rfl rfl rfl) ?_
            refine lex.pure (v := .bool false) (pu_move rfl) ?_
            refine lex.gskip (want_f rfl rfl (show _ = Value.bool false from rfl) rfl) ?_
            refine lex.gskip (want_f rfl rfl (show _ = Value.bool false from rfl) rfl) ?_
            refine lex.gskip (want_f rfl rfl (show _ = Value.bool false from rfl) rfl) ?_
            refine lex.pure (v := .bool false) (pu_pickF (q := false) rfl rfl rfl) ?_
            refine lex.pure (v := .bool false) (pu_assign rfl) ?_
            refine lex.nil ?_
            refine hK453 _ _ ?_
            obtain rfl := Option.some.inj hb
            refine Wc.ret ?_
            refine hKR _ _ ?_
            refine ⟨_, res1 Try.results5 (show RV _ _ _ (.tmp _) (.bool false) from rfl), _, rfl, rfl, hC.sel [] (by decide)⟩
          ·
           replace hb := (cF hq454).symm.trans hb
           refine lex.gskip (want_f rfl rfl (show _ = Value.bool (decide (y55.2.2.2 = 0)) from rfl) hq454) ?_
           refine lex.gskip (want_f rfl rfl (show _ = Value.bool (decide (y55.2.2.2 = 0)) from rfl) hq454) ?_
           refine lex.pure (v := .bool false) (pu_pickF (q := (decide (y55.2.2.2 = 0))) rfl hq454 rfl) ?_
           refine lex.pure (v := .bool false) (pu_move rfl) ?_
           refine lex.gskip (want_f rfl rfl (show _ = Value.bool false from rfl) rfl) ?_
           refine lex.gskip (want_f rfl rfl (show _ = Value.bool false from rfl) rfl) ?_
           refine lex.pure (v := .bool false) (pu_pickF (q := false) rfl rfl rfl) ?_
           refine lex.pure (v := .bool false) (pu_move rfl) ?_
           refine lex.gskip (want_f rfl rfl (show _ = Value.bool false from rfl) rfl) ?_
           refine lex.gskip (want_f rfl rfl (show _ = Value.bool false from rfl) rfl) ?_
           refine lex.gskip (want_f rfl rfl (show _ = Value.bool false from rfl) rfl) ?_
           refine lex.pure (v := .bool false) (pu_pickF (q := false) rfl rfl rfl) ?_
           refine lex.pure (v := .bool false) (pu_move rfl) ?_
           refine lex.gskip (want_f rfl rfl (show _ = Value.bool false from rfl) rfl) ?_
           refine lex.gskip (want_f rfl rfl (show _ = Value.bool false from rfl) rfl) ?_
           refine lex.gskip (want_f rfl rfl (show _ = Value.bool false from rfl) rfl) ?_
           refine lex.pure (v := .bool false) (pu_pickF (q := false) rfl rfl rfl) ?_
           refine lex.pure (v := .bool false) (pu_assign rfl) ?_
           refine lex.nil ?_
           refine hK453 _ _ ?_
           obtain rfl := Option.some.inj hb
           refine Wc.ret ?_
           refine hKR _ _ ?_
           refine ⟨_, res1 Try.results5 (show RV _ _ _ (.tmp _) (.bool false) from rfl), _, rfl, rfl, hC.sel [] (by decide)⟩
       ·
        skip
        refine mixPE_chain ?_
        refine mixE.op hM (hC.alloc (cs := [.int .i64 0, .int .i64 0, .slice none 0 0]) Try.zeroValue28 rfl) ?_
        rintro _ w465 ⟨g464, rfl, hC, hF, hG⟩
        have hUf466 : g464 < w74.heap.size → g464 ∈ blocks (([] : List Fact) ++ ([] : List Fact)) := fun h => absurd (Nat.lt_of_lt_of_le h (Nat.le_trans hM.size hG)) (Nat.lt_irrefl _)
        clear hG
        replace hM := hM.none hF
        replace hD := hM.wide (H := ([] : List Fact))
        refine ⟨hM, ?_⟩
        refine mixE.nil ?_
        refine mixPE_chain ?_
        obtain ⟨y467, h468, hb⟩ := bd hb
        refine mixE.cl hM (⟨_, _, op_call (vs := [.slice A75 ((([y45, b_0_1] : List (List Int))).length) c76]) Try.call22 rfl rfl rfl, slices_Concat_Lint_int_ok n (hC.lentLt [.slice A75 ((([y45, b_0_1] : List (List Int))).length) c76]) ((hC.ow (i := 1) rfl).lend (vs := [.slice A75 ((([y45, b_0_1] : List (List Int))).length) c76]) (by simp)) h468⟩) ?_
        rintro _ w473 ⟨A469, m470, c471, rfl, hK⟩
        replace hM := hM.none hK.fr
        replace hD := hM.wide (H := ([] : List Fact))
        refine ⟨hM, ?_⟩
        replace hC := hC.mergeF hK rfl
        clear hK
        obtain ⟨rfl, hl474, hc475⟩ := (hC.ow (i := 0) rfl).sl_len
        refine mixE.pure (v := .agg #[.int .i64 b_0_0, .slice A469 y467.length c471]) (pu_builds (places := [(0, 1), (1, 1)]) (pv := [(0, .int .i64 b_0_0), (1, .slice A469 y467.length c471)]) Try.type24 Try.underlying24 rfl (mp_cons Try.type3 (mp_cons Try.type22 mp_nil rfl rfl) rfl rfl) rfl (by simp [Instr.fill, Value.cells])) ?_
        replace hC := hC.freeze (i := 0) rfl (hC.own_new (i := 0) rfl)
        obtain ⟨y476, h477, hb⟩ := bd hb
        refine mixE.cl hM (⟨_, _, op_call (vs := [.agg #[.int .i64 b_0_0, .slice A469 y467.length c471]]) Try.call13 rfl rfl rfl, garside_Form_ok n hC.lt hb_0_0 (hC.rd (i := 0) rfl) h477⟩) ?_
        rintro _ w485 ⟨A480, m481, c482, rfl, hr478, hr479, hr484, hK⟩
        replace hM := hM.none hK.fr
        replace hD := hM.wide (H := ([] : List Fact))
        refine ⟨hM, ?_⟩
        replace hC := hC.merge hK
        clear hK
        obtain ⟨rfl, hl486, hc487⟩ := (hC.rd (i := 0) rfl).sl_len
        refine mixE.pure (v := .tuple #[.agg #[.int .i64 y476.1, .int .i64 y476.2.1, .slice A480 y476.2.2.1.length c482], .int .i64 y476.2.2.2]) (pu_move rfl) ?_
        refine mixE.pure (v := .agg #[.int .i64 y476.1, .int .i64 y476.2.1, .slice A480 y476.2.2.1.length c482]) (pu_extract rfl rfl) ?_
        refine mixE.pure (v := .int .i64 y476.2.2.2) (pu_extract rfl rfl) ?_
        refine mixE.sk hD (hC.seta (i := 2) (ds := [.int .i64 y476.1, .int .i64 y476.2.1, .slice A480 y476.2.2.1.length c482]) rfl Try.type28 rfl rfl rfl rfl rfl) ?_
        rintro w488 ⟨hC, hF⟩
        replace hD := hD.besideG hUf466 hF
        clear hF
        refine ⟨hD, ?_⟩
        refine mixE.pure (v := .int .i64 y476.2.2.2) (pu_assign rfl) ?_
        refine mixE.nil ?_
        clear hS hM
        clear hD
        refine hK72 _ _ ?_
        refine Wc.fresh fun E489 hE => ?_
        have e1 : E489 1 = .pointer (some ⟨g3, 0, none⟩) := (congrFun hE 1).trans e1
        have e2 : E489 2 = .bool false := (congrFun hE 2).trans e2
        have e3 : E489 3 = .slice A47 y45.length c49 := (congrFun hE 3).trans e3
        have e4 : E489 4 = .pointer (some ⟨g67, 0, none⟩) := (congrFun hE 4).trans e4
        have e5 : E489 5 = .int .i64 y55.2.2.2 := (congrFun hE 5).trans e5
        have e6 : E489 6 = .pointer (some ⟨g464, 0, none⟩) := (congrFun hE 6).trans rfl
        have e7 : E489 7 = .int .i64 y476.2.2.2 := (congrFun hE 7).trans rfl
        clear hE
        refine Wc.seq fun K490 hK490 => ?_
        refine Wc.regionPlan [56, 58] (frm [56, 58] ([] : List Fact) ([] : List Fact)) (chainP [0, 1, 2, 3, 4] (.alt (chainP [5] (.alt (chainP [6] (chainP [7] (.alt (chainP [8] (chainP [9, 10, 11, 12, 13, 14] .done)) (chainP [12] (chainP [8, 9, 10, 11, 13, 14] .done))))) (chainP [12] (chainP [6, 7, 8, 9, 10, 11, 13, 14] .done)))) (chainP [12] (chainP [5, 6, 7, 8, 9, 10, 11, 13, 14] .done)))) (fun _ => rfl) mixed (by decide +kernel) (by decide +kernel) fun w492 hw491 => ?_
        replace hC := hC.step (Fr.of_drew hw491)
        have hM := Fr.refl (fun k => k ∈ blocks ([] : List Fact)) w492
        clear hw491
        have hS := hC
        have hD : Fr (fun k => k ∈ blocks (([] : List Fact) ++ ([] : List Fact))) w492 w492 := hM.wide
        refine mixPE_chain ?_
        refine mixE.pure (v := .pointer (some ((⟨g3, 0, none⟩ : Addr).add 0))) (pu_field (sz := 1) Try.underlying24 rfl Try.sizeOf3 (by decide) rfl e1) ?_
        refine mixE.steady hD (v := .int .i64 b_0_0) (fun _ hF => ld_fld (hS.bx2 (i := 7) rfl [] (by decide) hF) Try.isAgg3 rfl rfl) ?_
        refine mixE.pure (v := .pointer (some ((⟨g3, 0, none⟩ : Addr).add 1))) (pu_field (sz := 1) Try.underlying24 rfl Try.sizeOf22 (by decide) rfl e1) ?_
        refine mixE.steady hD (v := .slice Ab_0_1 b_0_1.length cb_0_1) (fun _ hF => ld_fld (hS.bx2 (i := 7) rfl [] (by decide) hF) Try.isAgg22 rfl rfl) ?_
        refine mixE.pure (v := .slice A47 y45.length c49) (pu_move e3) ?_
        refine mixE.nil ?_
        refine mixPE_alt ?_ ?_
        ·
         skip
         refine mixPE_chain ?_
         refine mixE.op hM (hC.lit (s := (.sl (.int .i64))) (vs := [.slice Ab_0_1 b_0_1.length cb_0_1, .slice A47 y45.length c49]) (xs := [b_0_1, y45]) Try.underlying35 Try.type22 rfl rfl (Nat.le_of_ble_eq_true rfl) rfl rfl (by simp [Value.cells, Sh.n]) rfl (show Elems _ _ (.sl (.int .i64)) ([.slice Ab_0_1 b_0_1.length cb_0_1] ++ ([.slice A47 y45.length c49] ++ ([]))) ([b_0_1, y45] : List (List Int)) from Elems.cons (hC.rd (i := 8) rfl) (Elems.cons (hC.rd (i := 6) rfl) (Elems.nil _ _ _)))) ?_
         rintro _ w497 ⟨A493, c494, rfl, hl495, hc496, hC, hF, hN⟩
         have hBf498 := Beside.new hM hN
         have hUf498 := Beside.new (hM.wide (H := ([] : List Fact))) hN
         replace hM := hM.none hF
         replace hD := hM.wide (H := ([] : List Fact))
         refine ⟨hM, ?_⟩
         clear hF hN
         refine mixE.nil ?_
         refine mixPE_alt ?_ ?_
         ·
          skip
          refine mixPE_chain ?_
          obtain ⟨y499, h500, hb⟩ := bd hb
          refine mixE.cl hM (⟨_, _, op_call (vs := [.slice A493 ((([b_0_1, y45] : List (List Int))).length) c494]) Try.call22 rfl rfl rfl, slices_Concat_Lint_int_ok n (hC.lentLt [.slice A493 ((([b_0_1, y45] : List (List Int))).length) c494]) ((hC.ow (i := 0) rfl).lend (vs := [.slice A493 ((([b_0_1, y45] : List (List Int))).length) c494]) (by simp)) h500⟩) ?_
          rintro _ w505 ⟨A501, m502, c503, rfl, hK⟩
          replace hM := hM.none hK.fr
          replace hD := hM.wide (H := ([] : List Fact))
          refine ⟨hM, ?_⟩
          replace hC := hC.mergeF hK rfl
          clear hK
          obtain ⟨rfl, hl506, hc507⟩ := (hC.ow (i := 0) rfl).sl_len
          refine mixE.nil ?_
          refine mixPE_chain ?_
          refine mixE.pure (v := .agg #[.int .i64 b_0_0, .slice A501 y499.length c503]) (pu_builds (places := [(0, 1), (1, 1)]) (pv := [(0, .int .i64 b_0_0), (1, .slice A501 y499.length c503)]) Try.type24 Try.underlying24 rfl (mp_cons Try.type3 (mp_cons Try.type22 mp_nil rfl rfl) rfl rfl) rfl (by simp [Instr.fill, Value.cells])) ?_
          refine mixE.nil ?_
          refine mixPE_alt ?_ ?_
          ·
           skip
           refine mixPE_chain ?_
           replace hC := hC.freeze (i := 0) rfl (hC.own_new (i := 0) rfl)
           obtain ⟨y508, h509, hb⟩ := bd hb
           refine mixE.cl hM (⟨_, _, op_call (vs := [.agg #[.int .i64 b_0_0, .slice A501 y499.length c503]]) Try.call13 rfl rfl rfl, garside_Form_ok n hC.lt hb_0_0 (hC.rd (i := 0) rfl) h509⟩) ?_
           rintro _ w517 ⟨A512, m513, c514, rfl, hr510, hr511, hr516, hK⟩
           replace hM := hM.none hK.fr
           replace hD := hM.wide (H := ([] : List Fact))
           refine ⟨hM, ?_⟩
           replace hC := hC.merge hK
           clear hK
           obtain ⟨rfl, hl518, hc519⟩ := (hC.rd (i := 0) rfl).sl_len
           refine mixE.nil ?_
           refine mixPE_chain ?_
           refine mixE.pure (v := .tuple #[.agg #[.int .i64 y508.1, .int .i64 y508.2.1, .slice A512 y508.2.2.1.length c514], .int .i64 y508.2.2.2]) (pu_move rfl) ?_
           refine mixE.pure (v := .agg #[.int .i64 y508.1, .int .i64 y508.2.1, .slice A512 y508.2.2.1.length c514]) (pu_extract rfl rfl) ?_
           refine mixE.pure (v := .int .i64 y508.2.2.2) (pu_extract rfl rfl) ?_
           refine mixE.op hM (hC.alloc (cs := [.int .i64 0, .int .i64 0, .slice none 0 0]) Try.zeroValue28 rfl) ?_
           rintro _ w521 ⟨g520, rfl, hC, hF, hG⟩
           have hUf522 : g520 < w492.heap.size → g520 ∈ blocks (([] : List Fact) ++ ([] : List Fact)) := fun h => absurd (Nat.lt_of_lt_of_le h (Nat.le_trans hM.size hG)) (Nat.lt_irrefl _)
           clear hG
           replace hM := hM.none hF
           replace hD := hM.wide (H := ([] : List Fact))
           refine ⟨hM, ?_⟩
           refine mixE.sk hD (hC.seta (i := 0) (ds := [.int .i64 y508.1, .int .i64 y508.2.1, .slice A512 y508.2.2.1.length c514]) rfl Try.type28 rfl rfl rfl rfl rfl) ?_
           rintro w523 ⟨hC, hF⟩
           replace hD := hD.besideG hUf522 hF
           clear hF
           refine ⟨hD, ?_⟩
           refine mixE.pure (v := .int .i64 y508.2.2.2) (pu_assign rfl) ?_
           refine mixE.nil ?_
           clear hS hM
           clear hD
           refine hK490 _ _ ?_
           refine Wc.fresh fun E524 hE => ?_
           have e2 : E524 2 = .bool false := (congrFun hE 2).trans e2
           have e4 : E524 4 = .pointer (some ⟨g67, 0, none⟩) := (congrFun hE 4).trans e4
           have e5 : E524 5 = .int .i64 y55.2.2.2 := (congrFun hE 5).trans e5
           have e6 : E524 6 = .pointer (some ⟨g464, 0, none⟩) := (congrFun hE 6).trans e6
           have e7 : E524 7 = .int .i64 y476.2.2.2 := (congrFun hE 7).trans e7
           have e8 : E524 8 = .pointer (some ⟨g520, 0, none⟩) := (congrFun hE 8).trans rfl
           have e9 : E524 9 = .int .i64 y508.2.2.2 := (congrFun hE 9).trans rfl
           clear hE
           refine Wc.seq fun K525 hK525 => ?_
           refine Wc.region (by decide +kernel) ?_
           refine lex.pure (v := .pointer (some ((⟨g67, 0, none⟩ : Addr).add 1))) (pu_field (sz := 1) Try.underlying28 rfl Try.sizeOf3 (by decide) rfl e4) ?_
           refine lex.val (v := .int .i64 y55.2.1) (ld_fld (hC.bx (i := 8) rfl) Try.isAgg3 rfl rfl) ?_
           obtain ⟨z526, h527, hb⟩ := bd hb
           refine lex.pure (v := .int .i64 z526) (pu_addc (a := y55.2.1) (b := 2) rfl rfl h527) ?_
           refine lex.pure (v := .pointer (some ((⟨g67, 0, none⟩ : Addr).add 1))) (pu_field (sz := 1) Try.underlying28 rfl Try.sizeOf3 (by decide) rfl e4) ?_
           refine lex.sk (hC.setf (i := 8) (k := 1) (v := .int .i64 z526) rfl Try.sizeOf3 rfl rfl rfl rfl) ?_
           rintro w528 ⟨hC, hF⟩
           refine lex.nil ?_
           refine hK525 _ _ ?_
           refine Wc.seq fun K529 hK529 => ?_
           refine Wc.region (by decide +kernel) ?_
           refine lex.pure (v := .int .i64 y55.2.2.2) (pu_move e5) ?_
           refine lex.pure (v := .bool (decide (y55.2.2.2 = 0))) (pu_eql (k := .i64) (a := y55.2.2.2) (b := 0) rfl rfl) ?_
           refine lex.pure (v := .bool (decide (y55.2.2.2 = 0))) (pu_move rfl) ?_
           rcases bS (decide (y55.2.2.2 = 0)) with hq530 | hq530
           ·
            replace hb := (cT hq530).symm.trans hb
            refine lex.gpure (want_t rfl rfl (show _ = Value.bool (decide (y55.2.2.2 = 0)) from rfl) hq530) (v := .int .i64 y476.2.2.2) (pu_move e7) ?_
            refine lex.gpure (want_t rfl rfl (show _ = Value.bool (decide (y55.2.2.2 = 0)) from rfl) hq530) (v := .bool (decide (y476.2.2.2 = 0))) (pu_eql (k := .i64) (a := y476.2.2.2) (b := 0) rfl rfl) ?_
            refine lex.pure (v := .bool (decide (y476.2.2.2 = 0))) (pu_pickT (q := (decide (y55.2.2.2 = 0))) rfl hq530 rfl) ?_
            refine lex.pure (v := .bool (decide (y476.2.2.2 = 0))) (pu_move rfl) ?_
            rcases bS (decide (y476.2.2.2 = 0)) with hq531 | hq531
            ·
             replace hb := (cT hq531).symm.trans hb
             refine lex.gpure (want_t rfl rfl (show _ = Value.bool (decide (y476.2.2.2 = 0)) from rfl) hq531) (v := .int .i64 y508.2.2.2) (pu_move e9) ?_
             refine lex.gpure (want_t rfl rfl (show _ = Value.bool (decide (y476.2.2.2 = 0)) from rfl) hq531) (v := .bool (decide (y508.2.2.2 = 0))) (pu_eql (k := .i64) (a := y508.2.2.2) (b := 0) rfl rfl) ?_
             refine lex.pure (v := .bool (decide (y508.2.2.2 = 0))) (pu_pickT (q := (decide (y476.2.2.2 = 0))) rfl hq531 rfl) ?_
             refine lex.pure (v := .bool (decide (y508.2.2.2 = 0))) (pu_move rfl) ?_
             rcases bS (decide (y508.2.2.2 = 0)) with hq532 | hq532
             ·
              replace hb := (cT hq532).symm.trans hb
              refine lex.gval (want_t rfl rfl (show _ = Value.bool (decide (y508.2.2.2 = 0)) from rfl) hq532) (v := .agg #[.int .i64 y476.1, .int .i64 y476.2.1, .slice A480 y476.2.2.1.length c482]) (ld_blk (hC.bx (i := 6) rfl) Try.isAgg28 Try.sizeOf28 e6) ?_
              refine lex.gval (want_t rfl rfl (show _ = Value.bool (decide (y508.2.2.2 = 0)) from rfl) hq532) (v := .agg #[.int .i64 y55.1, .int .i64 z526, .slice A59 y55.2.2.1.length c61]) (ld_blk (hC.bx (i := 8) rfl) Try.isAgg28 Try.sizeOf28 e4) ?_
              obtain ⟨y533, h534, hb⟩ := bd hb
              refine lex.gcl (want_t rfl rfl (show _ = Value.bool (decide (y508.2.2.2 = 0)) from rfl) hq532) (⟨_, _, op_call (vs := [.agg #[.int .i64 y476.1, .int .i64 y476.2.1, .slice A480 y476.2.2.1.length c482], .agg #[.int .i64 y55.1, .int .i64 z526, .slice A59 y55.2.2.1.length c61]]) Try.call23 rfl rfl rfl, law34_equal_ok n hC.lt hr478 hr479 (hC.rd (i := 4) rfl) hr57 (chk_rng h527) (hC.rd (i := 9) rfl) h534⟩) ?_
              rintro _ w535 ⟨rfl, hK⟩
              replace hC := hC.merge hK
              clear hK
              refine lex.pure (v := .bool y533) (pu_pickT (q := (decide (y508.2.2.2 = 0))) rfl hq532 rfl) ?_
              refine lex.pure (v := .bool y533) (pu_move rfl) ?_
              rcases bS y533 with hq536 | hq536
              ·
               replace hb := (cT hq536).symm.trans hb
               refine lex.gval (want_t rfl rfl (show _ = Value.bool y533 from rfl) hq536) (v := .agg #[.int .i64 y508.1, .int .i64 y508.2.1, .slice A512 y508.2.2.1.length c514]) (ld_blk (hC.bx (i := 0) rfl) Try.isAgg28 Try.sizeOf28 e8) ?_
               refine lex.gval (want_t rfl rfl (show _ = Value.bool y533 from rfl) hq536) (v := .agg #[.int .i64 y55.1, .int .i64 z526, .slice A59 y55.2.2.1.length c61]) (ld_blk (hC.bx (i := 8) rfl) Try.isAgg28 Try.sizeOf28 e4) ?_
               obtain ⟨y537, h538, hb⟩ := bd hb
               refine lex.gcl (want_t rfl rfl (show _ = Value.bool y533 from rfl) hq536) (⟨_, _, op_call (vs := [.agg #[.int .i64 y508.1, .int .i64 y508.2.1, .slice A512 y508.2.2.1.length c514], .agg #[.int .i64 y55.1, .int .i64 z526, .slice A59 y55.2.2.1.length c61]]) Try.call23 rfl rfl rfl, law34_equal_ok n hC.lt hr510 hr511 (hC.rd (i := 1) rfl) hr57 (chk_rng h527) (hC.rd (i := 9) rfl) h538⟩) ?_
               rintro _ w539 ⟨rfl, hK⟩
               replace hC := hC.merge hK
               clear hK
               refine lex.pure (v := .bool y537) (pu_pickT (q := y533) rfl hq536 rfl) ?_
               refine lex.pure (v := .bool y537) (pu_assign rfl) ?_
               refine lex.nil ?_
               refine hK529 _ _ ?_
               obtain rfl := Option.some.inj hb
               refine Wc.ret ?_
               refine hKR _ _ ?_
               refine ⟨_, res1 Try.results5 (show RV _ _ _ (.tmp _) (.bool y537) from rfl), _, rfl, rfl, hC.sel [] (by decide)⟩
              ·
               replace hb := (cF hq536).symm.trans hb
               refine lex.gskip (want_f rfl rfl (show _ = Value.bool y533 from rfl) hq536) ?_
               refine lex.gskip (want_f rfl rfl (show _ = Value.bool y533 from rfl) hq536) ?_
               refine lex.gskip (want_f rfl rfl (show _ = Value.bool y533 from rfl) hq536) ?_
               refine lex.pure (v := .bool false) (pu_pickF (q := y533) rfl hq536 rfl) ?_
               refine lex.pure (v := .bool false) (pu_assign rfl) ?_
               refine lex.nil ?_
               refine hK529 _ _ ?_
               obtain rfl := Option.some.inj hb
               refine Wc.ret ?_
               refine hKR _ _ ?_
               refine ⟨_, res1 Try.results5 (show RV _ _ _ (.tmp _) (.bool false) from rfl), _, rfl, rfl, hC.sel [] (by decide)⟩
             ·
              replace hb := (cF hq532).symm.trans hb
              refine lex.gskip (want_f rfl rfl (show _ = Value.bool (decide (y508.2.2.2 = 0)) from rfl) hq532) ?_
              refine lex.gskip (want_f rfl rfl (show _ = Value.bool (decide (y508.2.2.2 = 0)) from rfl) hq532) ?_
              refine lex.gskip (want_f rfl rfl (show _ = Value.bool (decide (y508.2.2.2 = 0)) from rfl) hq532) ?_
              refine lex.pure (v := .bool false) (pu_pickF (q := (decide (y508.2.2.2 = 0))) rfl hq532 rfl) ?_
              refine lex.pure (v := .bool false) (pu_move rfl) ?_
              refine lex.gskip (want_f rfl rfl (show _ = Value.bool false from rfl) rfl) ?_
              refine lex.gskip (want_f rfl rfl (show _ = Value.bool false from rfl) rfl) ?_
              refine lex.gskip (want_f rfl rfl (show _ = Value.bool false from rfl) rfl) ?_
              refine lex.pure (v := .bool false) (pu_pickF (q := false) rfl rfl rfl) ?_
              refine lex.pure (v := .bool false) (pu_assign rfl) ?_
              refine lex.nil ?_
              refine hK529 _ _ ?_
              obtain rfl := Option.some.inj hb
              refine Wc.ret ?_
              refine hKR _ _ ?_
              refine ⟨_, res1 Try.results5 (show RV _ _ _ (.tmp _) (.bool false) from rfl), _, rfl, rfl, hC.sel [] (by decide)⟩
            ·
             replace hb := (cF hq531).symm.trans hb
             refine lex.gskip (want_f rfl rfl (show _ = Value.bool (decide (y476.2.2.2 = 0)) from rfl) hq531) ?_
             refine lex.gskip (want_f rfl rfl (show _ = Value.bool (decide (y476.2.2.2 = 0)) from rfl) hq531) ?_
             refine lex.pure (v := .bool false) (pu_pickF (q := (decide (y476.2.2.2 = 0))) rfl hq531 rfl) ?_
             refine lex.pure (v := .bool false) (pu_move rfl) ?_
             refine lex.gskip (want_f rfl rfl (show _ = Value.bool false from rfl) rfl) ?_
             refine lex.gskip (want_f rfl rfl (show _ = Value.bool false from rfl) rfl) ?_
             refine lex.gskip (want_f rfl rfl (show _ = Value.bool false from rfl) rfl) ?_
             refine lex.pure (v := .bool false) (pu_pickF (q := false) rfl rfl rfl) ?_
             refine lex.pure (v := .bool false) (pu_move rfl) ?_
             refine lex.gskip (want_f rfl rfl (show _ = Value.bool false from rfl) rfl) ?_
             refine lex.gskip (want_f rfl rfl (show _ = Value.bool false from rfl) rfl) ?_
             refine lex.gskip (want_f rfl rfl (show _ = Value.bool false from rfl) rfl) ?_
             refine lex.pure (v := .bool false) (pu_pickF (q := false) rfl rfl rfl) ?_
             refine lex.pure (v := .bool false) (pu_assign rfl) ?_
             refine lex.nil ?_
             refine hK529 _ _ ?_
             obtain rfl := Option.some.inj hb
             refine Wc.ret ?_
             refine hKR _ _ ?_
             refine ⟨_, res1 Try.results5 (show RV _ _ _ (.tmp _) (.bool false) from rfl), _, rfl, rfl, hC.sel [] (by decide)⟩
           ·
            replace hb := (cF hq530).symm.trans hb
            refine lex.gskip (want_f rfl rfl (show _ = Value.bool (decide (y55.2.2.2 = 0)) from rfl) hq530) ?_
            refine lex.gskip (want_f rfl rfl (show _ = Value.bool (decide (y55.2.2.2 = 0)) from rfl) hq530) ?_
            refine lex.pure (v := .bool false) (pu_pickF (q := (decide (y55.2.2.2 = 0))) rfl hq530 rfl) ?_
            refine lex.pure (v := .bool false) (pu_move rfl) ?_
            refine lex.gskip (want_f rfl rfl (show _ = Value.bool false from rfl) rfl) ?_
            refine lex.gskip (want_f rfl rfl (show _ = Value.bool false from rfl) rfl) ?_
            refine lex.pure (v := .bool false) (pu_pickF (q := false) rfl rfl rfl) ?_
            refine lex.pure (v := .bool false) (pu_move rfl) ?_
            refine lex.gskip (want_f rfl rfl (show _ = Value.bool false from rfl) rfl) ?_
            refine lex.gskip (want_f rfl rfl (show _ = Value.bool false from rfl) rfl) ?_
            refine lex.gskip (want_f rfl rfl (show _ = Value.bool false from rfl) rfl) ?_
            refine lex.pure (v := .bool false) (pu_pickF (q := false) rfl rfl rfl) ?_
            refine lex.pure (v := .bool false) (pu_move rfl) ?_
            refine lex.gskip (want_f rfl rfl (show _ = Value.bool false from rfl) rfl) ?_
            refine lex.gskip (want_f rfl rfl (show _ = Value.bool false from rfl) rfl) ?_
            refine lex.gskip (want_f rfl rfl (show _ = Value.bool false from rfl) rfl) ?_
            refine lex.pure (v := .bool false) (pu_pickF (q := false) rfl rfl rfl) ?_
            refine lex.pure (v := .bool false) (pu_assign rfl) ?_
            refine lex.nil ?_
            refine hK529 _ _ ?_
            obtain rfl := Option.some.inj hb
            refine Wc.ret ?_
            refine hKR _ _ ?_
            refine ⟨_, res1 Try.results5 (show RV _ _ _ (.tmp _) (.bool false) from rfl), _, rfl, rfl, hC.sel [] (by decide)⟩
          ·
           skip
           refine mixPE_chain ?_
           refine mixE.op hM (hC.alloc (cs := [.int .i64 0, .int .i64 0, .slice none 0 0]) Try.zeroValue28 rfl) ?_
           rintro _ w541 ⟨g540, rfl, hC, hF, hG⟩
           have hUf542 : g540 < w492.heap.size → g540 ∈ blocks (([] : List Fact) ++ ([] : List Fact)) := fun h => absurd (Nat.lt_of_lt_of_le h (Nat.le_trans hM.size hG)) (Nat.lt_irrefl _)
           clear hG
           replace hM := hM.none hF
           replace hD := hM.wide (H := ([] : List Fact))
           refine ⟨hM, ?_⟩
           refine mixE.nil ?_
           refine mixPE_chain ?_
           replace hC := hC.freeze (i := 1) rfl (hC.own_new (i := 1) rfl)
           obtain ⟨y543, h544, hb⟩ := bd hb
           refine mixE.cl hM (⟨_, _, op_call (vs := [.agg #[.int .i64 b_0_0, .slice A501 y499.length c503]]) Try.call13 rfl rfl rfl, garside_Form_ok n hC.lt hb_0_0 (hC.rd (i := 1) rfl) h544⟩) ?_
           rintro _ w552 ⟨A547, m548, c549, rfl, hr545, hr546, hr551, hK⟩
           replace hM := hM.none hK.fr
           replace hD := hM.wide (H := ([] : List Fact))
           refine ⟨hM, ?_⟩
           replace hC := hC.merge hK
           clear hK
           obtain ⟨rfl, hl553, hc554⟩ := (hC.rd (i := 0) rfl).sl_len
           refine mixE.pure (v := .tuple #[.agg #[.int .i64 y543.1, .int .i64 y543.2.1, .slice A547 y543.2.2.1.length c549], .int .i64 y543.2.2.2]) (pu_move rfl) ?_
           refine mixE.pure (v := .agg #[.int .i64 y543.1, .int .i64 y543.2.1, .slice A547 y543.2.2.1.length c549]) (pu_extract rfl rfl) ?_
           refine mixE.pure (v := .int .i64 y543.2.2.2) (pu_extract rfl rfl) ?_
           refine mixE.sk hD (hC.seta (i := 1) (ds := [.int .i64 y543.1, .int .i64 y543.2.1, .slice A547 y543.2.2.1.length c549]) rfl Try.type28 rfl rfl rfl rfl rfl) ?_
           rintro w555 ⟨hC, hF⟩
           replace hD := hD.besideG hUf542 hF
           clear hF
           refine ⟨hD, ?_⟩
           refine mixE.pure (v := .int .i64 y543.2.2.2) (pu_assign rfl) ?_
           refine mixE.nil ?_
           clear hS hM
           clear hD
           refine hK490 _ _ ?_
           refine Wc.fresh fun E556 hE => ?_
           have e2 : E556 2 = .bool false := (congrFun hE 2).trans e2
           have e4 : E556 4 = .pointer (some ⟨g67, 0, none⟩) := (congrFun hE 4).trans e4
           have e5 : E556 5 = .int .i64 y55.2.2.2 := (congrFun hE 5).trans e5
           have e6 : E556 6 = .pointer (some ⟨g464, 0, none⟩) := (congrFun hE 6).trans e6
           have e7 : E556 7 = .int .i64 y476.2.2.2 := (congrFun hE 7).trans e7
           have e8 : E556 8 = .pointer (some ⟨g540, 0, none⟩) := (congrFun hE 8).trans rfl
           have e9 : E556 9 = .int .i64 y543.2.2.2 := (congrFun hE 9).trans rfl
           clear hE
           refine Wc.seq fun K557 hK557 => ?_
           refine Wc.region (by decide +kernel) ?_
           refine lex.pure (v := .pointer (some ((⟨g67, 0, none⟩ : Addr).add 1))) (pu_field (sz := 1) Try.underlying28 rfl Try.sizeOf3 (by decide) rfl e4) ?_
           refine lex.val (v := .int .i64 y55.2.1) (ld_fld (hC.bx (i := 8) rfl) Try.isAgg3 rfl rfl) ?_
           obtain ⟨z558, h559, hb⟩ := bd hb
           refine lex.pure (v := .int .i64 z558) (pu_addc (a := y55.2.1) (b := 2) rfl rfl h559) ?_
           refine lex.pure (v := .pointer (some ((⟨g67, 0, none⟩ : Addr).add 1))) (pu_field (sz := 1) Try.underlying28 rfl Try.sizeOf3 (by decide) rfl e4) ?_
           refine lex.sk (hC.setf (i := 8) (k := 1) (v := .int .i64 z558) rfl Try.sizeOf3 rfl rfl rfl rfl) ?_
           rintro w560 ⟨hC, hF⟩
           refine lex.nil ?_
           refine hK557 _ _ ?_
           refine Wc.seq fun K561 hK561 => ?_
           refine Wc.region (by decide +kernel) ?_
           refine lex.pure (v := .int .i64 y55.2.2.2) (pu_move e5) ?_
           refine lex.pure (v := .bool (decide (y55.2.2.2 = 0))) (pu_eql (k := .i64) (a := y55.2.2.2) (b := 0) rfl rfl) ?_
           refine lex.pure (v := .bool (decide (y55.2.2.2 = 0))) (pu_move rfl) ?_
           rcases bS (decide (y55.2.2.2 = 0)) with hq562 | hq562
           ·
            replace hb := (cT hq562).symm.trans hb
            refine lex.gpure (want_t rfl rfl (show _ = Value.bool (decide (y55.2.2.2 = 0)) from rfl) hq562) (v := .int .i64 y476.2.2.2) (pu_move e7) ?_
            refine lex.gpure (want_t rfl rfl (show _ = Value.bool (decide (y55.2.2.2 = 0)) from rfl) hq562) (v := .bool (decide (y476.2.2.2 = 0))) (pu_eql (k := .i64) (a := y476.2.2.2) (b := 0) rfl rfl) ?_
            refine lex.pure (v := .bool (decide (y476.2.2.2 = 0))) (pu_pickT (q := (decide (y55.2.2.2 = 0))) rfl hq562 rfl) ?_
            refine lex.pure (v := .bool (decide (y476.2.2.2 = 0))) (pu_move rfl) ?_
            rcases bS (decide (y476.2.2.2 = 0)) with hq563 | hq563
            ·
             replace hb := (cT hq563).symm.trans hb
             refine lex.gpure (want_t rfl rfl (show _ = Value.bool (decide (y476.2.2.2 = 0)) from rfl) hq563) (v := .int .i64 y543.2.2.2) (pu_move e9) ?_
             refine lex.gpure (want_t rfl rfl (show _ = Value.bool (decide (y476.2.2.2 = 0)) from rfl) hq563) (v := .bool (decide (y543.2.2.2 = 0))) (pu_eql (k := .i64) (a := y543.2.2.2) (b := 0) rfl rfl) ?_
             refine lex.pure (v := .bool (decide (y543.2.2.2 = 0))) (pu_pickT (q := (decide (y476.2.2.2 = 0))) rfl hq563 rfl) ?_
             refine lex.pure (v := .bool (decide (y543.2.2.2 = 0))) (pu_move rfl) ?_
             rcases bS (decide (y543.2.2.2 = 0)) with hq564 | hq564
             ·
              replace hb := (cT hq564).symm.trans hb
              refine lex.gval (want_t rfl rfl (show _ = Value.bool (decide (y543.2.2.2 = 0)) from rfl) hq564) (v := .agg #[.int .i64 y476.1, .int .i64 y476.2.1, .slice A480 y476.2.2.1.length c482]) (ld_blk (hC.bx (i := 6) rfl) Try.isAgg28 Try.sizeOf28 e6) ?_
              refine lex.gval (want_t rfl rfl (show _ = Value.bool (decide (y543.2.2.2 = 0)) from rfl) hq564) (v := .agg #[.int .i64 y55.1, .int .i64 z558, .slice A59 y55.2.2.1.length c61]) (ld_blk (hC.bx (i := 8) rfl) Try.isAgg28 Try.sizeOf28 e4) ?_
              obtain ⟨y565, h566, hb⟩ := bd hb
              refine lex.gcl (want_t rfl rfl (show _ = Value.bool (decide (y543.2.2.2 = 0)) from rfl) hq564) (⟨_, _, op_call (vs := [.agg #[.int .i64 y476.1, .int .i64 y476.2.1, .slice A480 y476.2.2.1.length c482], .agg #[.int .i64 y55.1, .int .i64 z558, .slice A59 y55.2.2.1.length c61]]) Try.call23 rfl rfl rfl, law34_equal_ok n hC.lt hr478 hr479 (hC.rd (i := 4) rfl) hr57 (chk_rng h559) (hC.rd (i := 9) rfl) h566⟩) ?_
              rintro _ w567 ⟨rfl, hK⟩
              replace hC := hC.merge hK
              clear hK
              refine lex.pure (v := .bool y565) (pu_pickT (q := (decide (y543.2.2.2 = 0))) rfl hq564 rfl) ?_
              refine lex.pure (v := .bool y565) (pu_move rfl) ?_
              rcases bS y565 with hq568 | hq568
              ·
               replace hb := (cT hq568).symm.trans hb
               refine lex.gval (want_t rfl rfl (show _ = Value.bool y565 from rfl) hq568) (v := .agg #[.int .i64 y543.1, .int .i64 y543.2.1, .slice A547 y543.2.2.1.length c549]) (ld_blk (hC.bx (i := 1) rfl) Try.isAgg28 Try.sizeOf28 e8) ?_
               refine lex.gval (want_t rfl rfl (show _ = Value.bool y565 from rfl) hq568) (v := .agg #[.int .i64 y55.1, .int .i64 z558, .slice A59 y55.2.2.1.length c61]) (ld_blk (hC.bx (i := 8) rfl) Try.isAgg28 Try.sizeOf28 e4) ?_
               obtain ⟨y569, h570, hb⟩ := bd hb
               refine lex.gcl (want_t rfl rfl (show _ = Value.bool y565 from rfl) hq568) (⟨_, _, op_call (vs := [.agg #[.int .i64 y543.1, .int .i64 y543.2.1, .slice A547 y543.2.2.1.length c549], .agg #[.int .i64 y55.1, .int .i64 z558, .slice A59 y55.2.2.1.length c61]]) Try.call23 rfl rfl rfl, law34_equal_ok n hC.lt hr545 hr546 (hC.rd (i := 0) rfl) hr57 (chk_rng h559) (hC.rd (i := 9) rfl) h570⟩) ?_
               rintro _ w571 ⟨rfl, hK⟩
               replace hC := hC.merge hK
               clear hK
               refine lex.pure (v := .bool y569) (pu_pickT (q := y565) rfl hq568 rfl) ?_
               refine lex.pure (v := .bool y569) (pu_assign rfl) ?_
               refine lex.nil ?_
               refine hK561 _ _ ?_
               obtain rfl := Option.some.inj hb
               refine Wc.ret ?_
               refine hKR _ _ ?_
               refine ⟨_, res1 Try.results5 (show RV _ _ _ (.tmp _) (.bool y569) from rfl), _, rfl, rfl, hC.sel [] (by decide)⟩
              ·
               replace hb := (cF hq568).symm.trans hb
               refine lex.gskip (want_f rfl rfl (show _ = Value.bool y565 from rfl) hq568) ?_
               refine lex.gskip (want_f rfl rfl (show _ = Value.bool y565 from rfl) hq568) ?_
               refine lex.gskip (want_f rfl rfl (show _ = Value.bool y565 from rfl) hq568) ?_
               refine lex.pure (v := .bool false) (pu_pickF (q := y565) rfl hq568 rfl) ?_
               refine lex.pure (v := .bool false) (pu_assign rfl) ?_
               refine lex.nil ?_
               refine hK561 _ _ ?_
               obtain rfl := Option.some.inj hb
               refine Wc.ret ?_
               refine hKR _ _ ?_
               refine ⟨_, res1 Try.results5 (show RV _ _ _ (.tmp _) (.bool false) from rfl), _, rfl, rfl, hC.sel [] (by decide)⟩
             ·
              replace hb := (cF hq564).symm.trans hb
              refine lex.gskip (want_f rfl rfl (show _ = Value.bool (decide (y543.2.2.2 = 0)) from rfl) hq564) ?_
              refine lex.gskip (want_f rfl rfl (show _ = Value.bool (decide (y543.2.2.2 = 0)) from rfl) hq564) ?_
              refine lex.gskip (want_f rfl rfl (show _ = Value.bool (decide (y543.2.2.2 = 0)) from rfl) hq564) ?_
              refine lex.pure (v := .bool false) (pu_pickF (q := (decide (y543.2.2.2 = 0))) rfl hq564 rfl) ?_
              refine lex.pure (v := .bool false) (pu_move rfl) ?_
              refine lex.gskip (want_f rfl rfl (show _ = Value.bool false from rfl) rfl) ?_
              refine lex.gskip (want_f rfl rfl (show _ = Value.bool false from rfl) rfl) ?_
              refine lex.gskip (want_f rfl rfl (show _ = Value.bool false from rfl) rfl) ?_
              refine lex.pure (v := .bool false) (pu_pickF (q := false) rfl rfl rfl) ?_
              refine lex.pure (v := .bool false) (pu_assign rfl) ?_
              refine lex.nil ?_
              refine hK561 _ _ ?_
              obtain rfl := Option.some.inj hb
              refine Wc.ret ?_
              refine hKR _ _ ?_
              refine ⟨_, res1 Try.results5 (show RV _ _ _ (.tmp _) (.bool false) from rfl), _, rfl, rfl, hC.sel [] (by decide)⟩
            ·
             replace hb := (cF hq563).symm.trans hb
             refine lex.gskip (want_f rfl rfl (show _ = Value.bool (decide (y476.2.2.2 = 0)) from rfl) hq563) ?_
             refine lex.gskip (want_f rfl rfl (show _ = Value.bool (decide (y476.2.2.2 = 0)) from rfl) hq563) ?_
             refine lex.pure (v := .bool false) (pu_pickF (q := (decide (y476.2.2.2 = 0))) rfl hq563 rfl) ?_
             refine lex.pure (v := .bool false) (pu_move rfl) ?_
             refine lex.gskip (want_f rfl rfl (show _ = Value.bool false from rfl) rfl) ?_
             refine lex.gskip (want_f rfl rfl (show _ = Value.bool false from rfl) rfl) ?_
             refine lex.gskip (want_f rfl rfl (show _ = Value.bool false from rfl) rfl) ?_
             refine lex.pure (v := .bool false) (pu_pickF (q := false) rfl rfl rfl) ?_
             refine lex.pure (v := .bool false) (pu_move rfl) ?_
             refine lex.gskip (want_f rfl rfl (show _ = Value.bool false from rfl) rfl) ?_
             refine lex.gskip (want_f rfl rfl (show _ = Value.bool false from rfl) rfl) ?_
             refine lex.gskip (want_f rfl rfl (show _ = Value.bool false from rfl) rfl) ?_
             refine lex.pure (v := .bool false) (pu_pickF (q := false) rfl rfl rfl) ?_
             refine lex.pure (v := .bool false) (pu_assign rfl) ?_
             refine lex.nil ?_
             refine hK561 _ _ ?_
             obtain rfl := Option.some.inj hb
             refine Wc.ret ?_
             refine hKR _ _ ?_
             refine ⟨_, res1 Try.results5 (show RV _ _ _ (.tmp _) (.bool false) from rfl), _, rfl, rfl, hC.sel [] (by decide)⟩
           ·
            replace hb := (cF hq562).symm.trans hb
            refine lex.gskip (want_f rfl rfl (show _ = Value.bool (decide (y55.2.2.2 = 0)) from rfl) hq562) ?_
            refine lex.gskip (want_f rfl rfl (show _ = Value.bool (decide (y55.2.2.2 = 0)) from rfl) hq562) ?_
            refine lex.pure (v := .bool false) (pu_pickF (q := (decide (y55.2.2.2 = 0))) rfl hq562 rfl) ?_
            refine lex.pure (v := .bool false) (pu_move rfl) ?_
            refine lex.gskip (want_f rfl rfl (show _ = Value.bool false from rfl) rfl) ?_
            refine lex.gskip (want_f rfl rfl (show _ = Value.bool false from rfl) rfl) ?_
            refine lex.pure (v := .bool false) (pu_pickF (q := false) rfl rfl rfl) ?_
            refine lex.pure (v := .bool false) (pu_move rfl) ?_
            refine lex.gskip (want_f rfl rfl (show _ = Value.bool false from rfl) rfl) ?_
            refine lex.gskip (want_f rfl rfl (show _ = Value.bool false from rfl) rfl) ?_
            refine lex.gskip (want_f rfl rfl (show _ = Value.bool false from rfl) rfl) ?_
            refine lex.pure (v := .bool false) (pu_pickF (q := false) rfl rfl rfl) ?_
            refine lex.pure (v := .bool false) (pu_move rfl) ?_
            refine lex.gskip (want_f rfl rfl (show _ = Value.bool false from rfl) rfl) ?_
            refine lex.gskip (want_f rfl rfl (show _ = Value.bool false from rfl) rfl) ?_
            refine lex.gskip (want_f rfl rfl (show _ = Value.bool false from rfl) rfl) ?_
            refine lex.pure (v := .bool false) (pu_pickF (q := false) rfl rfl rfl) ?_
            refine lex.pure (v := .bool false) (pu_assign rfl) ?_
            refine lex.nil ?_
            refine hK561 _ _ ?_
            obtain rfl := Option.some.inj hb
            refine Wc.ret ?_
            refine hKR _ _ ?_
            refine ⟨_, res1 Try.results5 (show RV _ _ _ (.tmp _) (.bool false) from rfl), _, rfl, rfl, hC.sel [] (by decide)⟩
         ·
          skip
          refine mixPE_chain ?_
          refine mixE.op hM (hC.alloc (cs := [.int .i64 0, .int .i64 0, .slice none 0 0]) Try.zeroValue28 rfl) ?_
          rintro _ w573 ⟨g572, rfl, hC, hF, hG⟩
          have hUf574 : g572 < w492.heap.size → g572 ∈ blocks (([] : List Fact) ++ ([] : List Fact)) := fun h => absurd (Nat.lt_of_lt_of_le h (Nat.le_trans hM.size hG)) (Nat.lt_irrefl _)
          clear hG
          replace hM := hM.none hF
          replace hD := hM.wide (H := ([] : List Fact))
          refine ⟨hM, ?_⟩
          refine mixE.nil ?_
          refine mixPE_chain ?_
          obtain ⟨y575, h576, hb⟩ := bd hb
          refine mixE.cl hM (⟨_, _, op_call (vs := [.slice A493 ((([b_0_1, y45] : List (List Int))).length) c494]) Try.call22 rfl rfl rfl, slices_Concat_Lint_int_ok n (hC.lentLt [.slice A493 ((([b_0_1, y45] : List (List Int))).length) c494]) ((hC.ow (i := 1) rfl).lend (vs := [.slice A493 ((([b_0_1, y45] : List (List Int))).length) c494]) (by simp)) h576⟩) ?_
          rintro _ w581 ⟨A577, m578, c579, rfl, hK⟩
          replace hM := hM.none hK.fr
          replace hD := hM.wide (H := ([] : List Fact))
          refine ⟨hM, ?_⟩
          replace hC := hC.mergeF hK rfl
          clear hK
          obtain ⟨rfl, hl582, hc583⟩ := (hC.ow (i := 0) rfl).sl_len
          refine mixE.pure (v := .agg #[.int .i64 b_0_0, .slice A577 y575.length c579]) (pu_builds (places := [(0, 1), (1, 1)]) (pv := [(0, .int .i64 b_0_0), (1, .slice A577 y575.length c579)]) Try.type24 Try.underlying24 rfl (mp_cons Try.type3 (mp_cons Try.type22 mp_nil rfl rfl) rfl rfl) rfl (by simp [Instr.fill, Value.cells])) ?_
          replace hC := hC.freeze (i := 0) rfl (hC.own_new (i := 0) rfl)
          obtain ⟨y584, h585, hb⟩ := bd hb
          refine mixE.cl hM (⟨_, _, op_call (vs := [.agg #[.int .i64 b_0_0, .slice A577 y575.length c579]]) Try.call13 rfl rfl rfl, garside_Form_ok n hC.lt hb_0_0 (hC.rd (i := 0) rfl) h585⟩) ?_
          rintro _ w593 ⟨A588, m589, c590, rfl, hr586, hr587, hr592, hK⟩
          replace hM := hM.none hK.fr
          replace hD := hM.wide (H := ([] : List Fact))
          refine ⟨hM, ?_⟩
          replace hC := hC.merge hK
          clear hK
          obtain ⟨rfl, hl594, hc595⟩ := (hC.rd (i := 0) rfl).sl_len
          refine mixE.pure (v := .tuple #[.agg #[.int .i64 y584.1, .int .i64 y584.2.1, .slice A588 y584.2.2.1.length c590], .int .i64 y584.2.2.2]) (pu_move rfl) ?_
          refine mixE.pure (v := .agg #[.int .i64 y584.1, .int .i64 y584.2.1, .slice A588 y584.2.2.1.length c590]) (pu_extract rfl rfl) ?_
          refine mixE.pure (v := .int .i64 y584.2.2.2) (pu_extract rfl rfl) ?_
          refine mixE.sk hD (hC.seta (i := 2) (ds := [.int .i64 y584.1, .int .i64 y584.2.1, .slice A588 y584.2.2.1.length c590]) rfl Try.type28 rfl rfl rfl rfl rfl) ?_
          rintro w596 ⟨hC, hF⟩
          replace hD := hD.besideG hUf574 hF
          clear hF
          refine ⟨hD, ?_⟩
          refine mixE.pure (v := .int .i64 y584.2.2.2) (pu_assign rfl) ?_
          refine mixE.nil ?_
          clear hS hM
          clear hD
          refine hK490 _ _ ?_
          refine Wc.fresh fun E597 hE => ?_
          have e2 : E597 2 = .bool false := (congrFun hE 2).trans e2
          have e4 : E597 4 = .pointer (some ⟨g67, 0, none⟩) := (congrFun hE 4).trans e4
          have e5 : E597 5 = .int .i64 y55.2.2.2 := (congrFun hE 5).trans e5
          have e6 : E597 6 = .pointer (some ⟨g464, 0, none⟩) := (congrFun hE 6).trans e6
          have e7 : E597 7 = .int .i64 y476.2.2.2 := (congrFun hE 7).trans e7
          have e8 : E597 8 = .pointer (some ⟨g572, 0, none⟩) := (congrFun hE 8).trans rfl
          have e9 : E597 9 = .int .i64 y584.2.2.2 := (congrFun hE 9).trans rfl
          clear hE
          refine Wc.seq fun K598 hK598 => ?_
          refine Wc.region (by decide +kernel) ?_
          refine lex.pure (v := .pointer (some ((⟨g67, 0, none⟩ : Addr).add 1))) (pu_field (sz := 1) Try.underlying28 rfl Try.sizeOf3 (by decide) rfl e4) ?_
          refine lex.val (v := .int .i64 y55.2.1) (ld_fld (hC.bx (i := 8) rfl) Try.isAgg3 rfl rfl) ?_
          obtain ⟨z599, h600, hb⟩ := bd hb
          refine lex.pure (v := .int .i64 z599) (pu_addc (a := y55.2.1) (b := 2) rfl rfl h600) ?_
          refine lex.pure (v := .pointer (some ((⟨g67, 0, none⟩ : Addr).add 1))) (pu_field (sz := 1) Try.underlying28 rfl Try.sizeOf3 (by decide) rfl e4) ?_
          refine lex.sk (hC.setf (i := 8) (k := 1) (v := .int .i64 z599) rfl Try.sizeOf3 rfl rfl rfl rfl) ?_
          rintro w601 ⟨hC, hF⟩
          refine lex.nil ?_
          refine hK598 _ _ ?_
          refine Wc.seq fun K602 hK602 => ?_
          refine Wc.region (by decide +kernel) ?_
          refine lex.pure (v := .int .i64 y55.2.2.2) (pu_move e5) ?_
          refine lex.pure (v := .bool (decide (y55.2.2.2 = 0))) (pu_eql (k := .i64) (a := y55.2.2.2) (b := 0) rfl rfl) ?_
          refine lex.pure (v := .bool (decide (y55.2.2.2 = 0))) (pu_move rfl) ?_
          rcases bS (decide (y55.2.2.2 = 0)) with hq603 | hq603
          ·
           replace hb := (cT hq603).symm.trans hb
           refine lex.gpure (want_t rfl rfl (show _ = Value.bool (decide (y55.2.2.2 = 0)) from rfl) hq603) (v := .int .i64 y476.2.2.2) (pu_move e7) ?_
           refine lex.gpure (want_t rfl rfl (show _ = Value.bool (decide (y55.2.2.2 = 0)) from rfl) hq603) (v := .bool (decide (y476.2.2.2 = 0))) (pu_eql (k := .i64) (a := y476.2.2.2) (b := 0) rfl rfl) ?_
           refine lex.pure (v := .bool (decide (y476.2.2.2 = 0))) (pu_pickT (q := (decide (y55.2.2.2 = 0))) rfl hq603 rfl) ?_
           refine lex.pure (v := .bool (decide (y476.2.2.2 = 0))) (pu_move rfl) ?_
           rcases bS (decide (y476.2.2.2 = 0)) with hq604 | hq604
           ·
            replace hb := (cT hq604).symm.trans hb
            refine lex.gpure (want_t rfl rfl (show _ = Value.bool (decide (y476.2.2.2 = 0)) from rfl) hq604) (v := .int .i64 y584.2.2.2) (pu_move e9) ?_
            refine lex.gpure (want_t rfl rfl (show _ = Value.bool (decide (y476.2.2.2 = 0)) from rfl) hq604) (v := .bool (decide (y584.2.2.2 = 0))) (pu_eql (k := .i64) (a := y584.2.2.2) (b := 0) rfl rfl) ?_
            refine lex.pure (v := .bool (decide (y584.2.2.2 = 0))) (pu_pickT (q := (decide (y476.2.2.2 = 0))) rfl hq604 rfl) ?_
            refine lex.pure (v := .bool (decide (y584.2.2.2 = 0))) (pu_move rfl) ?_
            rcases bS (decide (y584.2.2.2 = 0)) with hq605 | hq605
            ·
             replace hb := (cT hq605).symm.trans hb
             refine lex.gval (want_t rfl rfl (show _ = Value.bool (decide (y584.2.2.2 = 0)) from rfl) hq605) (v := .agg #[.int .i64 y476.1, .int .i64 y476.2.1, .slice A480 y476.2.2.1.length c482]) (ld_blk (hC.bx (i := 6) rfl) Try.isAgg28 Try.sizeOf28 e6) ?_
             refine lex.gval (want_t rfl rfl (show _ = Value.bool (decide (y584.2.2.2 = 0)) from rfl) hq605) (v := .agg #[.int .i64 y55.1, .int .i64 z599, .slice A59 y55.2.2.1.length c61]) (ld_blk (hC.bx (i := 8) rfl) Try.isAgg28 Try.sizeOf28 e4) ?_
             obtain ⟨y606, h607, hb⟩ := bd hb
             refine lex.gcl (want_t rfl rfl (show _ = Value.bool (decide (y584.2.2.2 = 0)) from rfl) hq605) (⟨_, _, op_call (vs := [.agg #[.int .i64 y476.1, .int .i64 y476.2.1, .slice A480 y476.2.2.1.length c482], .agg #[.int .i64 y55.1, .int .i64 z599, .slice A59 y55.2.2.1.length c61]]) Try.call23 rfl rfl rfl, law34_equal_ok n hC.lt hr478 hr479 (hC.rd (i := 4) rfl) hr57 (chk_rng h600) (hC.rd (i := 9) rfl) h607⟩) ?_
             rintro _ w608 ⟨rfl, hK⟩
             replace hC := hC.merge hK
             clear hK
             refine lex.pure (v := .bool y606) (pu_pickT (q := (decide (y584.2.2.2 = 0))) rfl hq605 rfl) ?_
             refine lex.pure (v := .bool y606) (pu_move rfl) ?_
             rcases bS y606 with hq609 | hq609
             ·
              replace hb := (cT hq609).symm.trans hb
              refine lex.gval (want_t rfl rfl (show _ = Value.bool y606 from rfl) hq609) (v := .agg #[.int .i64 y584.1, .int .i64 y584.2.1, .slice A588 y584.2.2.1.length c590]) (ld_blk (hC.bx (i := 2) rfl) Try.isAgg28 Try.sizeOf28 e8) ?_
              refine lex.gval (want_t rfl rfl (show _ = Value.bool y606 from rfl) hq609) (v := .agg #[.int .i64 y55.1, .int .i64 z599, .slice A59 y55.2.2.1.length c61]) (ld_blk (hC.bx (i := 8) rfl) Try.isAgg28 Try.sizeOf28 e4) ?_
              obtain ⟨y610, h611, hb⟩ := bd hb
              refine lex.gcl (want_t rfl rfl (show _ = Value.bool y606 from rfl) hq609) (⟨_, _, op_call (vs := [.agg #[.int .i64 y584.1, .int .i64 y584.2.1, .slice A588 y584.2.2.1.length c590], .agg #[.int .i64 y55.1, .int .i64 z599, .slice A59 y55.2.2.1.length c61]]) Try.call23 rfl rfl rfl, law34_equal_ok n hC.lt hr586 hr587 (hC.rd (i := 0) rfl) hr57 (chk_rng h600) (hC.rd (i := 9) rfl) h611⟩) ?_
              rintro _ w612 ⟨rfl, hK⟩
              replace hC := hC.merge hK
              clear hK
              refine lex.pure (v := .bool y610) (pu_pickT (q := y606) rfl hq609 rfl) ?_
              refine lex.pure (v := .bool y610) (pu_assign rfl) ?_
              refine lex.nil ?_
              refine hK602 _ _ ?_
              obtain rfl := Option.some.inj hb
              refine Wc.ret ?_
              refine hKR _ _ ?_
              refine ⟨_, res1 Try.results5 (show RV _ _ _ (.tmp _) (.bool y610) from rfl), _, rfl, rfl, hC.sel [] (by decide)⟩
             ·
              replace hb := (cF hq609).symm.trans hb
              refine lex.gskip (want_f rfl rfl (show _ = Value.bool y606 from rfl) hq609) ?_
              refine lex.gskip (want_f rfl rfl (show _ = Value.bool y606 from rfl) hq609) ?_
              refine lex.gskip (want_f rfl rfl (show _ = Value.bool y606 from rfl) hq609) ?_
              refine lex.pure (v := .bool false) (pu_pickF (q := y606) rfl hq609 rfl) ?_
              refine lex.pure (v := .bool false) (pu_assign rfl) ?_
              refine lex.nil ?_
              refine hK602 _ _ ?_
              obtain rfl := Option.some.inj hb
              refine Wc.ret ?_
              refine hKR _ _ ?_
              refine ⟨_, res1 Try.results5 (show RV _ _ _ (.tmp _) (.bool false) from rfl), _, rfl, rfl, hC.sel [] (by decide)⟩
            ·
             replace hb := (cF hq605).symm.trans hb
             refine lex.gskip (want_f rfl rfl (show _ = Value.bool (decide (y584.2.2.2 = 0)) from rfl) hq605) ?_
             refine lex.gskip (want_f rfl rfl (show _ = Value.bool (decide (y584.2.2.2 = 0)) from rfl) hq605) ?_
             refine lex.gskip (want_f rfl rfl (show _ = Value.bool (decide (y584.2.2.2 = 0)) from rfl) hq605) ?_
             refine lex.pure (v := .bool false) (pu_pickF (q := (decide (y584.2.2.2 = 0))) rfl hq605 rfl) ?_
             refine lex.pure (v := .bool false) (pu_move rfl) ?_
             refine lex.gskip (want_f rfl rfl (show _ = Value.bool false from rfl) rfl) ?_
             refine lex.gskip (want_f rfl rfl (show _ = Value.bool false from rfl) rfl) ?_
             refine lex.gskip (want_f rfl rfl (show _ = Value.bool false from rfl) rfl) ?_
             refine lex.pure (v := .bool false) (pu_pickF (q := false) rfl rfl rfl) ?_
             refine lex.pure (v := .bool false) (pu_assign rfl) ?_
             refine lex.nil ?_
             refine hK602 _ _ ?_
             obtain rfl := Option.some.inj hb
             refine Wc.ret ?_
             refine hKR _ _ ?_
             refine ⟨_, res1 Try.results5 (show RV _ _ _ (.tmp _) (.bool false) from rfl), _, rfl, rfl, hC.sel [] (by decide)⟩
           ·
            replace hb := (cF hq604).symm.trans hb
            refine lex.gskip (want_f rfl rfl (show _ = Value.bool (decide (y476.2.2.2 = 0)) from rfl) hq604) ?_
            refine lex.gskip (want_f rfl rfl (show _ = Value.bool (decide (y476.2.2.2 = 0)) from rfl) hq604) ?_
            refine lex.pure (v := .bool false) (pu_pickF (q := (decide (y476.2.2.2 = 0))) rfl hq604 rfl) ?_
            refine lex.pure (v := .bool false) (pu_move rfl) ?_
            refine lex.gskip (want_f rfl rfl (show _ = Value.bool false from rfl) rfl) ?_
            refine lex.gskip (want_f rfl rfl (show _ = Value.bool false from rfl) rfl) ?_
            refine lex.gskip (want_f rfl rfl (show _ = Value.bool false from rfl) rfl) ?_
            refine lex.pure (v := .bool false) (pu_pickF (q := false) rfl rfl rfl) ?_
            refine lex.pure (v := .bool false) (pu_move rfl) ?_
            refine lex.gskip (want_f rfl rfl (show _ = Value.bool false from rfl) rfl) ?_
            refine lex.gskip (want_f rfl rfl (show _ = Value.bool false from rfl) rfl) ?_
            refine lex.gskip (want_f rfl rfl (show _ = Value.bool false from rfl) rfl) ?_
            refine lex.pure (v := .bool false) (pu_pickF (q := false) rfl rfl rfl) ?_
            refine lex.pure (v := .bool false) (pu_assign rfl) ?_
            refine lex.nil ?_
            refine hK602 _ _ ?_
            obtain rfl := Option.some.inj hb
            refine Wc.ret ?_
            refine hKR _ _ ?_
            refine ⟨_, res1 Try.results5 (show RV _ _ _ (.tmp _) (.bool false) from rfl), _, rfl, rfl, hC.sel [] (by decide)⟩
          ·
           replace hb := (cF hq603).symm.trans hb
           refine lex.gskip (want_f rfl rfl (show _ = Value.bool (decide (y55.2.2.2 = 0)) from rfl) hq603) ?_
           refine lex.gskip (want_f rfl rfl (show _ = Value.bool (decide (y55.2.2.2 = 0)) from rfl) hq603) ?_
           refine lex.pure (v := .bool false) (pu_pickF (q := (decide (y55.2.2.2 = 0))) rfl hq603 rfl) ?_
           refine lex.pure (v := .bool false) (pu_move rfl) ?_
           refine lex.gskip (want_f rfl rfl (show _ = Value.bool false from rfl) rfl) ?_
           refine lex.gskip (want_f rfl rfl (show _ = Value.bool false from rfl) rfl) ?_
           refine lex.pure (v := .bool false) (pu_pickF (q := false) rfl rfl rfl) ?_
           refine lex.pure (v := .bool false) (pu_move rfl) ?_
           refine lex.gskip (want_f rfl rfl (show _ = Value.bool false from rfl) rfl) ?_
           refine lex.gskip (want_f rfl rfl (show _ = Value.bool false from rfl) rfl) ?_
           refine lex.gskip (want_f rfl rfl (show _ = Value.bool false from rfl) rfl) ?_
           refine lex.pure (v := .bool false) (pu_pickF (q := false) rfl rfl rfl) ?_
           refine lex.pure (v := .bool false) (pu_move rfl) ?_
           refine lex.gskip (want_f rfl rfl (show _ = Value.bool false from rfl) rfl) ?_
           refine lex.gskip (want_f rfl rfl (show _ = Value.bool false from rfl) rfl) ?_
           refine lex.gskip (want_f rfl rfl (show _ = Value.bool false from rfl) rfl) ?_
           refine lex.pure (v := .bool false) (pu_pickF (q := false) rfl rfl rfl) ?_
           refine lex.pure (v := .bool false) (pu_assign rfl) ?_
           refine lex.nil ?_
           refine hK602 _ _ ?_
           obtain rfl := Option.some.inj hb
           refine Wc.ret ?_
           refine hKR _ _ ?_
           refine ⟨_, res1 Try.results5 (show RV _ _ _ (.tmp _) (.bool false) from rfl), _, rfl, rfl, hC.sel [] (by decide)⟩
        ·
         skip
         refine mixPE_chain ?_
         refine mixE.op hM (hC.alloc (cs := [.int .i64 0, .int .i64 0, .slice none 0 0]) Try.zeroValue28 rfl) ?_
         rintro _ w614 ⟨g613, rfl, hC, hF, hG⟩
         have hUf615 : g613 < w492.heap.size → g613 ∈ blocks (([] : List Fact) ++ ([] : List Fact)) := fun h => absurd (Nat.lt_of_lt_of_le h (Nat.le_trans hM.size hG)) (Nat.lt_irrefl _)
         clear hG
         replace hM := hM.none hF
         replace hD := hM.wide (H := ([] : List Fact))
         refine ⟨hM, ?_⟩
         refine mixE.nil ?_
         refine mixPE_chain ?_
         refine mixE.op hM (hC.lit (s := (.sl (.int .i64))) (vs := [.slice Ab_0_1 b_0_1.length cb_0_1, .slice A47 y45.length c49]) (xs := [b_0_1, y45]) Try.underlying35 Try.type22 rfl rfl (Nat.le_of_ble_eq_true rfl) rfl rfl (by simp [Value.cells, Sh.n]) rfl (show Elems _ _ (.sl (.int .i64)) ([.slice Ab_0_1 b_0_1.length cb_0_1] ++ ([.slice A47 y45.length c49] ++ ([]))) ([b_0_1, y45] : List (List Int)) from Elems.cons (hC.rd (i := 9) rfl) (Elems.cons (hC.rd (i := 7) rfl) (Elems.nil _ _ _)))) ?_
         rintro _ w620 ⟨A616, c617, rfl, hl618, hc619, hC, hF, hN⟩
         have hBf621 := Beside.new hM hN
         have hUf621 := Beside.new (hM.wide (H := ([] : List Fact))) hN
         replace hM := hM.none hF
         replace hD := hM.wide (H := ([] : List Fact))
         refine ⟨hM, ?_⟩
         clear hF hN
         obtain ⟨y622, h623, hb⟩ := bd hb
         refine mixE.cl hM (⟨_, _, op_call (vs := [.slice A616 ((([b_0_1, y45] : List (List Int))).length) c617]) Try.call22 rfl rfl rfl, slices_Concat_Lint_int_ok n (hC.lentLt [.slice A616 ((([b_0_1, y45] : List (List Int))).length) c617]) ((hC.ow (i := 0) rfl).lend (vs := [.slice A616 ((([b_0_1, y45] : List (List Int))).length) c617]) (by simp)) h623⟩) ?_
         rintro _ w628 ⟨A624, m625, c626, rfl, hK⟩
         replace hM := hM.none hK.fr
         replace hD := hM.wide (H := ([] : List Fact))
         refine ⟨hM, ?_⟩
         replace hC := hC.mergeF hK rfl
         clear hK
         obtain ⟨rfl, hl629, hc630⟩ := (hC.ow (i := 0) rfl).sl_len
         refine mixE.pure (v := .agg #[.int .i64 b_0_0, .slice A624 y622.length c626]) (pu_builds (places := [(0, 1), (1, 1)]) (pv := [(0, .int .i64 b_0_0), (1, .slice A624 y622.length c626)]) Try.type24 Try.underlying24 rfl (mp_cons Try.type3 (mp_cons Try.type22 mp_nil rfl rfl) rfl rfl) rfl (by simp [Instr.fill, Value.cells])) ?_
         replace hC := hC.freeze (i := 0) rfl (hC.own_new (i := 0) rfl)
         obtain ⟨y631, h632, hb⟩ := bd hb
         refine mixE.cl hM (⟨_, _, op_call (vs := [.agg #[.int .i64 b_0_0, .slice A624 y622.length c626]]) Try.call13 rfl rfl rfl, garside_Form_ok n hC.lt hb_0_0 (hC.rd (i := 0) rfl) h632⟩) ?_
         rintro _ w640 ⟨A635, m636, c637, rfl, hr633, hr634, hr639, hK⟩
         replace hM := hM.none hK.fr
         replace hD := hM.wide (H := ([] : List Fact))
         refine ⟨hM, ?_⟩
         replace hC := hC.merge hK
         clear hK
         obtain ⟨rfl, hl641, hc642⟩ := (hC.rd (i := 0) rfl).sl_len
         refine mixE.pure (v := .tuple #[.agg #[.int .i64 y631.1, .int .i64 y631.2.1, .slice A635 y631.2.2.1.length c637], .int .i64 y631.2.2.2]) (pu_move rfl) ?_
         refine mixE.pure (v := .agg #[.int .i64 y631.1, .int .i64 y631.2.1, .slice A635 y631.2.2.1.length c637]) (pu_extract rfl rfl) ?_
         refine mixE.pure (v := .int .i64 y631.2.2.2) (pu_extract rfl rfl) ?_
         refine mixE.sk hD (hC.seta (i := 3) (ds := [.int .i64 y631.1, .int .i64 y631.2.1, .slice A635 y631.2.2.1.length c637]) rfl Try.type28 rfl rfl rfl rfl rfl) ?_
         rintro w643 ⟨hC, hF⟩
         replace hD := hD.besideG hUf615 hF
         clear hF
         refine ⟨hD, ?_⟩
         refine mixE.pure (v := .int .i64 y631.2.2.2) (pu_assign rfl) ?_
         refine mixE.nil ?_
         clear hS hM
         clear hD
         refine hK490 _ _ ?_
         refine Wc.fresh fun E644 hE => ?_
         have e2 : E644 2 = .bool false := (congrFun hE 2).trans e2
         have e4 : E644 4 = .pointer (some ⟨g67, 0, none⟩) := (congrFun hE 4).trans e4
         have e5 : E644 5 = .int .i64 y55.2.2.2 := (congrFun hE 5).trans e5
         have e6 : E644 6 = .pointer (some ⟨g464, 0, none⟩) := (congrFun hE 6).trans e6
         have e7 : E644 7 = .int .i64 y476.2.2.2 := (congrFun hE 7).trans e7
         have e8 : E644 8 = .pointer (some ⟨g613, 0, none⟩) := (congrFun hE 8).trans rfl
         have e9 : E644 9 = .int .i64 y631.2.2.2 := (congrFun hE 9).trans rfl
         clear hE
         refine Wc.seq fun K645 hK645 => ?_
         refine Wc.region (by decide +kernel) ?_
         refine lex.pure (v := .pointer (some ((⟨g67, 0, none⟩ : Addr).add 1))) (pu_field (sz := 1) Try.underlying28 rfl Try.sizeOf3 (by decide) rfl e4) ?_
         refine lex.val (v := .int .i64 y55.2.1) (ld_fld (hC.bx (i := 8) rfl) Try.isAgg3 rfl rfl) ?_
         obtain ⟨z646, h647, hb⟩ := bd hb
         refine lex.pure (v := .int .i64 z646) (pu_addc (a := y55.2.1) (b := 2) rfl rfl h647) ?_
         refine lex.pure (v := .pointer (some ((⟨g67, 0, none⟩ : Addr).add 1))) (pu_field (sz := 1) Try.underlying28 rfl Try.sizeOf3 (by decide) rfl e4) ?_
         refine lex.sk (hC.setf (i := 8) (k := 1) (v := .int .i64 z646) rfl Try.sizeOf3 rfl rfl rfl rfl) ?_
         rintro w648 ⟨hC, hF⟩
         refine lex.nil ?_
         refine hK645 _ _ ?_
         refine Wc.seq fun K649 hK649 => ?_
         refine Wc.region (by decide +kernel) ?_
         refine lex.pure (v := .int .i64 y55.2.2.2) (pu_move e5) ?_
         refine lex.pure (v := .bool (decide (y55.2.2.2 = 0))) (pu_eql (k := .i64) (a := y55.2.2.2) (b := 0) rfl rfl) ?_
         refine lex.pure (v := .bool (decide (y55.2.2.2 = 0))) (pu_move rfl) ?_
         rcases bS (decide (y55.2.2.2 = 0)) with hq650 | hq650
         ·
          replace hb := (cT hq650).symm.trans hb
          refine lex.gpure (want_t rfl rfl (show _ = Value.bool (decide (y55.2.2.2 = 0)) from rfl) hq650) (v := .int .i64 y476.2.2.2) (pu_move e7) ?_
          refine lex.gpure (want_t rfl rfl (show _ = Value.bool (decide (y55.2.2.2 = 0)) from rfl) hq650) (v := .bool (decide (y476.2.2.2 = 0))) (pu_eql (k := .i64) (a := y476.2.2.2) (b := 0) rfl rfl) ?_
          refine lex.pure (v := .bool (decide (y476.2.2.2 = 0))) (pu_pickT (q := (decide (y55.2.2.2 = 0))) rfl hq650 rfl) ?_
          refine lex.pure (v := .bool (decide (y476.2.2.2 = 0))) (pu_move rfl) ?_
          rcases bS (decide (y476.2.2.2 = 0)) with hq651 | hq651
          ·
           replace hb := (cT hq651).symm.trans hb
           refine lex.gpure (want_t rfl rfl (show _ = Value.bool (decide (y476.2.2.2 = 0)) from rfl) hq651) (v := .int .i64 y631.2.2.2) (pu_move e9) ?_
           refine lex.gpure (want_t rfl rfl (show _ = Value.bool (decide (y476.2.2.2 = 0)) from rfl) hq651) (v := .bool (decide (y631.2.2.2 = 0))) (pu_eql (k := .i64) (a := y631.2.2.2) (b := 0) rfl rfl) ?_
           refine lex.pure (v := .bool (decide (y631.2.2.2 = 0))) (pu_pickT (q := (decide (y476.2.2.2 = 0))) rfl hq651 rfl) ?_
           refine lex.pure (v := .bool (decide (y631.2.2.2 = 0))) (pu_move rfl) ?_
           rcases bS (decide (y631.2.2.2 = 0)) with hq652 | hq652
           ·
            replace hb := (cT hq652).symm.trans hb
            refine lex.gval (want_t rfl rfl (show _ = Value.bool (decide (y631.2.2.2 = 0)) from rfl) hq652) (v := .agg #[.int .i64 y476.1, .int .i64 y476.2.1, .slice A480 y476.2.2.1.length c482]) (ld_blk (hC.bx (i := 6) rfl) Try.isAgg28 Try.sizeOf28 e6) ?_
            refine lex.gval (want_t rfl rfl (show _ = Value.bool (decide (y631.2.2.2 = 0)) from rfl) hq652) (v := .agg #[.int .i64 y55.1, .int .i64 z646, .slice A59 y55.2.2.1.length c61]) (ld_blk (hC.bx (i := 8) rfl) Try.isAgg28 Try.sizeOf28 e4) ?_
            obtain ⟨y653, h654, hb⟩ := bd hb
            refine lex.gcl (want_t rfl rfl (show _ = Value.bool (decide (y631.2.2.2 = 0)) from rfl) hq652) (⟨_, _, op_call (vs := [.agg #[.int .i64 y476.1, .int .i64 y476.2.1, .slice A480 y476.2.2.1.length c482], .agg #[.int .i64 y55.1, .int .i64 z646, .slice A59 y55.2.2.1.length c61]]) Try.call23 rfl rfl rfl, law34_equal_ok n hC.lt hr478 hr479 (hC.rd (i := 4) rfl) hr57 (chk_rng h647) (hC.rd (i := 9) rfl) h654⟩) ?_
            rintro _ w655 ⟨rfl, hK⟩
            replace hC := hC.merge hK
            clear hK
            refine lex.pure (v := .bool y653) (pu_pickT (q := (decide (y631.2.2.2 = 0))) rfl hq652 rfl) ?_
            refine lex.pure (v := .bool y653) (pu_move rfl) ?_
            rcases bS y653 with hq656 | hq656
            ·
             replace hb := (cT hq656).symm.trans hb
             refine lex.gval (want_t rfl rfl (show _ = Value.bool y653 from rfl) hq656) (v := .agg #[.int .i64 y631.1, .int .i64 y631.2.1, .slice A635 y631.2.2.1.length c637]) (ld_blk (hC.bx (i := 3) rfl) Try.isAgg28 Try.sizeOf28 e8) ?_
             refine lex.gval (want_t rfl rfl (show _ = Value.bool y653 from rfl) hq656) (v := .agg #[.int .i64 y55.1, .int .i64 z646, .slice A59 y55.2.2.1.length c61]) (ld_blk (hC.bx (i := 8) rfl) Try.isAgg28 Try.sizeOf28 e4) ?_
             obtain ⟨y657, h658, hb⟩ := bd hb
             refine lex.gcl (want_t rfl rfl (show _ = Value.bool y653 from rfl) hq656) (⟨_, _, op_call (vs := [.agg #[.int .i64 y631.1, .int .i64 y631.2.1, .slice A635 y631.2.2.1.length c637], .agg #[.int .i64 y55.1, .int .i64 z646, .slice A59 y55.2.2.1.length c61]]) Try.call23 rfl rfl rfl, law34_equal_ok n hC.lt hr633 hr634 (hC.rd (i := 0) rfl) hr57 (chk_rng h647) (hC.rd (i := 9) rfl) h658⟩) ?_
             rintro _ w659 ⟨rfl, hK⟩
             replace hC := hC.merge hK
             clear hK
             refine lex.pure (v := .bool y657) (pu_pickT (q := y653) rfl hq656 rfl) ?_
             refine lex.pure (v := .bool y657) (pu_assign rfl) ?_
             refine lex.nil ?_
             refine hK649 _ _ ?_
             obtain rfl := Option.some.inj hb
             refine Wc.ret ?_
             refine hKR _ _ ?_
             refine ⟨_, res1 Try.results5 (show RV _ _ _ (.tmp _) (.bool y657) from rfl), _, rfl, rfl, hC.sel [] (by decide)⟩
            ·
             replace hb := (cF hq656).symm.trans hb
             refine lex.gskip (want_f rfl rfl (show _ = Value.bool y653 from rfl) hq656) ?_
             refine lex.gskip (want_f rfl rfl (show _ = Value.bool y653 from rfl) hq656) ?_
             refine lex.gskip (want_f rfl rfl (show _ = Value.bool y653 from rfl) hq656) ?_
             refine lex.pure (v := .bool false) (pu_pickF (q := y653) rfl hq656 rfl) ?_
             refine lex.pure (v := .bool false) (pu_assign rfl) ?_
             refine lex.nil ?_
             refine hK649 _ _ ?_
             obtain rfl := Option.some.inj hb
             refine Wc.ret ?_
             refine hKR _ _ ?_
             refine ⟨_, res1 Try.results5 (show RV _ _ _ (.tmp _) (.bool false) from rfl), _, rfl, rfl, hC.sel [] (by decide)⟩
           ·
            replace hb := (cF hq652).symm.trans hb
            refine lex.gskip (want_f rfl rfl (show _ = Value.bool (decide (y631.2.2.2 = 0)) from rfl) hq652) ?_
            refine lex.gskip (want_f rfl rfl (show _ = Value.bool (decide (y631.2.2.2 = 0)) from rfl) hq652) ?_
            refine lex.gskip (want_f rfl rfl (show _ = Value.bool (decide (y631.2.2.2 = 0)) from rfl) hq652) ?_
            refine lex.pure (v := .bool false) (pu_pickF (q := (decide (y631.2.2.2 = 0))) rfl hq652 rfl) ?_
            refine lex.pure (v := .bool false) (pu_move rfl) ?_
            refine lex.gskip (want_f rfl rfl (show _ = Value.bool false from rfl) rfl) ?_
            refine lex.gskip (want_f rfl rfl (show _ = Value.bool false from rfl) rfl) ?_
            refine lex.gskip (want_f rfl rfl (show _ = Value.bool false from rfl) rfl) ?_
            refine lex.pure (v := .bool false) (pu_pickF (q := false) rfl rfl rfl) ?_
            refine lex.pure (v := .bool false) (pu_assign rfl) ?_
            refine lex.nil ?_
            refine hK649 _ _ ?_
            obtain rfl := Option.some.inj hb
            refine Wc.ret ?_
            refine hKR _ _ ?_
            refine ⟨_, res1 Try.results5 (show RV _ _ _ (.tmp _) (.bool false) from rfl), _, rfl, rfl, hC.sel [] (by decide)⟩
          ·
           replace hb := (cF hq651).symm.trans hb
           refine lex.gskip (want_f rfl rfl (show _ = Value.bool (decide (y476.2.2.2 = 0)) from rfl) hq651) ?_
           refine lex.gskip (want_f rfl rfl (show _ = Value.bool (decide (y476.2.2.2 = 0)) from rfl) hq651) ?_
           refine lex.pure (v := .bool false) (pu_pickF (q := (decide (y476.2.2.2 = 0))) rfl hq651 rfl) ?_
           refine lex.pure (v := .bool false) (pu_move rfl) ?_
           refine lex.gskip (want_f rfl rfl (show _ = Value.bool false from rfl) rfl) ?_
           refine lex.gskip (want_f rfl rfl (show _ = Value.bool false from rfl) rfl) ?_
           refine lex.gskip (want_f rfl rfl (show _ = Value.bool false from rfl) rfl) ?_
           refine lex.pure (v := .bool false) (pu_pickF (q := false) rfl rfl rfl) ?_
           refine lex.pure (v := .bool false) (pu_move rfl) ?_
           refine lex.gskip (want_f rfl rfl (show _ = Value.bool false from rfl) rfl) ?_
           refine lex.gskip (want_f rfl rfl (show _ = Value.bool false from rfl) rfl) ?_
           refine lex.gskip (want_f rfl rfl (show _ = Value.bool false from rfl) rfl) ?_
           refine lex.pure (v := .bool false) (pu_pickF (q := false) rfl rfl rfl) ?_
           refine lex.pure (v := .bool false) (pu_assign rfl) ?_
           refine lex.nil ?_
           refine hK649 _ _ ?_
           obtain rfl := Option.some.inj hb
           refine Wc.ret ?_
           refine hKR _ _ ?_
           refine ⟨_, res1 Try.results5 (show RV _ _ _ (.tmp _) (.bool false) from rfl), _, rfl, rfl, hC.sel [] (by decide)⟩
         ·
          replace hb := (cF hq650).symm.trans hb
          refine lex.gskip (want_f rfl rfl (show _ = Value.bool (decide (y55.2.2.2 = 0)) from rfl) hq650) ?_
          refine lex.gskip (want_f rfl rfl (show _ = Value.bool (decide (y55.2.2.2 = 0)) from rfl) hq650) ?_
          refine lex.pure (v := .bool false) (pu_pickF (q := (decide (y55.2.2.2 = 0))) rfl hq650 rfl) ?_
          refine lex.pure (v := .bool false) (pu_move rfl) ?_
          refine lex.gskip (want_f rfl rfl (show _ = Value.bool false from rfl) rfl) ?_
          refine lex.gskip (want_f rfl rfl (show _ = Value.bool false from rfl) rfl) ?_
          refine lex.pure (v := .bool false) (pu_pickF (q := false) rfl rfl rfl) ?_
          refine lex.pure (v := .bool false) (pu_move rfl) ?_
          refine lex.gskip (want_f rfl rfl (show _ = Value.bool false from rfl) rfl) ?_
          refine lex.gskip (want_f rfl rfl (show _ = Value.bool false from rfl) rfl) ?_
          refine lex.gskip (want_f rfl rfl (show _ = Value.bool false from rfl) rfl) ?_
          refine lex.pure (v := .bool false) (pu_pickF (q := false) rfl rfl rfl) ?_
          refine lex.pure (v := .bool false) (pu_move rfl) ?_
          refine lex.gskip (want_f rfl rfl (show _ = Value.bool false from rfl) rfl) ?_
          refine lex.gskip (want_f rfl rfl (show _ = Value.bool false from rfl) rfl) ?_
          refine lex.gskip (want_f rfl rfl (show _ = Value.bool false from rfl) rfl) ?_
          refine lex.pure (v := .bool false) (pu_pickF (q := false) rfl rfl rfl) ?_
          refine lex.pure (v := .bool false) (pu_assign rfl) ?_
          refine lex.nil ?_
          refine hK649 _ _ ?_
          obtain rfl := Option.some.inj hb
          refine Wc.ret ?_
          refine hKR _ _ ?_
          refine ⟨_, res1 Try.results5 (show RV _ _ _ (.tmp _) (.bool false) from rfl), _, rfl, rfl, hC.sel [] (by decide)⟩
      ·
       skip
       refine mixPE_chain ?_
       refine mixE.op hM (hC.alloc (cs := [.int .i64 0, .int .i64 0, .slice none 0 0]) Try.zeroValue28 rfl) ?_
       rintro _ w661 ⟨g660, rfl, hC, hF, hG⟩
       have hUf662 : g660 < w74.heap.size → g660 ∈ blocks (([] : List Fact) ++ ([] : List Fact)) := fun h => absurd (Nat.lt_of_lt_of_le h (Nat.le_trans hM.size hG)) (Nat.lt_irrefl _)
       clear hG
       replace hM := hM.none hF
       replace hD := hM.wide (H := ([] : List Fact))
       refine ⟨hM, ?_⟩
       refine mixE.nil ?_
       refine mixPE_chain ?_
       replace hC := hC.freeze (i := 3) rfl (hC.own_new (i := 3) rfl)
       refine mixE.op hM (hC.lit (s := (.sl (.int .i64))) (vs := [.slice A47 y45.length c49, .slice Ab_0_1 b_0_1.length cb_0_1]) (xs := [y45, b_0_1]) Try.underlying35 Try.type22 rfl rfl (Nat.le_of_ble_eq_true rfl) rfl rfl (by simp [Value.cells, Sh.n]) rfl (show Elems _ _ (.sl (.int .i64)) ([.slice A47 y45.length c49] ++ ([.slice Ab_0_1 b_0_1.length cb_0_1] ++ ([]))) ([y45, b_0_1] : List (List Int)) from Elems.cons (hC.rd (i := 3) rfl) (Elems.cons (hC.rd (i := 5) rfl) (Elems.nil _ _ _)))) ?_
       rintro _ w667 ⟨A663, c664, rfl, hl665, hc666, hC, hF, hN⟩
       have hBf668 := Beside.new hM hN
       have hUf668 := Beside.new (hM.wide (H := ([] : List Fact))) hN
       replace hM := hM.none hF
       replace hD := hM.wide (H := ([] : List Fact))
       refine ⟨hM, ?_⟩
       clear hF hN
       obtain ⟨y669, h670, hb⟩ := bd hb
       refine mixE.cl hM (⟨_, _, op_call (vs := [.slice A663 ((([y45, b_0_1] : List (List Int))).length) c664]) Try.call22 rfl rfl rfl, slices_Concat_Lint_int_ok n (hC.lentLt [.slice A663 ((([y45, b_0_1] : List (List Int))).length) c664]) ((hC.ow (i := 0) rfl).lend (vs := [.slice A663 ((([y45, b_0_1] : List (List Int))).length) c664]) (by simp)) h670⟩) ?_
       rintro _ w675 ⟨A671, m672, c673, rfl, hK⟩
       replace hM := hM.none hK.fr
       replace hD := hM.wide (H := ([] : List Fact))
       refine ⟨hM, ?_⟩
       replace hC := hC.mergeF hK rfl
       clear hK
       obtain ⟨rfl, hl676, hc677⟩ := (hC.ow (i := 0) rfl).sl_len
       refine mixE.pure (v := .agg #[.int .i64 b_0_0, .slice A671 y669.length c673]) (pu_builds (places := [(0, 1), (1, 1)]) (pv := [(0, .int .i64 b_0_0), (1, .slice A671 y669.length c673)]) Try.type24 Try.underlying24 rfl (mp_cons Try.type3 (mp_cons Try.type22 mp_nil rfl rfl) rfl rfl) rfl (by simp [Instr.fill, Value.cells])) ?_
       replace hC := hC.freeze (i := 0) rfl (hC.own_new (i := 0) rfl)
       obtain ⟨y678, h679, hb⟩ := bd hb
       refine mixE.cl hM (⟨_, _, op_call (vs := [.agg #[.int .i64 b_0_0, .slice A671 y669.length c673]]) Try.call13 rfl rfl rfl, garside_Form_ok n hC.lt hb_0_0 (hC.rd (i := 0) rfl) h679⟩) ?_
       rintro _ w687 ⟨A682, m683, c684, rfl, hr680, hr681, hr686, hK⟩
       replace hM := hM.none hK.fr
       replace hD := hM.wide (H := ([] : List Fact))
       refine ⟨hM, ?_⟩
       replace hC := hC.merge hK
       clear hK
       obtain ⟨rfl, hl688, hc689⟩ := (hC.rd (i := 0) rfl).sl_len
       refine mixE.pure (v := .tuple #[.agg #[.int .i64 y678.1, .int .i64 y678.2.1, .slice A682 y678.2.2.1.length c684], .int .i64 y678.2.2.2]) (pu_move rfl) ?_
       refine mixE.pure (v := .agg #[.int .i64 y678.1, .int .i64 y678.2.1, .slice A682 y678.2.2.1.length c684]) (pu_extract rfl rfl) ?_
       refine mixE.pure (v := .int .i64 y678.2.2.2) (pu_extract rfl rfl) ?_
       refine mixE.sk hD (hC.seta (i := 3) (ds := [.int .i64 y678.1, .int .i64 y678.2.1, .slice A682 y678.2.2.1.length c684]) rfl Try.type28 rfl rfl rfl rfl rfl) ?_
       rintro w690 ⟨hC, hF⟩
       replace hD := hD.besideG hUf662 hF
       clear hF
       refine ⟨hD, ?_⟩
       refine mixE.pure (v := .int .i64 y678.2.2.2) (pu_assign rfl) ?_
       refine mixE.nil ?_
       clear hS hM
       clear hD
       refine hK72 _ _ ?_
       refine Wc.fresh fun E691 hE => ?_
       have e1 : E691 1 = .pointer (some ⟨g3, 0, none⟩) := (congrFun hE 1).trans e1
       have e2 : E691 2 = .bool false := (congrFun hE 2).trans e2
       have e3 : E691 3 = .slice A47 y45.length c49 := (congrFun hE 3).trans e3
       have e4 : E691 4 = .pointer (some ⟨g67, 0, none⟩) := (congrFun hE 4).trans e4
       have e5 : E691 5 = .int .i64 y55.2.2.2 := (congrFun hE 5).trans e5
       have e6 : E691 6 = .pointer (some ⟨g660, 0, none⟩) := (congrFun hE 6).trans rfl
       have e7 : E691 7 = .int .i64 y678.2.2.2 := (congrFun hE 7).trans rfl
       clear hE
       refine Wc.seq fun K692 hK692 => ?_
       refine Wc.regionPlan [56, 58] (frm [56, 58] ([] : List Fact) ([] : List Fact)) (chainP [0, 1, 2, 3, 4] (.alt (chainP [5] (.alt (chainP [6] (chainP [7] (.alt (chainP [8] (chainP [9, 10, 11, 12, 13, 14] .done)) (chainP [12] (chainP [8, 9, 10, 11, 13, 14] .done))))) (chainP [12] (chainP [6, 7, 8, 9, 10, 11, 13, 14] .done)))) (chainP [12] (chainP [5, 6, 7, 8, 9, 10, 11, 13, 14] .done)))) (fun _ => rfl) mixed (by decide +kernel) (by decide +kernel) fun w694 hw693 => ?_
       replace hC := hC.step (Fr.of_drew hw693)
       have hM := Fr.refl (fun k => k ∈ blocks ([] : List Fact)) w694
       clear hw693
       have hS := hC
       have hD : Fr (fun k => k ∈ blocks (([] : List Fact) ++ ([] : List Fact))) w694 w694 := hM.wide
       refine mixPE_chain ?_
       refine mixE.pure (v := .pointer (some ((⟨g3, 0, none⟩ : Addr).add 0))) (pu_field (sz := 1) Try.underlying24 rfl Try.sizeOf3 (by decide) rfl e1) ?_
       refine mixE.steady hD (v := .int .i64 b_0_0) (fun _ hF => ld_fld (hS.bx2 (i := 7) rfl [] (by decide) hF) Try.isAgg3 rfl rfl) ?_
       refine mixE.pure (v := .pointer (some ((⟨g3, 0, none⟩ : Addr).add 1))) (pu_field (sz := 1) Try.underlying24 rfl Try.sizeOf22 (by decide) rfl e1) ?_
       refine mixE.steady hD (v := .slice Ab_0_1 b_0_1.length cb_0_1) (fun _ hF => ld_fld (hS.bx2 (i := 7) rfl [] (by decide) hF) Try.isAgg22 rfl rfl) ?_
       refine mixE.pure (v := .slice A47 y45.length c49) (pu_move e3) ?_
       refine mixE.nil ?_
       refine mixPE_alt ?_ ?_
       ·
        skip
        refine mixPE_chain ?_
        refine mixE.op hM (hC.lit (s := (.sl (.int .i64))) (vs := [.slice Ab_0_1 b_0_1.length cb_0_1, .slice A47 y45.length c49]) (xs := [b_0_1, y45]) Try.underlying35 Try.type22 rfl rfl (Nat.le_of_ble_eq_true rfl) rfl rfl (by simp [Value.cells, Sh.n]) rfl (show Elems _ _ (.sl (.int .i64)) ([.slice Ab_0_1 b_0_1.length cb_0_1] ++ ([.slice A47 y45.length c49] ++ ([]))) ([b_0_1, y45] : List (List Int)) from Elems.cons (hC.rd (i := 8) rfl) (Elems.cons (hC.rd (i := 6) rfl) (Elems.nil _ _ _)))) ?_
        rintro _ w699 ⟨A695, c696, rfl, hl697, hc698, hC, hF, hN⟩
        have hBf700 := Beside.new hM hN
        have hUf700 := Beside.new (hM.wide (H := ([] : List Fact))) hN
        replace hM := hM.none hF
        replace hD := hM.wide (H := ([] : List Fact))
        refine ⟨hM, ?_⟩
        clear hF hN
        refine mixE.nil ?_
        refine mixPE_alt ?_ ?_
        ·
         skip
         refine mixPE_chain ?_
         obtain ⟨y701, h702, hb⟩ := bd hb
         refine mixE.cl hM (⟨_, _, op_call (vs := [.slice A695 ((([b_0_1, y45] : List (List Int))).length) c696]) Try.call22 rfl rfl rfl, slices_Concat_Lint_int_ok n (hC.lentLt [.slice A695 ((([b_0_1, y45] : List (List Int))).length) c696]) ((hC.ow (i := 0) rfl).lend (vs := [.slice A695 ((([b_0_1, y45] : List (List Int))).length) c696]) (by simp)) h702⟩) ?_
         rintro _ w707 ⟨A703, m704, c705, rfl, hK⟩
         replace hM := hM.none hK.fr
         replace hD := hM.wide (H := ([] : List Fact))
         refine ⟨hM, ?_⟩
         replace hC := hC.mergeF hK rfl
         clear hK
         obtain ⟨rfl, hl708, hc709⟩ := (hC.ow (i := 0) rfl).sl_len
         refine mixE.nil ?_
         refine mixPE_chain ?_
         refine mixE.pure (v := .agg #[.int .i64 b_0_0, .slice A703 y701.length c705]) (pu_builds (places := [(0, 1), (1, 1)]) (pv := [(0, .int .i64 b_0_0), (1, .slice A703 y701.length c705)]) Try.type24 Try.underlying24 rfl (mp_cons Try.type3 (mp_cons Try.type22 mp_nil rfl rfl) rfl rfl) rfl (by simp [Instr.fill, Value.cells])) ?_
         refine mixE.nil ?_
         refine mixPE_alt ?_ ?_
         ·
          skip
          refine mixPE_chain ?_
          replace hC := hC.freeze (i := 0) rfl (hC.own_new (i := 0) rfl)
          obtain ⟨y710, h711, hb⟩ := bd hb
          refine mixE.cl hM (⟨_, _, op_call (vs := [.agg #[.int .i64 b_0_0, .slice A703 y701.length c705]]) Try.call13 rfl rfl rfl, garside_Form_ok n hC.lt hb_0_0 (hC.rd (i := 0) rfl) h711⟩) ?_
          rintro _ w719 ⟨A714, m715, c716, rfl, hr712, hr713, hr718, hK⟩
          replace hM := hM.none hK.fr
          replace hD := hM.wide (H := ([] : List Fact))
          refine ⟨hM, ?_⟩
          replace hC := hC.merge hK
          clear hK
          obtain ⟨rfl, hl720, hc721⟩ := (hC.rd (i := 0) rfl).sl_len
          refine mixE.nil ?_
          refine mixPE_chain ?_
          refine mixE.pure (v := .tuple #[.agg #[.int .i64 y710.1, .int .i64 y710.2.1, .slice A714 y710.2.2.1.length c716], .int .i64 y710.2.2.2]) (pu_move rfl) ?_
          refine mixE.pure (v := .agg #[.int .i64 y710.1, .int .i64 y710.2.1, .slice A714 y710.2.2.1.length c716]) (pu_extract rfl rfl) ?_
          refine mixE.pure (v := .int .i64 y710.2.2.2) (pu_extract rfl rfl) ?_
          refine mixE.op hM (hC.alloc (cs := [.int .i64 0, .int .i64 0, .slice none 0 0]) Try.zeroValue28 rfl) ?_
          rintro _ w723 ⟨g722, rfl, hC, hF, hG⟩
          have hUf724 : g722 < w694.heap.size → g722 ∈ blocks (([] : List Fact) ++ ([] : List Fact)) := fun h => absurd (Nat.lt_of_lt_of_le h (Nat.le_trans hM.size hG)) (Nat.lt_irrefl _)
          clear hG
          replace hM := hM.none hF
          replace hD := hM.wide (H := ([] : List Fact))
          refine ⟨hM, ?_⟩
          refine mixE.sk hD (hC.seta (i := 0) (ds := [.int .i64 y710.1, .int .i64 y710.2.1, .slice A714 y710.2.2.1.length c716]) rfl Try.type28 rfl rfl rfl rfl rfl) ?_
          rintro w725 ⟨hC, hF⟩
          replace hD := hD.besideG hUf724 hF
          clear hF
          refine ⟨hD, ?_⟩
          refine mixE.pure (v := .int .i64 y710.2.2.2) (pu_assign rfl) ?_
          refine mixE.nil ?_
          clear hS hM
          clear hD
          refine hK692 _ _ ?_
          refine Wc.fresh fun E726 hE => ?_
          have e2 : E726 2 = .bool false := (congrFun hE 2).trans e2
          have e4 : E726 4 = .pointer (some ⟨g67, 0, none⟩) := (congrFun hE 4).trans e4
          have e5 : E726 5 = .int .i64 y55.2.2.2 := (congrFun hE 5).trans e5
          have e6 : E726 6 = .pointer (some ⟨g660, 0, none⟩) := (congrFun hE 6).trans e6
          have e7 : E726 7 = .int .i64 y678.2.2.2 := (congrFun hE 7).trans e7
          have e8 : E726 8 = .pointer (some ⟨g722, 0, none⟩) := (congrFun hE 8).trans rfl
          have e9 : E726 9 = .int .i64 y710.2.2.2 := (congrFun hE 9).trans rfl
          clear hE
          refine Wc.seq fun K727 hK727 => ?_
          refine Wc.region (by decide +kernel) ?_
          refine lex.pure (v := .pointer (some ((⟨g67, 0, none⟩ : Addr).add 1))) (pu_field (sz := 1) Try.underlying28 rfl Try.sizeOf3 (by decide) rfl e4) ?_
          refine lex.val (v := .int .i64 y55.2.1) (ld_fld (hC.bx (i := 8) rfl) Try.isAgg3 rfl rfl) ?_
          obtain ⟨z728, h729, hb⟩ := bd hb
          refine lex.pure (v := .int .i64 z728) (pu_addc (a := y55.2.1) (b := 2) rfl rfl h729) ?_
          refine lex.pure (v := .pointer (some ((⟨g67, 0, none⟩ : Addr).add 1))) (pu_field (sz := 1) Try.underlying28 rfl Try.sizeOf3 (by decide) rfl e4) ?_
          refine lex.sk (hC.setf (i := 8) (k := 1) (v := .int .i64 z728) rfl Try.sizeOf3 rfl rfl rfl rfl) ?_
          rintro w730 ⟨hC, hF⟩
          refine lex.nil ?_
          refine hK727 _ _ ?_
          refine Wc.seq fun K731 hK731 => ?_
          refine Wc.region (by decide +kernel) ?_
          refine lex.pure (v := .int .i64 y55.2.2.2) (pu_move e5) ?_
          refine lex.pure (v := .bool (decide (y55.2.2.2 = 0))) (pu_eql (k := .i64) (a := y55.2.2.2) (b := 0) rfl rfl) ?_
          refine lex.pure (v := .bool (decide (y55.2.2.2 = 0))) (pu_move rfl) ?_
          rcases bS (decide (y55.2.2.2 = 0)) with hq732 | hq732
          ·
           replace hb := (cT hq732).symm.trans hb
           refine lex.gpure (want_t rfl rfl (show _ = Value.bool (decide (y55.2.2.2 = 0)) from rfl) hq732) (v := .int .i64 y678.2.2.2) (pu_move e7) ?_
           refine lex.gpure (want_t rfl rfl (show _ = Value.bool (decide (y55.2.2.2 = 0)) from rfl) hq732) (v := .bool (decide (y678.2.2.2 = 0))) (pu_eql (k := .i64) (a := y678.2.2.2) (b := 0) rfl rfl) ?_
           refine lex.pure (v := .bool (decide (y678.2.2.2 = 0))) (pu_pickT (q := (decide (y55.2.2.2 = 0))) rfl hq732 rfl) ?_
           refine lex.pure (v := .bool (decide (y678.2.2.2 = 0))) (pu_move rfl) ?_
           rcases bS (decide (y678.2.2.2 = 0)) with hq733 | hq733
           ·
            replace hb := (cT hq733).symm.trans hb
            refine lex.gpure (want_t rfl rfl (show _ = Value.bool (decide (y678.2.2.2 = 0)) from rfl) hq733) (v := .int .i64 y710.2.2.2) (pu_move e9) ?_
            refine lex.gpure (want_t rfl rfl (show _ = Value.bool (decide (y678.2.2.2 = 0)) from rfl) hq733) (v := .bool (decide (y710.2.2.2 = 0))) (pu_eql (k := .i64) (a := y710.2.2.2) (b := 0) rfl rfl) ?_
            refine lex.pure (v := .bool (decide (y710.2.2.2 = 0))) (pu_pickT (q := (decide (y678.2.2.2 = 0))) rfl hq733 rfl) ?_
            refine lex.pure (v := .bool (decide (y710.2.2.2 = 0))) (pu_move rfl) ?_
            rcases bS (decide (y710.2.2.2 = 0)) with hq734 | hq734
            ·
             replace hb := (cT hq734).symm.trans hb
             refine lex.gval (want_t rfl rfl (show _ = Value.bool (decide (y710.2.2.2 = 0)) from rfl) hq734) (v := .agg #[.int .i64 y678.1, .int .i64 y678.2.1, .slice A682 y678.2.2.1.length c684]) (ld_blk (hC.bx (i := 7) rfl) Try.isAgg28 Try.sizeOf28 e6) ?_
             refine lex.gval (want_t rfl rfl (show _ = Value.bool (decide (y710.2.2.2 = 0)) from rfl) hq734) (v := .agg #[.int .i64 y55.1, .int .i64 z728, .slice A59 y55.2.2.1.length c61]) (ld_blk (hC.bx (i := 8) rfl) Try.isAgg28 Try.sizeOf28 e4) ?_
             obtain ⟨y735, h736, hb⟩ := bd hb
             refine lex.gcl (want_t rfl rfl (show _ = Value.bool (decide (y710.2.2.2 = 0)) from rfl) hq734) (⟨_, _, op_call (vs := [.agg #[.int .i64 y678.1, .int .i64 y678.2.1, .slice A682 y678.2.2.1.length c684], .agg #[.int .i64 y55.1, .int .i64 z728, .slice A59 y55.2.2.1.length c61]]) Try.call23 rfl rfl rfl, law34_equal_ok n hC.lt hr680 hr681 (hC.rd (i := 4) rfl) hr57 (chk_rng h729) (hC.rd (i := 9) rfl) h736⟩) ?_
             rintro _ w737 ⟨rfl, hK⟩
             replace hC := hC.merge hK
             clear hK
             refine lex.pure (v := .bool y735) (pu_pickT (q := (decide (y710.2.2.2 = 0))) rfl hq734 rfl) ?_
             refine lex.pure (v := .bool y735) (pu_move rfl) ?_
             rcases bS y735 with hq738 | hq738
             ·
              replace hb := (cT hq738).symm.trans hb
              refine lex.gval (want_t rfl rfl (show _ = Value.bool y735 from rfl) hq738) (v := .agg #[.int .i64 y710.1, .int .i64 y710.2.1, .slice A714 y710.2.2.1.length c716]) (ld_blk (hC.bx (i := 0) rfl) Try.isAgg28 Try.sizeOf28 e8) ?_
              refine lex.gval (want_t rfl rfl (show _ = Value.bool y735 from rfl) hq738) (v := .agg #[.int .i64 y55.1, .int .i64 z728, .slice A59 y55.2.2.1.length c61]) (ld_blk (hC.bx (i := 8) rfl) Try.isAgg28 Try.sizeOf28 e4) ?_
              obtain ⟨y739, h740, hb⟩ := bd hb
              refine lex.gcl (want_t rfl rfl (show _ = Value.bool y735 from rfl) hq738) (⟨_, _, op_call (vs := [.agg #[.int .i64 y710.1, .int .i64 y710.2.1, .slice A714 y710.2.2.1.length c716], .agg #[.int .i64 y55.1, .int .i64 z728, .slice A59 y55.2.2.1.length c61]]) Try.call23 rfl rfl rfl, law34_equal_ok n hC.lt hr712 hr713 (hC.rd (i := 1) rfl) hr57 (chk_rng h729) (hC.rd (i := 9) rfl) h740⟩) ?_
              rintro _ w741 ⟨rfl, hK⟩
              replace hC := hC.merge hK
              clear hK
              refine lex.pure (v := .bool y739) (pu_pickT (q := y735) rfl hq738 rfl) ?_
              refine lex.pure (v := .bool y739) (pu_assign rfl) ?_
              refine lex.nil ?_
              refine hK731 _ _ ?_
              obtain rfl := Option.some.inj hb
              refine Wc.ret ?_
              refine hKR _ _ ?_
              refine ⟨_, res1 Try.results5 (show RV _ _ _ (.tmp _) (.bool y739) from rfl), _, rfl, rfl, hC.sel [] (by decide)⟩
             ·
              replace hb := (cF hq738).symm.trans hb
              refine lex.gskip (want_f rfl rfl (show _ = Value.bool y735 from rfl) hq738) ?_
              refine lex.gskip (want_f rfl rfl (show _ = Value.bool y735 from rfl) hq738) ?_
              refine lex.gskip (want_f rfl rfl (show _ = Value.bool y735 from rfl) hq738) ?_
              refine lex.pure (v := .bool false) (pu_pickF (q := y735) rfl hq738 rfl) ?_
              refine lex.pure (v := .bool false) (pu_assign rfl) ?_
              refine lex.nil ?_
              refine hK731 _ _ ?_
              obtain rfl := Option.some.inj hb
              refine Wc.ret ?_
              refine hKR _ _ ?_
              refine ⟨_, res1 Try.results5 (show RV _ _ _ (.tmp _) (.bool false) from rfl), _, rfl, rfl, hC.sel [] (by decide)⟩
            ·
             replace hb := (cF hq734).symm.trans hb
             refine lex.gskip (want_f rfl rfl (show _ = Value.bool (decide (y710.2.2.2 = 0)) from rfl) hq734) ?_
             refine lex.gskip (want_f rfl rfl (show _ = Value.bool (decide (y710.2.2.2 = 0)) from rfl) hq734) ?_
             refine lex.gskip (want_f rfl rfl (show _ = Value.bool (decide (y710.2.2.2 = 0)) from rfl) hq734) ?_
             refine lex.pure (v := .bool false) (pu_pickF (q := (decide (y710.2.2.2 = 0))) rfl hq734 rfl) ?_
             refine lex.pure (v := .bool false) (pu_move rfl) ?_
             refine lex.gskip (want_f rfl rfl (show _ = Value.bool false from rfl) rfl) ?_
             refine lex.gskip (want_f rfl rfl (show _ = Value.bool false from rfl) rfl) ?_
             refine lex.gskip (want_f rfl rfl (show _ = Value.bool false from rfl) rfl) ?_
             refine lex.pure (v := .bool false) (pu_pickF (q := false) rfl rfl rfl) ?_
             refine lex.pure (v := .bool false) (pu_assign rfl) ?_
             refine lex.nil ?_
             refine hK731 _ _ ?_
             obtain rfl := Option.some.inj hb
             refine Wc.ret ?_
             refine hKR _ _ ?_
             refine ⟨_, res1 Try.results5 (show RV _ _ _ (.tmp _) (.bool false) from rfl), _, rfl, rfl, hC.sel [] (by decide)⟩
           ·
            replace hb := (cF hq733).symm.trans hb
            refine lex.gskip (want_f rfl rfl (show _ = Value.bool (decide (y678.2.2.2 = 0)) from rfl) hq733) ?_
            refine lex.gskip (want_f rfl rfl (show _ = Value.bool (decide (y678.2.2.2 = 0)) from rfl) hq733) ?_
            refine lex.pure (v := .bool false) (pu_pickF (q := (decide (y678.2.2.2 = 0))) rfl hq733 rfl) ?_
            refine lex.pure (v := .bool false) (pu_move rfl) ?_
            refine lex.gskip (want_f rfl rfl (show _ = Value.bool false from rfl) rfl) ?_
            refine lex.gskip (want_f rfl rfl (show _ = Value.bool false from rfl) rfl) ?_
            refine lex.gskip (want_f rfl rfl (show _ = Value.bool false from rfl) rfl) ?_
            refine lex.pure (v := .bool false) (pu_pickF (q := false) rfl rfl rfl) ?_
            refine lex.pure (v := .bool false) (pu_move rfl) ?_
            refine lex.gskip (want_f rfl rfl (show _ = Value.bool false from rfl) rfl) ?_
            refine lex.gskip (want_f rfl rfl (show _ = Value.bool false from rfl) rfl) ?_
            refine lex.gskip (want_f rfl rfl (show _ = Value.bool false from rfl) rfl) ?_
            refine lex.pure (v := .bool false) (pu_pickF (q := false) rfl rfl rfl) ?_
            refine lex.pure (v := .bool false) (pu_assign rfl) ?_
            refine lex.nil ?_
            refine hK731 _ _ ?_
            obtain rfl := Option.some.inj hb
            refine Wc.ret ?_
            refine hKR _ _ ?_
            refine ⟨_, res1 Try.results5 (show RV _ _ _ (.tmp _) (.bool false) from rfl), _, rfl, rfl, hC.sel [] (by decide)⟩
          ·
           replace hb := (cF hq732).symm.trans hb
           refine lex.gskip (want_f rfl rfl (show _ = Value.bool (decide (y55.2.2.2 = 0)) from rfl) hq732) ?_
           refine lex.gskip (want_f rfl rfl (show _ = Value.bool (decide (y55.2.2.2 = 0)) from rfl) hq732) ?_
           refine lex.pure (v := .bool false) (pu_pickF (q := (decide (y55.2.2.2 = 0))) rfl hq732 rfl) ?_
           refine lex.pure (v := .bool false) (pu_move rfl) ?_
           refine lex.gskip (want_f rfl rfl (show _ = Value.bool false from rfl) rfl) ?_
           refine lex.gskip (want_f rfl rfl (show _ = Value.bool false from rfl) rfl) ?_
           refine lex.pure (v := .bool false) (pu_pickF (q := false) rfl rfl rfl) ?_
           refine lex.pure (v := .bool false) (pu_move rfl) ?_
           refine lex.gskip (want_f rfl rfl (show _ = Value.bool false from rfl) rfl) ?_
           refine lex.gskip (want_f rfl rfl (show _ = Value.bool false from rfl) rfl) ?_
           refine lex.gskip (want_f rfl rfl (show _ = Value.bool false from rfl) rfl) ?_
           refine lex.pure (v := .bool false) (pu_pickF (q := false) rfl rfl rfl) ?_
           refine lex.pure (v := .bool false) (pu_move rfl) ?_
           refine lex.gskip (want_f rfl rfl (show _ = Value.bool false from rfl) rfl) ?_
           refine lex.gskip (want_f rfl rfl (show _ = Value.bool false from rfl) rfl) ?_
           refine lex.gskip (want_f rfl rfl (show _ = Value.bool false from rfl) rfl) ?_
           refine lex.pure (v := .bool false) (pu_pickF (q := false) rfl rfl rfl) ?_
           refine lex.pure (v := .bool false) (pu_assign rfl) ?_
           refine lex.nil ?_
           refine hK731 _ _ ?_
           obtain rfl := Option.some.inj hb
           refine Wc.ret ?_
           refine hKR _ _ ?_
           refine ⟨_, res1 Try.results5 (show RV _ _ _ (.tmp _) (.bool false) from rfl), _, rfl, rfl, hC.sel [] (by decide)⟩
         ·
          skip
          refine mixPE_chain ?_
          refine mixE.op hM (hC.alloc (cs := [.int .i64 0, .int .i64 0, .slice none 0 0]) Try.zeroValue28 rfl) ?_
          rintro _ w743 ⟨g742, rfl, hC, hF, hG⟩
          have hUf744 : g742 < w694.heap.size → g742 ∈ blocks (([] : List Fact) ++ ([] : List Fact)) := fun h => absurd (Nat.lt_of_lt_of_le h (Nat.le_trans hM.size hG)) (Nat.lt_irrefl _)
          clear hG
          replace hM := hM.none hF
          replace hD := hM.wide (H := ([] : List Fact))
          refine ⟨hM, ?_⟩
          refine mixE.nil ?_
          refine mixPE_chain ?_
          replace hC := hC.freeze (i := 1) rfl (hC.own_new (i := 1) rfl)
          obtain ⟨y745, h746, hb⟩ := bd hb
          refine mixE.cl hM (⟨_, _, op_call (vs := [.agg #[.int .i64 b_0_0, .slice A703 y701.length c705]]) Try.call13 rfl rfl rfl, garside_Form_ok n hC.lt hb_0_0 (hC.rd (i := 1) rfl) h746⟩) ?_
          rintro _ w754 ⟨A749, m750, c751, rfl, hr747, hr748, hr753, hK⟩
          replace hM := hM.none hK.fr
          replace hD := hM.wide (H := ([] : List Fact))
          refine ⟨hM, ?_⟩
          replace hC := hC.merge hK
          clear hK
          obtain ⟨rfl, hl755, hc756⟩ := (hC.rd (i := 0) rfl).sl_len
          refine mixE.pure (v := .tuple #[.agg #[.int .i64 y745.1, .int .i64 y745.2.1, .slice A749 y745.2.2.1.length c751], .int .i64 y745.2.2.2]) (pu_move rfl) ?_
          refine mixE.pure (v := .agg #[.int .i64 y745.1, .int .i64 y745.2.1, .slice A749 y745.2.2.1.length c751]) (pu_extract rfl rfl) ?_
          refine mixE.pure (v := .int .i64 y745.2.2.2) (pu_extract rfl rfl) ?_
          refine mixE.sk hD (hC.seta (i := 1) (ds := [.int .i64 y745.1, .int .i64 y745.2.1, .slice A749 y745.2.2.1.length c751]) rfl Try.type28 rfl rfl rfl rfl rfl) ?_
          rintro w757 ⟨hC, hF⟩
          replace hD := hD.besideG hUf744 hF
          clear hF
          refine ⟨hD, ?_⟩
          refine mixE.pure (v := .int .i64 y745.2.2.2) (pu_assign rfl) ?_
          refine mixE.nil ?_
          clear hS hM
          clear hD
          refine hK692 _ _ ?_
          refine Wc.fresh fun E758 hE => ?_
          have e2 : E758 2 = .bool false := (congrFun hE 2).trans e2
          have e4 : E758 4 = .pointer (some ⟨g67, 0, none⟩) := (congrFun hE 4).trans e4
          have e5 : E758 5 = .int .i64 y55.2.2.2 := (congrFun hE 5).trans e5
          have e6 : E758 6 = .pointer (some ⟨g660, 0, none⟩) := (congrFun hE 6).trans e6
          have e7 : E758 7 = .int .i64 y678.2.2.2 := (congrFun hE 7).trans e7
          have e8 : E758 8 = .pointer (some ⟨g742, 0, none⟩) := (congrFun hE 8).trans rfl
          have e9 : E758 9 = .int .i64 y745.2.2.2 := (congrFun hE 9).trans rfl
          clear hE
          refine Wc.seq fun K759 hK759 => ?_
          refine Wc.region (by decide +kernel) ?_
          refine lex.pure (v := .pointer (some ((⟨g67, 0, none⟩ : Addr).add 1))) (pu_field (sz := 1) Try.underlying28 rfl Try.sizeOf3 (by decide) rfl e4) ?_
          refine lex.val (v := .int .i64 y55.2.1) (ld_fld (hC.bx (i := 8) rfl) Try.isAgg3 rfl rfl) ?_
          obtain ⟨z760, h761, hb⟩ := bd hb
          refine lex.pure (v := .int .i64 z760) (pu_addc (a := y55.2.1) (b := 2) rfl rfl h761) ?_
          refine lex.pure (v := .pointer (some ((⟨g67, 0, none⟩ : Addr).add 1))) (pu_field (sz := 1) Try.underlying28 rfl Try.sizeOf3 (by decide) rfl e4) ?_
          refine lex.sk (hC.setf (i := 8) (k := 1) (v := .int .i64 z760) rfl Try.sizeOf3 rfl rfl rfl rfl) ?_
          rintro w762 ⟨hC, hF⟩
          refine lex.nil ?_
          refine hK759 _ _ ?_
          refine Wc.seq fun K763 hK763 => ?_
          refine Wc.region (by decide +kernel) ?_
          refine lex.pure (v := .int .i64 y55.2.2.2) (pu_move e5) ?_
          refine lex.pure (v := .bool (decide (y55.2.2.2 = 0))) (pu_eql (k := .i64) (a := y55.2.2.2) (b := 0) rfl rfl) ?_
          refine lex.pure (v := .bool (decide (y55.2.2.2 = 0))) (pu_move rfl) ?_
          rcases bS (decide (y55.2.2.2 = 0)) with hq764 | hq764
          ·
           replace hb := (cT hq764).symm.trans hb
           refine lex.gpure (want_t rfl rfl (show _ = Value.bool (decide (y55.2.2.2 = 0)) from rfl) hq764) (v := .int .i64 y678.2.2.2) (pu_move e7) ?_
           refine lex.gpure (want_t rfl rfl (show _ = Value.bool (decide (y55.2.2.2 = 0)) from rfl) hq764) (v := .bool (decide (y678.2.2.2 = 0))) (pu_eql (k := .i64) (a := y678.2.2.2) (b := 0) rfl rfl) ?_
           refine lex.pure (v := .bool (decide (y678.2.2.2 = 0))) (pu_pickT (q := (decide (y55.2.2.2 = 0))) rfl hq764 rfl) ?_
           refine lex.pure (v := .bool (decide (y678.2.2.2 = 0))) (pu_move rfl) ?_
           rcases bS (decide (y678.2.2.2 = 0)) with hq765 | hq765
           ·
            replace hb := (cT hq765).symm.trans hb
            refine lex.gpure (want_t rfl rfl (show _ = Value.bool (decide (y678.2.2.2 = 0)) from rfl) hq765) (v := .int .i64 y745.2.2.2) (pu_move e9) ?_
            refine lex.gpure (want_t rfl rfl (show _ = Value.bool (decide (y678.2.2.2 = 0)) from rfl) hq765) (v := .bool (decide (y745.2.2.2 = 0))) (pu_eql (k := .i64) (a := y745.2.2.2) (b := 0) rfl rfl) ?_
            refine lex.pure (v := .bool (decide (y745.2.2.2 = 0))) (pu_pickT (q := (decide (y678.2.2.2 = 0))) rfl hq765 rfl) ?_
            refine lex.pure (v := .bool (decide (y745.2.2.2 = 0))) (pu_move rfl) ?_
            rcases bS (decide (y745.2.2.2 = 0)) with hq766 | hq766
            ·
             replace hb := (cT hq766).symm.trans hb
             refine lex.gval (want_t rfl rfl (show _ = Value.bool (decide (y745.2.2.2 = 0)) from rfl) hq766) (v := .agg #[.int .i64 y678.1, .int .i64 y678.2.1, .slice A682 y678.2.2.1.length c684]) (ld_blk (hC.bx (i := 7) rfl) Try.isAgg28 Try.sizeOf28 e6) ?_
             refine lex.gval (want_t rfl rfl (show _ = Value.bool (decide (y745.2.2.2 = 0)) from rfl) hq766) (v := .agg #[.int .i64 y55.1, .int .i64 z760, .slice A59 y55.2.2.1.length c61]) (ld_blk (hC.bx (i := 8) rfl) Try.isAgg28 Try.sizeOf28 e4) ?_
             obtain ⟨y767, h768, hb⟩ := bd hb
             refine lex.gcl (want_t rfl rfl (show _ = Value.bool (decide (y745.2.2.2 = 0)) from rfl) hq766) (⟨_, _, op_call (vs := [.agg #[.int .i64 y678.1, .int .i64 y678.2.1, .slice A682 y678.2.2.1.length c684], .agg #[.int .i64 y55.1, .int .i64 z760, .slice A59 y55.2.2.1.length c61]]) Try.call23 rfl rfl rfl, law34_equal_ok n hC.lt hr680 hr681 (hC.rd (i := 4) rfl) hr57 (chk_rng h761) (hC.rd (i := 9) rfl) h768⟩) ?_
             rintro _ w769 ⟨rfl, hK⟩
             replace hC := hC.merge hK
             clear hK
             refine lex.pure (v := .bool y767) (pu_pickT (q := (decide (y745.2.2.2 = 0))) rfl hq766 rfl) ?_
             refine lex.pure (v := .bool y767) (pu_move rfl) ?_
             rcases bS y767 with hq770 | hq770
             ·
              replace hb := (cT hq770).symm.trans hb
              refine lex.gval (want_t rfl rfl (show _ = Value.bool y767 from rfl) hq770) (v := .agg #[.int .i64 y745.1, .int .i64 y745.2.1, .slice A749 y745.2.2.1.length c751]) (ld_blk (hC.bx (i := 1) rfl) Try.isAgg28 Try.sizeOf28 e8) ?_
              refine lex.gval (want_t rfl rfl (show _ = Value.bool y767 from rfl) hq770) (v := .agg #[.int .i64 y55.1, .int .i64 z760, .slice A59 y55.2.2.1.length c61]) (ld_blk (hC.bx (i := 8) rfl) Try.isAgg28 Try.sizeOf28 e4) ?_
              obtain ⟨y771, h772, hb⟩ := bd hb
              refine lex.gcl (want_t rfl rfl (show _ = Value.bool y767 from rfl) hq770) (⟨_, _, op_call (vs := [.agg #[.int .i64 y745.1, .int .i64 y745.2.1, .slice A749 y745.2.2.1.length c751], .agg #[.int .i64 y55.1, .int .i64 z760, .slice A59 y55.2.2.1.length c61]]) Try.call23 rfl rfl rfl, law34_equal_ok n hC.lt hr747 hr748 (hC.rd (i := 0) rfl) hr57 (chk_rng h761) (hC.rd (i := 9) rfl) h772⟩) ?_
              rintro _ w773 ⟨rfl, hK⟩
              replace hC := hC.merge hK
              clear hK
              refine lex.pure (v := .bool y771) (pu_pickT (q := y767) rfl hq770 rfl) ?_
              refine lex.pure (v := .bool y771) (pu_assign rfl) ?_
              refine lex.nil ?_
              refine hK763 _ _ ?_
              obtain rfl := Option.some.inj hb
              refine Wc.ret ?_
              refine hKR _ _ ?_
              refine ⟨_, res1 Try.results5 (show RV _ _ _ (.tmp _) (.bool y771) from rfl), _, rfl, rfl, hC.sel [] (by decide)⟩
             ·
              replace hb := (cF hq770).symm.trans hb
              refine lex.gskip (want_f rfl rfl (show _ = Value.bool y767 from rfl) hq770) ?_
              refine lex.gskip (want_f rfl rfl (show _ = Value.bool y767 from rfl) hq770) ?_
              refine lex.gskip (want_f rfl rfl (show _ = Value.bool y767 from rfl) hq770) ?_
              refine lex.pure (v := .bool false) (pu_pickF (q := y767) rfl hq770 rfl) ?_
              refine lex.pure (v := .bool false) (pu_assign rfl) ?_
              refine lex.nil ?_
              refine hK763 _ _ ?_
              obtain rfl := Option.some.inj hb
              refine Wc.ret ?_
              refine hKR _ _ ?_
              refine ⟨_, res1 Try.results5 (show RV _ _ _ (.tmp _) (.bool false) from rfl), _, rfl, rfl, hC.sel [] (by decide)⟩
            ·
             replace hb := (cF hq766).symm.trans hb
             refine lex.gskip (want_f rfl rfl (show _ = Value.bool (decide (y745.2.2.2 = 0)) from rfl) hq766) ?_
             refine lex.gskip (want_f rfl rfl (show _ = Value.bool (decide (y745.2.2.2 = 0)) from rfl) hq766) ?_
             refine lex.gskip (want_f rfl rfl (show _ = Value.bool (decide (y745.2.2.2 = 0)) from rfl) hq766) ?_
             refine lex.pure (v := .bool false) (pu_pickF (q := (decide (y745.2.2.2 = 0))) rfl hq766 rfl) ?_
             refine lex.pure (v := .bool false) (pu_move rfl) ?_
             refine lex.gskip (want_f rfl rfl (show _ = Value.bool false from rfl) rfl) ?_
             refine lex.gskip (want_f rfl rfl (show _ = Value.bool false from rfl) rfl) ?_
             refine lex.gskip (want_f rfl rfl (show _ = Value.bool false from rfl) rfl) ?_
             refine lex.pure (v := .bool false) (pu_pickF (q := false) rfl rfl rfl) ?_
             refine lex.pure (v := .bool false) (pu_assign rfl) ?_
             refine lex.nil ?_
             refine hK763 _ _ ?_
             obtain rfl := Option.some.inj hb
             refine Wc.ret ?_
             refine hKR _ _ ?_
             refine ⟨_, res1 Try.results5 (show RV _ _ _ (.tmp _) (.bool false) from rfl), _, rfl, rfl, hC.sel [] (by decide)⟩
           ·
            replace hb := (cF hq765).symm.trans hb
            refine lex.gskip (want_f rfl rfl (show _ = Value.bool (decide (y678.2.2.2 = 0)) from rfl) hq765) ?_
            refine lex.gskip (want_f rfl rfl (show _ = Value.bool (decide (y678.2.2.2 = 0)) from rfl) hq765) ?_
            refine lex.pure (v := .bool false) (pu_pickF (q := (decide (y678.2.2.2 = 0))) rfl hq765 rfl) ?_
            refine lex.pure (v := .bool false) (pu_move rfl) ?_
            refine lex.gskip (want_f rfl rfl (show _ = Value.bool false from rfl) rfl) ?_
            refine lex.gskip (want_f rfl rfl (show _ = Value.bool false from rfl) rfl) ?_
            refine lex.gskip (want_f rfl rfl (show _ = Value.bool false from rfl) rfl) ?_
            refine lex.pure (v := .bool false) (pu_pickF (q := false) rfl rfl rfl) ?_
            refine lex.pure (v := .bool false) (pu_move rfl) ?_
            refine lex.gskip (want_f rfl rfl (show _ = Value.bool false from rfl) rfl) ?_
            refine lex.gskip (want_f rfl rfl (show _ = Value.bool false from rfl) rfl) ?_
            refine lex.gskip (want_f rfl rfl (show _ = Value.bool false from rfl) rfl) ?_
            refine lex.pure (v := .bool false) (pu_pickF (q := false) rfl rfl rfl) ?_
            refine lex.pure (v := .bool false) (pu_assign rfl) ?_
            refine lex.nil ?_
            refine hK763 _ _ ?_
            obtain rfl := Option.some.inj hb
            refine Wc.ret ?_
            refine hKR _ _ ?_
            refine ⟨_, res1 Try.results5 (show RV _ _ _ (.tmp _) (.bool false) from rfl), _, rfl, rfl, hC.sel [] (by decide)⟩
          ·
           replace hb := (cF hq764).symm.trans hb
           refine lex.gskip (want_f rfl rfl (show _ = Value.bool (decide (y55.2.2.2 = 0)) from rfl) hq764) ?_
           refine lex.gskip (want_f rfl rfl (show _ = Value.bool (decide (y55.2.2.2 = 0)) from rfl) hq764) ?_
           refine lex.pure (v := .bool false) (pu_pickF (q := (decide (y55.2.2.2 = 0))) rfl hq764 rfl) ?_
           refine lex.pure (v := .bool false) (pu_move rfl) ?_
           refine lex.gskip (want_f rfl rfl (show _ = Value.bool false from rfl) rfl) ?_
           refine lex.gskip (want_f rfl rfl (show _ = Value.bool false from rfl) rfl) ?_
           refine lex.pure (v := .bool false) (pu_pickF (q := false) rfl rfl rfl) ?_
           refine lex.pure (v := .bool false) (pu_move rfl) ?_
           refine lex.gskip (want_f rfl rfl (show _ = Value.bool false from rfl) rfl) ?_
           refine lex.gskip (want_f rfl rfl (show _ = Value.bool false from rfl) rfl) ?_
           refine lex.gskip (want_f rfl rfl (show _ = Value.bool false from rfl) rfl) ?_
           refine lex.pure (v := .bool false) (pu_pickF (q := false) rfl rfl rfl) ?_
           refine lex.pure (v := .bool false) (pu_move rfl) ?_
           refine lex.gskip (want_f rfl rfl (show _ = Value.bool false from rfl) rfl) ?_
           refine lex.gskip (want_f rfl rfl (show _ = Value.bool false from rfl) rfl) ?_
           refine lex.gskip (want_f rfl rfl (show _ = Value.bool false from rfl) rfl) ?_
           refine lex.pure (v := .bool false) (pu_pickF (q := false) rfl rfl rfl) ?_
           refine lex.pure (v := .bool false) (pu_assign rfl) ?_
           refine lex.nil ?_
           refine hK763 _ _ ?_
           obtain rfl := Option.some.inj hb
           refine Wc.ret ?_
           refine hKR _ _ ?_
           refine ⟨_, res1 Try.results5 (show RV _ _ _ (.tmp _) (.bool false) from rfl), _, rfl, rfl, hC.sel [] (by decide)⟩
        ·
         skip
         refine mixPE_chain ?_
         refine mixE.op hM (hC.alloc (cs := [.int .i64 0, .int .i64 0, .slice none 0 0]) Try.zeroValue28 rfl) ?_
         rintro _ w775 ⟨g774, rfl, hC, hF, hG⟩
         have hUf776 : g774 < w694.heap.size → g774 ∈ blocks (([] : List Fact) ++ ([] : List Fact)) := fun h => absurd (Nat.lt_of_lt_of_le h (Nat.le_trans hM.size hG)) (Nat.lt_irrefl _)
         clear hG
         replace hM := hM.none hF
         replace hD := hM.wide (H := ([] : List Fact))
         refine ⟨hM, ?_⟩
         refine mixE.nil ?_
         refine mixPE_chain ?_
         obtain ⟨y777, h778, hb⟩ := bd hb
         refine mixE.cl hM (⟨_, _, op_call (vs := [.slice A695 ((([b_0_1, y45] : List (List Int))).length) c696]) Try.call22 rfl rfl rfl, slices_Concat_Lint_int_ok n (hC.lentLt [.slice A695 ((([b_0_1, y45] : List (List Int))).length) c696]) ((hC.ow (i := 1) rfl).lend (vs := [.slice A695 ((([b_0_1, y45] : List (List Int))).length) c696]) (by simp)) h778⟩) ?_
         rintro _ w783 ⟨A779, m780, c781, rfl, hK⟩
         replace hM := hM.none hK.fr
         replace hD := hM.wide (H := ([] : List Fact))
         refine ⟨hM, ?_⟩
         replace hC := hC.mergeF hK rfl
         clear hK
         obtain ⟨rfl, hl784, hc785⟩ := (hC.ow (i := 0) rfl).sl_len
         refine mixE.pure (v := .agg #[.int .i64 b_0_0, .slice A779 y777.length c781]) (pu_builds (places := [(0, 1), (1, 1)]) (pv := [(0, .int .i64 b_0_0), (1, .slice A779 y777.length c781)]) Try.type24 Try.underlying24 rfl (mp_cons Try.type3 (mp_cons Try.type22 mp_nil rfl rfl) rfl rfl) rfl (by simp [Instr.fill, Value.cells])) ?_
         replace hC := hC.freeze (i := 0) rfl (hC.own_new (i := 0) rfl)
         obtain ⟨y786, h787, hb⟩ := bd hb
         refine mixE.cl hM (⟨_, _, op_call (vs := [.agg #[.int .i64 b_0_0, .slice A779 y777.length c781]]) Try.call13 rfl rfl rfl, garside_Form_ok n hC.lt hb_0_0 (hC.rd (i := 0) rfl) h787⟩) ?_
         rintro _ w795 ⟨A790, m791, c792, rfl, hr788, hr789, hr794, hK⟩
         replace hM := hM.none hK.fr
         replace hD := hM.wide (H := ([] : List Fact))
         refine ⟨hM, ?_⟩
         replace hC := hC.merge hK
         clear hK
         obtain ⟨rfl, hl796, hc797⟩ := (hC.rd (i := 0) rfl).sl_len
         refine mixE.pure (v := .tuple #[.agg #[.int .i64 y786.1, .int .i64 y786.2.1, .slice A790 y786.2.2.1.length c792], .int .i64 y786.2.2.2]) (pu_move rfl) ?_
         refine mixE.pure (v := .agg #[.int .i64 y786.1, .int .i64 y786.2.1, .slice A790 y786.2.2.1.length c792]) (pu_extract rfl rfl) ?_
         refine mixE.pure (v := .int .i64 y786.2.2.2) (pu_extract rfl rfl) ?_
         refine mixE.sk hD (hC.seta (i := 2) (ds := [.int .i64 y786.1, .int .i64 y786.2.1, .slice A790 y786.2.2.1.length c792]) rfl Try.type28 rfl rfl rfl rfl rfl) ?_
         rintro w798 ⟨hC, hF⟩
         replace hD := hD.besideG hUf776 hF
         clear hF
         refine ⟨hD, ?_⟩
         refine mixE.pure (v := .int .i64 y786.2.2.2) (pu_assign rfl) ?_
         refine mixE.nil ?_
         clear hS hM
         clear hD
         refine hK692 _ _ ?_
         refine Wc.fresh fun E799 hE => ?_
         have e2 : E799 2 = .bool false := (congrFun hE 2).trans e2
         have e4 : E799 4 = .pointer (some ⟨g67, 0, none⟩) := (congrFun hE 4).trans e4
         have e5 : E799 5 = .int .i64 y55.2.2.2 := (congrFun hE 5).trans e5
         have e6 : E799 6 = .pointer (some ⟨g660, 0, none⟩) := (congrFun hE 6).trans e6
         have e7 : E799 7 = .int .i64 y678.2.2.2 := (congrFun hE 7).trans e7
         have e8 : E799 8 = .pointer (some ⟨g774, 0, none⟩) := (congrFun hE 8).trans rfl
         have e9 : E799 9 = .int .i64 y786.2.2.2 := (congrFun hE 9).trans rfl
         clear hE
         refine Wc.seq fun K800 hK800 => ?_
         refine Wc.region (by decide +kernel) ?_
         refine lex.pure (v := .pointer (some ((⟨g67, 0, none⟩ : Addr).add 1))) (pu_field (sz := 1) Try.underlying28 rfl Try.sizeOf3 (by decide) rfl e4) ?_
         refine lex.val (v := .int .i64 y55.2.1) (ld_fld (hC.bx (i := 8) rfl) Try.isAgg3 rfl rfl) ?_
         obtain ⟨z801, h802, hb⟩ := bd hb
         refine lex.pure (v := .int .i64 z801) (pu_addc (a := y55.2.1) (b := 2) rfl rfl h802) ?_
         refine lex.pure (v := .pointer (some ((⟨g67, 0, none⟩ : Addr).add 1))) (pu_field (sz := 1) Try.underlying28 rfl Try.sizeOf3 (by decide) rfl e4) ?_
         refine lex.sk (hC.setf (i := 8) (k := 1) (v := .int .i64 z801) rfl Try.sizeOf3 rfl rfl rfl rfl) ?_
         rintro w803 ⟨hC, hF⟩
         refine lex.nil ?_
         refine hK800 _ _ ?_
         refine Wc.seq fun K804 hK804 => ?_
         refine Wc.region (by decide +kernel) ?_
         refine lex.pure (v := .int .i64 y55.2.2.2) (pu_move e5) ?_
         refine lex.pure (v := .bool (decide (y55.2.2.2 = 0))) (pu_eql (k := .i64) (a := y55.2.2.2) (b := 0) rfl rfl) ?_
         refine lex.pure (v := .bool (decide (y55.2.2.2 = 0))) (pu_move rfl) ?_
         rcases bS (decide (y55.2.2.2 = 0)) with hq805 | hq805
         ·
          replace hb := (cT hq805).symm.trans hb
          refine lex.gpure (want_t rfl rfl (show _ = Value.bool (decide (y55.2.2.2 = 0)) from rfl) hq805) (v := .int .i64 y678.2.2.2) (pu_move e7) ?_
          refine lex.gpure (want_t rfl rfl (show _ = Value.bool (decide (y55.2.2.2 = 0)) from rfl) hq805) (v := .bool (decide (y678.2.2.2 = 0))) (pu_eql (k := .i64) (a := y678.2.2.2) (b := 0) rfl rfl) ?_
          refine lex.pure (v := .bool (decide (y678.2.2.2 = 0))) (pu_pickT (q := (decide (y55.2.2.2 = 0))) rfl hq805 rfl) ?_
          refine lex.pure (v := .bool (decide (y678.2.2.2 = 0))) (pu_move rfl) ?_
          rcases bS (decide (y678.2.2.2 = 0)) with hq806 | hq806
          ·
           replace hb := (cT hq806).symm.trans hb
           refine lex.gpure (want_t rfl rfl (show _ = Value.bool (decide (y678.2.2.2 = 0)) from rfl) hq806) (v := .int .i64 y786.2.2.2) (pu_move e9) ?_
           refine lex.gpure (want_t rfl rfl (show _ = Value.bool (decide (y678.2.2.2 = 0)) from rfl) hq806) (v := .bool (decide (y786.2.2.2 = 0))) (pu_eql (k := .i64) (a := y786.2.2.2) (b := 0) rfl rfl) ?_
           refine lex.pure (v := .bool (decide (y786.2.2.2 = 0))) (pu_pickT (q := (decide (y678.2.2.2 = 0))) rfl hq806 rfl) ?_
           refine lex.pure (v := .bool (decide (y786.2.2.2 = 0))) (pu_move rfl) ?_
           rcases bS (decide (y786.2.2.2 = 0)) with hq807 | hq807
           ·
            replace hb := (cT hq807).symm.trans hb
            refine lex.gval (want_t rfl rfl (show _ = Value.bool (decide (y786.2.2.2 = 0)) from rfl) hq807) (v := .agg #[.int .i64 y678.1, .int .i64 y678.2.1, .slice A682 y678.2.2.1.length c684]) (ld_blk (hC.bx (i := 7) rfl) Try.isAgg28 Try.sizeOf28 e6) ?_
            refine lex.gval (want_t rfl rfl (show _ = Value.bool (decide (y786.2.2.2 = 0)) from rfl) hq807) (v := .agg #[.int .i64 y55.1, .int .i64 z801, .slice A59 y55.2.2.1.length c61]) (ld_blk (hC.bx (i := 8) rfl) Try.isAgg28 Try.sizeOf28 e4) ?_
            obtain ⟨y808, h809, hb⟩ := bd hb
            refine lex.gcl (want_t rfl rfl (show _ = Value.bool (decide (y786.2.2.2 = 0)) from rfl) hq807) (⟨_, _, op_call (vs := [.agg #[.int .i64 y678.1, .int .i64 y678.2.1, .slice A682 y678.2.2.1.length c684], .agg #[.int .i64 y55.1, .int .i64 z801, .slice A59 y55.2.2.1.length c61]]) Try.call23 rfl rfl rfl, law34_equal_ok n hC.lt hr680 hr681 (hC.rd (i := 4) rfl) hr57 (chk_rng h802) (hC.rd (i := 9) rfl) h809⟩) ?_
            rintro _ w810 ⟨rfl, hK⟩
            replace hC := hC.merge hK
            clear hK
            refine lex.pure (v := .bool y808) (pu_pickT (q := (decide (y786.2.2.2 = 0))) rfl hq807 rfl) ?_
            refine lex.pure (v := .bool y808) (pu_move rfl) ?_
            rcases bS y808 with hq811 | hq811
            ·
             replace hb := (cT hq811).symm.trans hb
             refine lex.gval (want_t rfl rfl (show _ = Value.bool y808 from rfl) hq811) (v := .agg #[.int .i64 y786.1, .int .i64 y786.2.1, .slice A790 y786.2.2.1.length c792]) (ld_blk (hC.bx (i := 2) rfl) Try.isAgg28 Try.sizeOf28 e8) ?_
             refine lex.gval (want_t rfl rfl (show _ = Value.bool y808 from rfl) hq811) (v := .agg #[.int .i64 y55.1, .int .i64 z801, .slice A59 y55.2.2.1.length c61]) (ld_blk (hC.bx (i := 8) rfl) Try.isAgg28 Try.sizeOf28 e4) ?_
             obtain ⟨y812, h813, hb⟩ := bd hb
             refine lex.gcl (want_t rfl rfl (show _ = Value.bool y808 from rfl) hq811) (⟨_, _, op_call (vs := [.agg #[.int .i64 y786.1, .int .i64 y786.2.1, .slice A790 y786.2.2.1.length c792], .agg #[.int .i64 y55.1, .int .i64 z801, .slice A59 y55.2.2.1.length c61]]) Try.call23 rfl rfl rfl, law34_equal_ok n hC.lt hr788 hr789 (hC.rd (i := 0) rfl) hr57 (chk_rng h802) (hC.rd (i := 9) rfl) h813⟩) ?_
             rintro _ w814 ⟨rfl, hK⟩
             replace hC := hC.merge hK
             clear hK
             refine lex.pure (v := .bool y812) (pu_pickT (q := y808) rfl hq811 rfl) ?_
             refine lex.pure (v := .bool y812) (pu_assign rfl) ?_
             refine lex.nil ?_
             refine hK804 _ _ ?_
             obtain rfl := Option.some.inj hb
             refine Wc.ret ?_
             refine hKR _ _ ?_
             refine ⟨_, res1 Try.results5 (show RV _ _ _ (.tmp _) (.bool y812) from rfl), _, rfl, rfl, hC.sel [] (by decide)⟩
            ·
             replace hb := (cF hq811).symm.trans hb
             refine lex.gskip (want_f rfl rfl (show _ = Value.bool y808 from rfl) hq811) ?_
             refine lex.gskip (want_f rfl rfl (show _ = Value.bool y808 from rfl) hq811) ?_
             refine lex.gskip (want_f rfl rfl (show _ = Value.bool y808 from rfl) hq811) ?_
             refine lex.pure (v := .bool false) (pu_pickF (q := y808) rfl hq811 rfl) ?_
             refine lex.pure (v := .bool false) (pu_assign rfl) ?_
             refine lex.nil ?_
             refine hK804 _ _ ?_
             obtain rfl := Option.some.inj hb
             refine Wc.ret ?_
             refine hKR _ _ ?_
             refine ⟨_, res1 Try.results5 (show RV _ _ _ (.tmp _) (.bool false) from rfl), _, rfl, rfl, hC.sel [] (by decide)⟩
           ·
            replace hb := (cF hq807).symm.trans hb
            refine lex.gskip (want_f rfl rfl (show _ = Value.bool (decide (y786.2.2.2 = 0)) from rfl) hq807) ?_
            refine lex.gskip (want_f rfl rfl (show _ = Value.bool (decide (y786.2.2.2 = 0)) from rfl) hq807) ?_
            refine lex.gskip (want_f rfl rfl (show _ = Value.bool (decide (y786.2.2.2 = 0)) from rfl) hq807) ?_
            refine lex.pure (v := .bool false) (pu_pickF (q := (decide (y786.2.2.2 = 0))) rfl hq807 rfl) ?_
            refine lex.pure (v := .bool false) (pu_move rfl) ?_
            refine lex.gskip (want_f rfl rfl (show _ = Value.bool false from rfl) rfl) ?_
            refine lex.gskip (want_f rfl rfl (show _ = Value.bool false from rfl) rfl) ?_
            refine lex.gskip (want_f rfl rfl (show _ = Value.bool false from rfl) rfl) ?_
            refine lex.pure (v := .bool false) (pu_pickF (q := false) rfl rfl rfl) ?_
            refine lex.pure (v := .bool false) (pu_assign rfl) ?_
            refine lex.nil ?_
            refine hK804 _ _ ?_
            obtain rfl := Option.some.inj hb
            refine Wc.ret ?_
            refine hKR _ _ ?_
            refine ⟨_, res1 Try.results5 (show RV _ _ _ (.tmp _) (.bool false) from rfl), _, rfl, rfl, hC.sel [] (by decide)⟩
          ·
           replace hb := (cF hq806).symm.trans hb
           refine lex.gskip (want_f rfl rfl (show _ = Value.bool (decide (y678.2.2.2 = 0)) from rfl) hq806) ?_
           refine lex.gskip (want_f rfl rfl (show _ = Value.bool (decide (y678.2.2.2 = 0)) from rfl) hq806) ?_
           refine lex.pure (v := .bool false) (pu_pickF (q := (decide (y678.2.2.2 = 0))) rfl hq806 rfl) ?_
           refine lex.pure (v := .bool false) (pu_move rfl) ?_
           refine lex.gskip (want_f rfl rfl (show _ = Value.bool false from rfl) rfl) ?_
           refine lex.gskip (want_f rfl rfl (show _ = Value.bool false from rfl) rfl) ?_
           refine lex.gskip (want_f rfl rfl (show _ = Value.bool false from rfl) rfl) ?_
           refine lex.pure (v := .bool false) (pu_pickF (q := false) rfl rfl rfl) ?_
           refine lex.pure (v := .bool false) (pu_move rfl) ?_
           refine lex.gskip (want_f rfl rfl (show _ = Value.bool false from rfl) rfl) ?_
           refine lex.gskip (want_f rfl rfl (show _ = Value.bool false from rfl) rfl) ?_
           refine lex.gskip (want_f rfl rfl (show _ = Value.bool false from rfl) rfl) ?_
           refine lex.pure (v := .bool false) (pu_pickF (q := false) rfl rfl rfl) ?_
           refine lex.pure (v := .bool false) (pu_assign rfl) ?_
           refine lex.nil ?_
           refine hK804 _ _ ?_
           obtain rfl := Option.some.inj hb
           refine Wc.ret ?_
           refine hKR _ _ ?_
           refine ⟨_, res1 Try.results5 (show RV _ _ _ (.tmp _) (.bool false) from rfl), _, rfl, rfl, hC.sel [] (by decide)⟩
         ·
          replace hb := (cF hq805).symm.trans hb
          refine lex.gskip (want_f rfl rfl (show _ = Value.bool (decide (y55.2.2.2 = 0)) from rfl) hq805) ?_
          refine lex.gskip (want_f rfl rfl (show _ = Value.bool (decide (y55.2.2.2 = 0)) from rfl) hq805) ?_
          refine lex.pure (v := .bool false) (pu_pickF (q := (decide (y55.2.2.2 = 0))) rfl hq805 rfl) ?_
          refine lex.pure (v := .bool false) (pu_move rfl) ?_
          refine lex.gskip (want_f rfl rfl (show _ = Value.bool false from rfl) rfl) ?_
          refine lex.gskip (want_f rfl rfl (show _ = Value.bool false from rfl) rfl) ?_
          refine lex.pure (v := .bool false) (pu_pickF (q := false) rfl rfl rfl) ?_
          refine lex.pure (v := .bool false) (pu_move rfl) ?_
          refine lex.gskip (want_f rfl rfl (show _ = Value.bool false from rfl) rfl) ?_
          refine lex.gskip (want_f rfl rfl (show _ = Value.bool false from rfl) rfl) ?_
          refine lex.gskip (want_f rfl rfl (show _ = Value.bool false from rfl) rfl) ?_
          refine lex.pure (v := .bool false) (pu_pickF (q := false) rfl rfl rfl) ?_
          refine lex.pure (v := .bool false) (pu_move rfl) ?_
          refine lex.gskip (want_f rfl rfl (show _ = Value.bool false from rfl) rfl) ?_
          refine lex.gskip (want_f rfl rfl (show _ = Value.bool false from rfl) rfl) ?_
          refine lex.gskip (want_f rfl rfl (show _ = Value.bool false from rfl) rfl) ?_
          refine lex.pure (v := .bool false) (pu_pickF (q := false) rfl rfl rfl) ?_
          refine lex.pure (v := .bool false) (pu_assign rfl) ?_
          refine lex.nil ?_
          refine hK804 _ _ ?_
          obtain rfl := Option.some.inj hb
          refine Wc.ret ?_
          refine hKR _ _ ?_
          refine ⟨_, res1 Try.results5 (show RV _ _ _ (.tmp _) (.bool false) from rfl), _, rfl, rfl, hC.sel [] (by decide)⟩
       ·
        skip
        refine mixPE_chain ?_
        refine mixE.op hM (hC.alloc (cs := [.int .i64 0, .int .i64 0, .slice none 0 0]) Try.zeroValue28 rfl) ?_
        rintro _ w816 ⟨g815, rfl, hC, hF, hG⟩
        have hUf817 : g815 < w694.heap.size → g815 ∈ blocks (([] : List Fact) ++ ([] : List Fact)) := fun h => absurd (Nat.lt_of_lt_of_le h (Nat.le_trans hM.size hG)) (Nat.lt_irrefl _)
        clear hG
        replace hM := hM.none hF
        replace hD := hM.wide (H := ([] : List Fact))
        refine ⟨hM, ?_⟩
        refine mixE.nil ?_
        refine mixPE_chain ?_
        refine mixE.op hM (hC.lit (s := (.sl (.int .i64))) (vs := [.slice Ab_0_1 b_0_1.length cb_0_1, .slice A47 y45.length c49]) (xs := [b_0_1, y45]) Try.underlying35 Try.type22 rfl rfl (Nat.le_of_ble_eq_true rfl) rfl rfl (by simp [Value.cells, Sh.n]) rfl (show Elems _ _ (.sl (.int .i64)) ([.slice Ab_0_1 b_0_1.length cb_0_1] ++ ([.slice A47 y45.length c49] ++ ([]))) ([b_0_1, y45] : List (List Int)) from Elems.cons (hC.rd (i := 9) rfl) (Elems.cons (hC.rd (i := 7) rfl) (Elems.nil _ _ _)))) ?_
        rintro _ w822 ⟨A818, c819, rfl, hl820, hc821, hC, hF, hN⟩
        have hBf823 := Beside.new hM hN
        have hUf823 := Beside.new (hM.wide (H := ([] : List Fact))) hN
        replace hM := hM.none hF
        replace hD := hM.wide (H := ([] : List Fact))
        refine ⟨hM, ?_⟩
        clear hF hN
        obtain ⟨y824, h825, hb⟩ := bd hb
        refine mixE.cl hM (⟨_, _, op_call (vs := [.slice A818 ((([b_0_1, y45] : List (List Int))).length) c819]) Try.call22 rfl rfl rfl, slices_Concat_Lint_int_ok n (hC.lentLt [.slice A818 ((([b_0_1, y45] : List (List Int))).length) c819]) ((hC.ow (i := 0) rfl).lend (vs := [.slice A818 ((([b_0_1, y45] : List (List Int))).length) c819]) (by simp)) h825⟩) ?_
        rintro _ w830 ⟨A826, m827, c828, rfl, hK⟩
        replace hM := hM.none hK.fr
        replace hD := hM.wide (H := ([] : List Fact))
        refine ⟨hM, ?_⟩
        replace hC := hC.mergeF hK rfl
        clear hK
        obtain ⟨rfl, hl831, hc832⟩ := (hC.ow (i := 0) rfl).sl_len
        refine mixE.pure (v := .agg #[.int .i64 b_0_0, .slice A826 y824.length c828]) (pu_builds (places := [(0, 1), (1, 1)]) (pv := [(0, .int .i64 b_0_0), (1, .slice A826 y824.length c828)]) Try.type24 Try.underlying24 rfl (mp_cons Try.type3 (mp_cons Try.type22 mp_nil rfl rfl) rfl rfl) rfl (by simp [Instr.fill, Value.cells])) ?_
        replace hC := hC.freeze (i := 0) rfl (hC.own_new (i := 0) rfl)
        obtain ⟨y833, h834, hb⟩ := bd hb
        refine mixE.cl hM (⟨_, _, op_call (vs := [.agg #[.int .i64 b_0_0, .slice A826 y824.length c828]]) Try.call13 rfl rfl rfl, garside_Form_ok n hC.lt hb_0_0 (hC.rd (i := 0) rfl) h834⟩) ?_
        rintro _ w842 ⟨A837, m838, c839, rfl, hr835, hr836, hr841, hK⟩
        replace hM := hM.none hK.fr
        replace hD := hM.wide (H := ([] : List Fact))
        refine ⟨hM, ?_⟩
        replace hC := hC.merge hK
        clear hK
        obtain ⟨rfl, hl843, hc844⟩ := (hC.rd (i := 0) rfl).sl_len
        refine mixE.pure (v := .tuple #[.agg #[.int .i64 y833.1, .int .i64 y833.2.1, .slice A837 y833.2.2.1.length c839], .int .i64 y833.2.2.2]) (pu_move rfl) ?_
        refine mixE.pure (v := .agg #[.int .i64 y833.1, .int .i64 y833.2.1, .slice A837 y833.2.2.1.length c839]) (pu_extract rfl rfl) ?_
        refine mixE.pure (v := .int .i64 y833.2.2.2) (pu_extract rfl rfl) ?_
        refine mixE.sk hD (hC.seta (i := 3) (ds := [.int .i64 y833.1, .int .i64 y833.2.1, .slice A837 y833.2.2.1.length c839]) rfl Try.type28 rfl rfl rfl rfl rfl) ?_
        rintro w845 ⟨hC, hF⟩
        replace hD := hD.besideG hUf817 hF
        clear hF
        refine ⟨hD, ?_⟩
        refine mixE.pure (v := .int .i64 y833.2.2.2) (pu_assign rfl) ?_
        refine mixE.nil ?_
        clear hS hM
        clear hD
        refine hK692 _ _ ?_
        refine Wc.fresh fun E846 hE => ?_
        have e2 : E846 2 = .bool false := (congrFun hE 2).trans e2
        have e4 : E846 4 = .pointer (some ⟨g67, 0, none⟩) := (congrFun hE 4).trans e4
        have e5 : E846 5 = .int .i64 y55.2.2.2 := (congrFun hE 5).trans e5
        have e6 : E846 6 = .pointer (some ⟨g660, 0, none⟩) := (congrFun hE 6).trans e6
        have e7 : E846 7 = .int .i64 y678.2.2.2 := (congrFun hE 7).trans e7
        have e8 : E846 8 = .pointer (some ⟨g815, 0, none⟩) := (congrFun hE 8).trans rfl
        have e9 : E846 9 = .int .i64 y833.2.2.2 := (congrFun hE 9).trans rfl
        clear hE
        refine Wc.seq fun K847 hK847 => ?_
        refine Wc.region (by decide +kernel) ?_
        refine lex.pure (v := .pointer (some ((⟨g67, 0, none⟩ : Addr).add 1))) (pu_field (sz := 1) Try.underlying28 rfl Try.sizeOf3 (by decide) rfl e4) ?_
        refine lex.val (v := .int .i64 y55.2.1) (ld_fld (hC.bx (i := 8) rfl) Try.isAgg3 rfl rfl) ?_
        obtain ⟨z848, h849, hb⟩ := bd hb
        refine lex.pure (v := .int .i64 z848) (pu_addc (a := y55.2.1) (b := 2) rfl rfl h849) ?_
        refine lex.pure (v := .pointer (some ((⟨g67, 0, none⟩ : Addr).add 1))) (pu_field (sz := 1) Try.underlying28 rfl Try.sizeOf3 (by decide) rfl e4) ?_
        refine lex.sk (hC.setf (i := 8) (k := 1) (v := .int .i64 z848) rfl Try.sizeOf3 rfl rfl rfl rfl) ?_
        rintro w850 ⟨hC, hF⟩
        refine lex.nil ?_
        refine hK847 _ _ ?_
        refine Wc.seq fun K851 hK851 => ?_
        refine Wc.region (by decide +kernel) ?_
        refine lex.pure (v := .int .i64 y55.2.2.2) (pu_move e5) ?_
        refine lex.pure (v := .bool (decide (y55.2.2.2 = 0))) (pu_eql (k := .i64) (a := y55.2.2.2) (b := 0) rfl rfl) ?_
        refine lex.pure (v := .bool (decide (y55.2.2.2 = 0))) (pu_move rfl) ?_
        rcases bS (decide (y55.2.2.2 = 0)) with hq852 | hq852
        ·
         replace hb := (cT hq852).symm.trans hb
         refine lex.gpure (want_t rfl rfl (show _ = Value.bool (decide (y55.2.2.2 = 0)) from rfl) hq852) (v := .int .i64 y678.2.2.2) (pu_move e7) ?_
         refine lex.gpure (want_t rfl rfl (show _ = Value.bool (decide (y55.2.2.2 = 0)) from rfl) hq852) (v := .bool (decide (y678.2.2.2 = 0))) (pu_eql (k := .i64) (a := y678.2.2.2) (b := 0) rfl rfl) ?_
         refine lex.pure (v := .bool (decide (y678.2.2.2 = 0))) (pu_pickT (q := (decide (y55.2.2.2 = 0))) rfl hq852 rfl) ?_
         refine lex.pure (v := .bool (decide (y678.2.2.2 = 0))) (pu_move rfl) ?_
         rcases bS (decide (y678.2.2.2 = 0)) with hq853 | hq853
         ·
          replace hb := (cT hq853).symm.trans hb
          refine lex.gpure (want_t rfl rfl (show _ = Value.bool (decide (y678.2.2.2 = 0)) from rfl) hq853) (v := .int .i64 y833.2.2.2) (pu_move e9) ?_
          refine lex.gpure (want_t rfl rfl (show _ = Value.bool (decide (y678.2.2.2 = 0)) from rfl) hq853) (v := .bool (decide (y833.2.2.2 = 0))) (pu_eql (k := .i64) (a := y833.2.2.2) (b := 0) rfl rfl) ?_
          refine lex.pure (v := .bool (decide (y833.2.2.2 = 0))) (pu_pickT (q := (decide (y678.2.2.2 = 0))) rfl hq853 rfl) ?_
          refine lex.pure (v := .bool (decide (y833.2.2.2 = 0))) (pu_move rfl) ?_
          rcases bS (decide (y833.2.2.2 = 0)) with hq854 | hq854
          ·
           replace hb := (cT hq854).symm.trans hb
           refine lex.gval (want_t rfl rfl (show _ = Value.bool (decide (y833.2.2.2 = 0)) from rfl) hq854) (v := .agg #[.int .i64 y678.1, .int .i64 y678.2.1, .slice A682 y678.2.2.1.length c684]) (ld_blk (hC.bx (i := 7) rfl) Try.isAgg28 Try.sizeOf28 e6) ?_
           refine lex.gval (want_t rfl rfl (show _ = Value.bool (decide (y833.2.2.2 = 0)) from rfl) hq854) (v := .agg #[.int .i64 y55.1, .int .i64 z848, .slice A59 y55.2.2.1.length c61]) (ld_blk (hC.bx (i := 8) rfl) Try.isAgg28 Try.sizeOf28 e4) ?_
           obtain ⟨y855, h856, hb⟩ := bd hb
           refine lex.gcl (want_t rfl rfl (show _ = Value.bool (decide (y833.2.2.2 = 0)) from rfl) hq854) (⟨_, _, op_call (vs := [.agg #[.int .i64 y678.1, .int .i64 y678.2.1, .slice A682 y678.2.2.1.length c684], .agg #[.int .i64 y55.1, .int .i64 z848, .slice A59 y55.2.2.1.length c61]]) Try.call23 rfl rfl rfl, law34_equal_ok n hC.lt hr680 hr681 (hC.rd (i := 4) rfl) hr57 (chk_rng h849) (hC.rd (i := 9) rfl) h856⟩) ?_
           rintro _ w857 ⟨rfl, hK⟩
           replace hC := hC.merge hK
           clear hK
           refine lex.pure (v := .bool y855) (pu_pickT (q := (decide (y833.2.2.2 = 0))) rfl hq854 rfl) ?_
           refine lex.pure (v := .bool y855) (pu_move rfl) ?_
           rcases bS y855 with hq858 | hq858
           ·
            replace hb := (cT hq858).symm.trans hb
            refine lex.gval (want_t rfl rfl (show _ = Value.bool y855 from rfl) hq858) (v := .agg #[.int .i64 y833.1, .int .i64 y833.2.1, .slice A837 y833.2.2.1.length c839]) (ld_blk (hC.bx (i := 3) rfl) Try.isAgg28 Try.sizeOf28 e8) ?_
            refine lex.gval (want_t rfl rfl (show _ = Value.bool y855 from rfl) hq858) (v := .agg #[.int .i64 y55.1, .int .i64 z848, .slice A59 y55.2.2.1.length c61]) (ld_blk (hC.bx (i := 8) rfl) Try.isAgg28 Try.sizeOf28 e4) ?_
            obtain ⟨y859, h860, hb⟩ := bd hb
            refine lex.gcl (want_t rfl rfl (show _ = Value.bool y855 from rfl) hq858) (⟨_, _, op_call (vs := [.agg #[.int .i64 y833.1, .int .i64 y833.2.1, .slice A837 y833.2.2.1.length c839], .agg #[.int .i64 y55.1, .int .i64 z848, .slice A59 y55.2.2.1.length c61]]) Try.call23 rfl rfl rfl, law34_equal_ok n hC.lt hr835 hr836 (hC.rd (i := 0) rfl) hr57 (chk_rng h849) (hC.rd (i := 9) rfl) h860⟩) ?_
            rintro _ w861 ⟨rfl, hK⟩
            replace hC := hC.merge hK
            clear hK
            refine lex.pure (v := .bool y859) (pu_pickT (q := y855) rfl hq858 rfl) ?_
            refine lex.pure (v := .bool y859) (pu_assign rfl) ?_
            refine lex.nil ?_
            refine hK851 _ _ ?_
            obtain rfl := Option.some.inj hb
            refine Wc.ret ?_
            refine hKR _ _ ?_
            refine ⟨_, res1 Try.results5 (show RV _ _ _ (.tmp _) (.bool y859) from rfl), _, rfl, rfl, hC.sel [] (by decide)⟩
           ·
            replace hb := (cF hq858).symm.trans hb
            refine lex.gskip (want_f rfl rfl (show _ = Value.bool y855 from rfl) hq858) ?_
            refine lex.gskip (want_f rfl rfl (show _ = Value.bool y855 from rfl) hq858) ?_
            refine lex.gskip (want_f rfl rfl (show _ = Value.bool y855 from rfl) hq858) ?_
            refine lex.pure (v := .bool false) (pu_pickF (q := y855) rfl hq858 rfl) ?_
            refine lex.pure (v := .bool false) (pu_assign rfl) ?_
            refine lex.nil ?_
            refine hK851 _ _ ?_
            obtain rfl := Option.some.inj hb
            refine Wc.ret ?_
            refine hKR _ _ ?_
            refine ⟨_, res1 Try.results5 (show RV _ _ _ (.tmp _) (.bool false) from rfl), _, rfl, rfl, hC.sel [] (by decide)⟩
          ·
           replace hb := (cF hq854).symm.trans hb
           refine lex.gskip (want_f rfl rfl (show _ = Value.bool (decide (y833.2.2.2 = 0)) from rfl) hq854) ?_
           refine lex.gskip (want_f rfl rfl (show _ = Value.bool (decide (y833.2.2.2 = 0)) from rfl) hq854) ?_
           refine lex.gskip (want_f rfl rfl (show _ = Value.bool (decide (y833.2.2.2 = 0)) from rfl) hq854) ?_
           refine lex.pure (v := .bool false) (pu_pickF (q := (decide (y833.2.2.2 = 0))) rfl hq854 rfl) ?_
           refine lex.pure (v := .bool false) (pu_move rfl) ?_
           refine lex.gskip (want_f rfl rfl (show _ = Value.bool false from rfl) rfl) ?_
           refine lex.gskip (want_f rfl rfl (show _ = Value.bool false from rfl) rfl) ?_
           refine lex.gskip (want_f rfl rfl (show _ = Value.bool false from rfl) rfl) ?_
           refine lex.pure (v := .bool false) (pu_pickF (q := false) rfl rfl rfl) ?_
           refine lex.pure (v := .bool false) (pu_assign rfl) ?_
           refine lex.nil ?_
           refine hK851 _ _ ?_
           obtain rfl := Option.some.inj hb
           refine Wc.ret ?_
           refine hKR _ _ ?_
           refine ⟨_, res1 Try.results5 (show RV _ _ _ (.tmp _) (.bool false) from rfl), _, rfl, rfl, hC.sel [] (by decide)⟩
         ·
          replace hb := (cF hq853).symm.trans hb
          refine lex.gskip (want_f rfl rfl (show _ = Value.bool (decide (y678.2.2.2 = 0)) from rfl) hq853) ?_
          refine lex.gskip (want_f rfl rfl (show _ = Value.bool (decide (y678.2.2.2 = 0)) from rfl) hq853) ?_
          refine lex.pure (v := .bool false) (pu_pickF (q := (decide (y678.2.2.2 = 0))) rfl hq853 rfl) ?_
          refine lex.pure (v := .bool false) (pu_move rfl) ?_
          refine lex.gskip (want_f rfl rfl (show _ = Value.bool false from rfl) rfl) ?_
          refine lex.gskip (want_f rfl rfl (show _ = Value.bool false from rfl) rfl) ?_
          refine lex.gskip (want_f rfl rfl (show _ = Value.bool false from rfl) rfl) ?_
          refine lex.pure (v := .bool false) (pu_pickF (q := false) rfl rfl rfl) ?_
          refine lex.pure (v := .bool false) (pu_move rfl) ?_
          refine lex.gskip (want_f rfl rfl (show _ = Value.bool false from rfl) rfl) ?_
          refine lex.gskip (want_f rfl rfl (show _ = Value.bool false from rfl) rfl) ?_
          refine lex.gskip (want_f rfl rfl (show _ = Value.bool false from rfl) rfl) ?_
          refine lex.pure (v := .bool false) (pu_pickF (q := false) rfl rfl rfl) ?_
          refine lex.pure (v := .bool false) (pu_assign rfl) ?_
          refine lex.nil ?_
          refine hK851 _ _ ?_
          obtain rfl := Option.some.inj hb
          refine Wc.ret ?_
          refine hKR _ _ ?_
          refine ⟨_, res1 Try.results5 (show RV _ _ _ (.tmp _) (.bool false) from rfl), _, rfl, rfl, hC.sel [] (by decide)⟩
        ·
         replace hb := (cF hq852).symm.trans hb
         refine lex.gskip (want_f rfl rfl (show _ = Value.bool (decide (y55.2.2.2 = 0)) from rfl) hq852) ?_
         refine lex.gskip (want_f rfl rfl (show _ = Value.bool (decide (y55.2.2.2 = 0)) from rfl) hq852) ?_
         refine lex.pure (v := .bool false) (pu_pickF (q := (decide (y55.2.2.2 = 0))) rfl hq852 rfl) ?_
         refine lex.pure (v := .bool false) (pu_move rfl) ?_
         refine lex.gskip (want_f rfl rfl (show _ = Value.bool false from rfl) rfl) ?_
         refine lex.gskip (want_f rfl rfl (show _ = Value.bool false from rfl) rfl) ?_
         refine lex.pure (v := .bool false) (pu_pickF (q := false) rfl rfl rfl) ?_
         refine lex.pure (v := .bool false) (pu_move rfl) ?_
         refine lex.gskip (want_f rfl rfl (show _ = Value.bool false from rfl) rfl) ?_
         refine lex.gskip (want_f rfl rfl (show _ = Value.bool false from rfl) rfl) ?_
         refine lex.gskip (want_f rfl rfl (show _ = Value.bool false from rfl) rfl) ?_
         refine lex.pure (v := .bool false) (pu_pickF (q := false) rfl rfl rfl) ?_
         refine lex.pure (v := .bool false) (pu_move rfl) ?_
         refine lex.gskip (want_f rfl rfl (show _ = Value.bool false from rfl) rfl) ?_
         refine lex.gskip (want_f rfl rfl (show _ = Value.bool false from rfl) rfl) ?_
         refine lex.gskip (want_f rfl rfl (show _ = Value.bool false from rfl) rfl) ?_
         refine lex.pure (v := .bool false) (pu_pickF (q := false) rfl rfl rfl) ?_
         refine lex.pure (v := .bool false) (pu_assign rfl) ?_
         refine lex.nil ?_
         refine hK851 _ _ ?_
         obtain rfl := Option.some.inj hb
         refine Wc.ret ?_
         refine hKR _ _ ?_
         refine ⟨_, res1 Try.results5 (show RV _ _ _ (.tmp _) (.bool false) from rfl), _, rfl, rfl, hC.sel [] (by decide)⟩
end Go.Proofs.Ytkeaonceaaafcaa
