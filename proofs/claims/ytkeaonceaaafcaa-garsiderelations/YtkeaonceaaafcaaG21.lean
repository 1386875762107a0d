/- The walks: part 21. -/
import Derived.Test.YtkeaonceaaafcaaS
import Derived.Test.YtkeaonceaaafcaaG0
import Derived.Test.YtkeaonceaaafcaaG3
import Derived.Test.YtkeaonceaaafcaaG4
import Derived.Test.YtkeaonceaaafcaaG13
import Derived.Test.YtkeaonceaaafcaaG15
import Derived.Test.YtkeaonceaaafcaaG16
set_option linter.unusedVariables false
set_option linter.unusedSimpArgs false
namespace Go.Proofs.Ytkeaonceaaafcaa
open Ev
set_option maxRecDepth 100000 in
set_option maxHeartbeats 4000000 in
theorem law34_GarsideRelations_ok (n : Nat) {w : World} {O0 : List Nat} (hO : ∀ k ∈ O0, k < w.heap.size) {b_0_0 : Int} (hb_0_0 : I64 b_0_0) {Ab_0_1 : Option Addr} {mb_0_1 cb_0_1 : Nat} {b_0_1 : List Int} (hb_0_1 : Rep O0 w (.sl (.int .i64)) [.slice Ab_0_1 mb_0_1 cb_0_1] b_0_1) {at_1 : Int} (hat_1 : IntKind.u8.wrap at_1 = at_1) {letter_2 : Int} (hletter_2 : I64 letter_2) {r : Bool} (hb : F.law34_GarsideRelations n b_0_0 b_0_1 at_1 letter_2 = some r) :
    Calls Try.prog 7 #[.agg #[.int .i64 b_0_0, .slice Ab_0_1 mb_0_1 cb_0_1], .int .u8 at_1, .int .i64 letter_2] w fun e w' => ∃ v, e = .returned v ∧ v = .bool r ∧ Cx (fun _ => False) O0 w w' [] := by
  unfold F.law34_GarsideRelations at hb
  have hC := Cx.start hO
  replace hC := hC.arg rfl hb_0_1
  clear hO
  obtain ⟨rfl, hlb_0_1, hcb_0_1⟩ := hb_0_1.sl_len
  refine calls_of_Wc Try.func7 rfl (by rw [Try.ntmps7]; exact Nat.le_of_ble_eq_true rfl) fun KR hKR => ?_
  refine Wc.seq fun K2 hK2 => ?_
  refine Wc.region (by decide +kernel) ?_
  refine lex.op (hC.box (cs := [.int .i64 b_0_0, .slice Ab_0_1 b_0_1.length cb_0_1]) rfl rfl) ?_
  rintro _ w4 ⟨g3, rfl, hC, hF, hG⟩
  clear hG
  refine lex.pure (v := .bool false) (pu_assign rfl) ?_
  refine lex.nil ?_
  refine hK2 _ _ ?_
  refine Wc.seq fun K6 hK6 => ?_
  refine Wc.seq fun K7 hK7 => ?_
  refine Wc.region (by decide +kernel) ?_
  obtain ⟨y8, h9, hb⟩ := bd hb
  refine lex.cl (⟨_, _, op_call (vs := []) Try.call12 rfl rfl rfl, law34_awake_ok n hC.lt  h9⟩) ?_
  rintro _ w10 ⟨rfl, hK⟩
  replace hC := hC.merge hK
  clear hK
  refine lex.pure (v := .bool (!y8)) (pu_not (q := y8) rfl) ?_
  refine lex.pure (v := .bool (!y8)) (pu_move rfl) ?_
  rcases bS (!y8) with hq11 | hq11
  · replace hb := (cT hq11).symm.trans hb
    refine lex.gskip (want_f rfl rfl (show _ = Value.bool (!y8) from rfl) hq11) ?_
    refine lex.gskip (want_f rfl rfl (show _ = Value.bool (!y8) from rfl) hq11) ?_
    refine lex.gskip (want_f rfl rfl (show _ = Value.bool (!y8) from rfl) hq11) ?_
    refine lex.gskip (want_f rfl rfl (show _ = Value.bool (!y8) from rfl) hq11) ?_
    refine lex.pure (v := .bool true) (pu_pickT (q := (!y8)) rfl hq11 rfl) ?_
    refine lex.pure (v := .bool true) (pu_move rfl) ?_
    refine lex.gskip (want_f rfl rfl (show _ = Value.bool true from rfl) rfl) ?_
    refine lex.gskip (want_f rfl rfl (show _ = Value.bool true from rfl) rfl) ?_
    refine lex.gskip (want_f rfl rfl (show _ = Value.bool true from rfl) rfl) ?_
    refine lex.pure (v := .bool true) (pu_pickT (q := true) rfl rfl rfl) ?_
    refine lex.pure (v := .bool true) (pu_move rfl) ?_
    refine lex.gskip (want_f rfl rfl (show _ = Value.bool true from rfl) rfl) ?_
    refine lex.gskip (want_f rfl rfl (show _ = Value.bool true from rfl) rfl) ?_
    refine lex.gskip (want_f rfl rfl (show _ = Value.bool true from rfl) rfl) ?_
    refine lex.pure (v := .bool true) (pu_pickT (q := true) rfl rfl rfl) ?_
    refine lex.nil ?_
    refine hK7 _ _ ?_
    refine Wc.fresh fun E12 hE => ?_
    have e1 : E12 1 = .int .u8 at_1 := (congrFun hE 1).trans rfl
    have e2 : E12 2 = .int .i64 letter_2 := (congrFun hE 2).trans rfl
    have e3 : E12 3 = .pointer (some ⟨g3, 0, none⟩) := (congrFun hE 3).trans rfl
    have e6 : E12 6 = .bool false := (congrFun hE 6).trans rfl
    have e38 : E12 38 = .bool true := (congrFun hE 38).trans rfl
    clear hE
    refine Wc.cond_true (e38) ?_
    refine Wc.seq fun K13 hK13 => ?_
    refine Wc.region (by decide +kernel) ?_
    obtain ⟨y14, h15, hb⟩ := bd hb
    refine lex.cl (⟨_, _, op_call (vs := []) Try.call12 rfl rfl rfl, law34_awake_ok n hC.lt  h15⟩) ?_
    rintro _ w16 ⟨rfl, hK⟩
    replace hC := hC.merge hK
    clear hK
    refine lex.pure (v := .bool y14) (pu_assign rfl) ?_
    refine lex.nil ?_
    refine hK13 _ _ ?_
    obtain rfl := Option.some.inj hb
    refine Wc.ret ?_
    refine hKR _ _ ?_
    refine ⟨_, res1 Try.results7 (show RV _ _ _ (.tmp _) (.bool y14) from rfl), _, rfl, rfl, hC.sel [] (by decide)⟩
  · replace hb := (cF hq11).symm.trans hb
    refine lex.gpure (want_t rfl rfl (show _ = Value.bool (!y8) from rfl) hq11) (v := .pointer (some ((⟨g3, 0, none⟩ : Addr).add 1))) (pu_field (sz := 1) Try.underlying24 rfl Try.sizeOf22 (by decide) rfl rfl) ?_
    refine lex.gval (want_t rfl rfl (show _ = Value.bool (!y8) from rfl) hq11) (v := .slice Ab_0_1 b_0_1.length cb_0_1) (ld_fld (hC.bx (i := 0) rfl) Try.isAgg22 rfl rfl) ?_
    refine lex.gpure (want_t rfl rfl (show _ = Value.bool (!y8) from rfl) hq11) (v := .int .i64 (b_0_1.length : Int)) (pu_len (A := Ab_0_1) (n := b_0_1.length) (m := cb_0_1) Try.underlying22 rfl) ?_
    refine lex.gpure (want_t rfl rfl (show _ = Value.bool (!y8) from rfl) hq11) (v := .bool (decide (40 < (b_0_1.length : Int)))) (pu_gtr (k := .i64) (a := (b_0_1.length : Int)) (b := 40) rfl rfl) ?_
    refine lex.pure (v := .bool (decide (40 < (b_0_1.length : Int)))) (pu_pickF (q := (!y8)) rfl hq11 rfl) ?_
    refine lex.pure (v := .bool (decide (40 < (b_0_1.length : Int)))) (pu_move rfl) ?_
    rcases bS (decide (40 < (b_0_1.length : Int))) with hq17 | hq17
    · replace hb := (cT hq17).symm.trans hb
      refine lex.gskip (want_f rfl rfl (show _ = Value.bool (decide (40 < (b_0_1.length : Int))) from rfl) hq17) ?_
      refine lex.gskip (want_f rfl rfl (show _ = Value.bool (decide (40 < (b_0_1.length : Int))) from rfl) hq17) ?_
      refine lex.gskip (want_f rfl rfl (show _ = Value.bool (decide (40 < (b_0_1.length : Int))) from rfl) hq17) ?_
      refine lex.pure (v := .bool true) (pu_pickT (q := (decide (40 < (b_0_1.length : Int)))) rfl hq17 rfl) ?_
      refine lex.pure (v := .bool true) (pu_move rfl) ?_
      refine lex.gskip (want_f rfl rfl (show _ = Value.bool true from rfl) rfl) ?_
      refine lex.gskip (want_f rfl rfl (show _ = Value.bool true from rfl) rfl) ?_
      refine lex.gskip (want_f rfl rfl (show _ = Value.bool true from rfl) rfl) ?_
      refine lex.pure (v := .bool true) (pu_pickT (q := true) rfl rfl rfl) ?_
      refine lex.nil ?_
      refine hK7 _ _ ?_
      refine Wc.fresh fun E18 hE => ?_
      have e1 : E18 1 = .int .u8 at_1 := (congrFun hE 1).trans rfl
      have e2 : E18 2 = .int .i64 letter_2 := (congrFun hE 2).trans rfl
      have e3 : E18 3 = .pointer (some ⟨g3, 0, none⟩) := (congrFun hE 3).trans rfl
      have e6 : E18 6 = .bool false := (congrFun hE 6).trans rfl
      have e38 : E18 38 = .bool true := (congrFun hE 38).trans rfl
      clear hE
      refine Wc.cond_true (e38) ?_
      refine Wc.seq fun K19 hK19 => ?_
      refine Wc.region (by decide +kernel) ?_
      obtain ⟨y20, h21, hb⟩ := bd hb
      refine lex.cl (⟨_, _, op_call (vs := []) Try.call12 rfl rfl rfl, law34_awake_ok n hC.lt  h21⟩) ?_
      rintro _ w22 ⟨rfl, hK⟩
      replace hC := hC.merge hK
      clear hK
      refine lex.pure (v := .bool y20) (pu_assign rfl) ?_
      refine lex.nil ?_
      refine hK19 _ _ ?_
      obtain rfl := Option.some.inj hb
      refine Wc.ret ?_
      refine hKR _ _ ?_
      refine ⟨_, res1 Try.results7 (show RV _ _ _ (.tmp _) (.bool y20) from rfl), _, rfl, rfl, hC.sel [] (by decide)⟩
    · replace hb := (cF hq17).symm.trans hb
      refine lex.gval (want_t rfl rfl (show _ = Value.bool (decide (40 < (b_0_1.length : Int))) from rfl) hq17) (v := .agg #[.int .i64 b_0_0, .slice Ab_0_1 b_0_1.length cb_0_1]) (ld_blk (hC.bx (i := 0) rfl) Try.isAgg24 Try.sizeOf24 rfl) ?_
      obtain ⟨y23, h24, hb⟩ := bd hb
      refine lex.gcl (want_t rfl rfl (show _ = Value.bool (decide (40 < (b_0_1.length : Int))) from rfl) hq17) (⟨_, _, op_call (vs := [.agg #[.int .i64 b_0_0, .slice Ab_0_1 b_0_1.length cb_0_1]]) Try.call14 rfl rfl rfl, braid_Valid_ok n hC.lt hb_0_0 (hC.rd (i := 1) rfl) h24⟩) ?_
      rintro _ w25 ⟨rfl, hK⟩
      replace hC := hC.merge hK
      clear hK
      refine lex.gpure (want_t rfl rfl (show _ = Value.bool (decide (40 < (b_0_1.length : Int))) from rfl) hq17) (v := .bool (!y23)) (pu_not (q := y23) rfl) ?_
      refine lex.pure (v := .bool (!y23)) (pu_pickF (q := (decide (40 < (b_0_1.length : Int)))) rfl hq17 rfl) ?_
      refine lex.pure (v := .bool (!y23)) (pu_move rfl) ?_
      rcases bS (!y23) with hq26 | hq26
      · replace hb := (cT hq26).symm.trans hb
        refine lex.gskip (want_f rfl rfl (show _ = Value.bool (!y23) from rfl) hq26) ?_
        refine lex.gskip (want_f rfl rfl (show _ = Value.bool (!y23) from rfl) hq26) ?_
        refine lex.gskip (want_f rfl rfl (show _ = Value.bool (!y23) from rfl) hq26) ?_
        refine lex.pure (v := .bool true) (pu_pickT (q := (!y23)) rfl hq26 rfl) ?_
        refine lex.nil ?_
        refine hK7 _ _ ?_
        refine Wc.fresh fun E27 hE => ?_
        have e1 : E27 1 = .int .u8 at_1 := (congrFun hE 1).trans rfl
        have e2 : E27 2 = .int .i64 letter_2 := (congrFun hE 2).trans rfl
        have e3 : E27 3 = .pointer (some ⟨g3, 0, none⟩) := (congrFun hE 3).trans rfl
        have e6 : E27 6 = .bool false := (congrFun hE 6).trans rfl
        have e38 : E27 38 = .bool true := (congrFun hE 38).trans rfl
        clear hE
        refine Wc.cond_true (e38) ?_
        refine Wc.seq fun K28 hK28 => ?_
        refine Wc.region (by decide +kernel) ?_
        obtain ⟨y29, h30, hb⟩ := bd hb
        refine lex.cl (⟨_, _, op_call (vs := []) Try.call12 rfl rfl rfl, law34_awake_ok n hC.lt  h30⟩) ?_
        rintro _ w31 ⟨rfl, hK⟩
        replace hC := hC.merge hK
        clear hK
        refine lex.pure (v := .bool y29) (pu_assign rfl) ?_
        refine lex.nil ?_
        refine hK28 _ _ ?_
        obtain rfl := Option.some.inj hb
        refine Wc.ret ?_
        refine hKR _ _ ?_
        refine ⟨_, res1 Try.results7 (show RV _ _ _ (.tmp _) (.bool y29) from rfl), _, rfl, rfl, hC.sel [] (by decide)⟩
      · replace hb := (cF hq26).symm.trans hb
        refine lex.gpure (want_t rfl rfl (show _ = Value.bool (!y23) from rfl) hq26) (v := .pointer (some ((⟨g3, 0, none⟩ : Addr).add 0))) (pu_field (sz := 1) Try.underlying24 rfl Try.sizeOf3 (by decide) rfl rfl) ?_
        refine lex.gval (want_t rfl rfl (show _ = Value.bool (!y23) from rfl) hq26) (v := .int .i64 b_0_0) (ld_fld (hC.bx (i := 0) rfl) Try.isAgg3 rfl rfl) ?_
        refine lex.gpure (want_t rfl rfl (show _ = Value.bool (!y23) from rfl) hq26) (v := .bool (decide (b_0_0 < 2))) (pu_lss (k := .i64) (a := b_0_0) (b := 2) rfl rfl) ?_
        refine lex.pure (v := .bool (decide (b_0_0 < 2))) (pu_pickF (q := (!y23)) rfl hq26 rfl) ?_
        refine lex.nil ?_
        refine hK7 _ _ ?_
        refine Wc.fresh fun E32 hE => ?_
        have e1 : E32 1 = .int .u8 at_1 := (congrFun hE 1).trans rfl
        have e2 : E32 2 = .int .i64 letter_2 := (congrFun hE 2).trans rfl
        have e3 : E32 3 = .pointer (some ⟨g3, 0, none⟩) := (congrFun hE 3).trans rfl
        have e6 : E32 6 = .bool false := (congrFun hE 6).trans rfl
        have e38 : E32 38 = .bool (decide (b_0_0 < 2)) := (congrFun hE 38).trans rfl
        clear hE
        refine Wc.cond (t := (decide (b_0_0 < 2))) (e38) (fun hq33 => ?_) (fun hq33 => ?_)
        · replace hb := (cT hq33).symm.trans hb
          refine Wc.seq fun K34 hK34 => ?_
          refine Wc.region (by decide +kernel) ?_
          obtain ⟨y35, h36, hb⟩ := bd hb
          refine lex.cl (⟨_, _, op_call (vs := []) Try.call12 rfl rfl rfl, law34_awake_ok n hC.lt  h36⟩) ?_
          rintro _ w37 ⟨rfl, hK⟩
          replace hC := hC.merge hK
          clear hK
          refine lex.pure (v := .bool y35) (pu_assign rfl) ?_
          refine lex.nil ?_
          refine hK34 _ _ ?_
          obtain rfl := Option.some.inj hb
          refine Wc.ret ?_
          refine hKR _ _ ?_
          refine ⟨_, res1 Try.results7 (show RV _ _ _ (.tmp _) (.bool y35) from rfl), _, rfl, rfl, hC.sel [] (by decide)⟩
        · replace hb := (cF hq33).symm.trans hb
          refine Wc.skip ?_
          refine hK6 _ _ ?_
          refine Wc.seq fun K38 hK38 => ?_
          refine Wc.region (by decide +kernel) ?_
          refine lex.val (v := .agg #[.int .i64 b_0_0, .slice Ab_0_1 b_0_1.length cb_0_1]) (ld_blk (hC.bx (i := 0) rfl) Try.isAgg24 Try.sizeOf24 e3) ?_
          obtain ⟨y39, h40, hb⟩ := bd hb
          refine lex.cl (⟨_, _, op_call (vs := [.agg #[.int .i64 b_0_0, .slice Ab_0_1 b_0_1.length cb_0_1]]) Try.call13 rfl rfl rfl, garside_Form_ok n hC.lt hb_0_0 (hC.rd (i := 1) rfl) h40⟩) ?_
          rintro _ w48 ⟨A43, m44, c45, rfl, hr41, hr42, hr47, hK⟩
          replace hC := hC.merge hK
          clear hK
          obtain ⟨rfl, hl49, hc50⟩ := (hC.rd (i := 0) rfl).sl_len
          refine lex.pure (v := .tuple #[.agg #[.int .i64 y39.1, .int .i64 y39.2.1, .slice A43 y39.2.2.1.length c45], .int .i64 y39.2.2.2]) (pu_move rfl) ?_
          refine lex.pure (v := .agg #[.int .i64 y39.1, .int .i64 y39.2.1, .slice A43 y39.2.2.1.length c45]) (pu_extract rfl rfl) ?_
          refine lex.pure (v := .int .i64 y39.2.2.2) (pu_extract rfl rfl) ?_
          refine lex.op (hC.alloc (cs := [.int .i64 0, .int .i64 0, .slice none 0 0]) Try.zeroValue28 rfl) ?_
          rintro _ w52 ⟨g51, rfl, hC, hF, hG⟩
          clear hG
          refine lex.sk (hC.seta (i := 0) (ds := [.int .i64 y39.1, .int .i64 y39.2.1, .slice A43 y39.2.2.1.length c45]) rfl Try.type28 rfl rfl rfl rfl rfl) ?_
          rintro w54 ⟨hC, hF⟩
          refine lex.pure (v := .int .i64 y39.2.2.2) (pu_assign rfl) ?_
          refine lex.nil ?_
          refine hK38 _ _ ?_
          refine Wc.seq fun K55 hK55 => ?_
          refine Wc.seq fun K56 hK56 => ?_
          refine Wc.region (by decide +kernel) ?_
          refine lex.pure (v := .int .i64 y39.2.2.2) (pu_move rfl) ?_
          refine lex.pure (v := .bool (!(decide (y39.2.2.2 = 0)))) (pu_neq (k := .i64) (a := y39.2.2.2) (b := 0) rfl rfl) ?_
          refine lex.nil ?_
          refine hK56 _ _ ?_
          refine Wc.cond (t := (!(decide (y39.2.2.2 = 0)))) (rfl) (fun hq57 => ?_) (fun hq57 => ?_)
          · replace hb := (cT hq57).symm.trans hb
            refine Wc.seq fun K58 hK58 => ?_
            refine Wc.region (by decide +kernel) ?_
            refine lex.pure (v := .bool false) (pu_assign rfl) ?_
            refine lex.nil ?_
            refine hK58 _ _ ?_
            obtain rfl := Option.some.inj hb
            refine Wc.ret ?_
            refine hKR _ _ ?_
            refine ⟨_, res1 Try.results7 (show RV _ _ _ (.tmp _) (.bool false) from rfl), _, rfl, rfl, hC.sel [] (by decide)⟩
          · replace hb := (cF hq57).symm.trans hb
            refine Wc.skip ?_
            refine hK55 _ _ ?_
            refine Wc.seq fun K59 hK59 => ?_
            refine Wc.region (by decide +kernel) ?_
            refine lex.pure (v := .int .u8 at_1) (pu_move e1) ?_
            refine lex.pure (v := .int .i64 at_1) (pu_conv (k := .u8) (a := at_1) Try.underlying5 Try.underlying3 rfl (small_u8 hat_1).wr) ?_
            refine lex.pure (v := .pointer (some ((⟨g3, 0, none⟩ : Addr).add 1))) (pu_field (sz := 1) Try.underlying24 rfl Try.sizeOf22 (by decide) rfl e3) ?_
            refine lex.val (v := .slice Ab_0_1 b_0_1.length cb_0_1) (ld_fld (hC.bx (i := 2) rfl) Try.isAgg22 rfl rfl) ?_
            refine lex.pure (v := .int .i64 (b_0_1.length : Int)) (pu_len (A := Ab_0_1) (n := b_0_1.length) (m := cb_0_1) Try.underlying22 rfl) ?_
            obtain ⟨z60, h61, hb⟩ := bd hb
            refine lex.pure (v := .int .i64 z60) (pu_addc (a := (b_0_1.length : Int)) (b := 1) rfl rfl h61) ?_
            obtain ⟨u62, h63, hb⟩ := bd hb
            refine lex.pure (v := .int .i64 (Int.tmod at_1 z60)) (pu_remc (a := at_1) (b := z60) rfl rfl h63) ?_
            refine lex.pure (v := .int .i64 (Int.tmod at_1 z60)) (pu_assign rfl) ?_
            refine lex.nil ?_
            refine hK59 _ _ ?_
            refine Wc.fresh fun E64 hE => ?_
            have e2 : E64 2 = .int .i64 letter_2 := (congrFun hE 2).trans e2
            have e3 : E64 3 = .pointer (some ⟨g3, 0, none⟩) := (congrFun hE 3).trans e3
            have e6 : E64 6 = .bool false := (congrFun hE 6).trans e6
            have e7 : E64 7 = .pointer (some ⟨g51, 0, none⟩) := (congrFun hE 7).trans rfl
            have e9 : E64 9 = .int .i64 (Int.tmod at_1 z60) := (congrFun hE 9).trans rfl
            clear hE
            refine Wc.seq fun K65 hK65 => ?_
            refine Wc.region (by decide +kernel) ?_
            refine lex.pure (v := .slice none 0 0) (pu_assign rfl) ?_
            refine lex.nil ?_
            refine hK65 _ _ ?_
            refine Wc.seqJ (fun E wv => ∃ (l10_0 : List (Int × (List Int))) (Al10_0 : Option Addr) (ml10_0 cl10_0 : Nat), E 3 = .pointer (some ⟨g3, 0, none⟩) ∧ E 6 = .bool false ∧ E 7 = .pointer (some ⟨g51, 0, none⟩) ∧ E 9 = .int .i64 (Int.tmod at_1 z60) ∧ E 10 = .slice Al10_0 ml10_0 cl10_0 ∧ Cx (fun _ => False) O0 w wv [.box g3 24 [.int .i64 b_0_0, .slice Ab_0_1 b_0_1.length cb_0_1], .ro (.sl (.int .i64)) [.slice Ab_0_1 b_0_1.length cb_0_1] b_0_1, .box g51 28 [.int .i64 y39.1, .int .i64 y39.2.1, .slice A43 y39.2.2.1.length c45], .ro (.sl (.sl (.int .i64))) [.slice A43 y39.2.2.1.length c45] y39.2.2.1, .own 24 (.pr (.int .i64) (.sl (.int .i64))) (.slice Al10_0 ml10_0 cl10_0) l10_0] ∧ F.law34_GarsideRelations_j0 n b_0_0 b_0_1 at_1 y39 z60 l10_0 = some r) (fun K66 hK66 => ?_) ?_
            ·
              skip
              refine Wc.seqJ (fun E wv => ∃ (v68_1 : Bool), E 2 = .int .i64 letter_2 ∧ E 3 = .pointer (some ⟨g3, 0, none⟩) ∧ E 6 = .bool false ∧ E 7 = .pointer (some ⟨g51, 0, none⟩) ∧ E 9 = .int .i64 (Int.tmod at_1 z60) ∧ E 10 = .slice none 0 0 ∧ E 68 = .bool v68_1 ∧ Cx (fun _ => False) O0 w wv [.box g3 24 [.int .i64 b_0_0, .slice Ab_0_1 b_0_1.length cb_0_1], .ro (.sl (.int .i64)) [.slice Ab_0_1 b_0_1.length cb_0_1] b_0_1, .box g51 28 [.int .i64 y39.1, .int .i64 y39.2.1, .slice A43 y39.2.2.1.length c45], .ro (.sl (.sl (.int .i64))) [.slice A43 y39.2.2.1.length c45] y39.2.2.1] ∧ F.law34_GarsideRelations_j1 n b_0_0 b_0_1 at_1 letter_2 y39 z60 v68_1 = some r) (fun K67 hK67 => ?_) ?_
              ·
                skip
                refine Wc.region (by decide +kernel) ?_
                refine lex.pure (v := .int .i64 letter_2) (pu_move e2) ?_
                refine lex.pure (v := .bool (!(decide (letter_2 = 0)))) (pu_neq (k := .i64) (a := letter_2) (b := 0) rfl rfl) ?_
                refine lex.pure (v := .bool (!(decide (letter_2 = 0)))) (pu_move rfl) ?_
                rcases bS (!(decide (letter_2 = 0))) with hq68 | hq68
                · replace hb := (cT hq68).symm.trans hb
                  refine lex.gpure (want_t rfl rfl (show _ = Value.bool (!(decide (letter_2 = 0))) from rfl) hq68) (v := .int .i64 letter_2) (pu_move e2) ?_
                  refine lex.gpure (want_t rfl rfl (show _ = Value.bool (!(decide (letter_2 = 0))) from rfl) hq68) (v := .pointer (some ((⟨g3, 0, none⟩ : Addr).add 0))) (pu_field (sz := 1) Try.underlying24 rfl Try.sizeOf3 (by decide) rfl e3) ?_
                  refine lex.gval (want_t rfl rfl (show _ = Value.bool (!(decide (letter_2 = 0))) from rfl) hq68) (v := .int .i64 b_0_0) (ld_fld (hC.bx (i := 2) rfl) Try.isAgg3 rfl rfl) ?_
                  obtain ⟨z69, h70, hb⟩ := bd hb
                  refine lex.gpure (want_t rfl rfl (show _ = Value.bool (!(decide (letter_2 = 0))) from rfl) hq68) (v := .int .i64 z69) (pu_negc (a := b_0_0) rfl h70) ?_
                  refine lex.gpure (want_t rfl rfl (show _ = Value.bool (!(decide (letter_2 = 0))) from rfl) hq68) (v := .bool (decide (z69 < letter_2))) (pu_gtr (k := .i64) (a := letter_2) (b := z69) rfl rfl) ?_
                  refine lex.pure (v := .bool (decide (z69 < letter_2))) (pu_pickT (q := (!(decide (letter_2 = 0)))) rfl hq68 rfl) ?_
                  refine lex.pure (v := .bool (decide (z69 < letter_2))) (pu_move rfl) ?_
                  rcases bS (decide (z69 < letter_2)) with hq71 | hq71
                  · replace hb := (cT hq71).symm.trans hb
                    refine lex.gpure (want_t rfl rfl (show _ = Value.bool (decide (z69 < letter_2)) from rfl) hq71) (v := .int .i64 letter_2) (pu_move e2) ?_
                    refine lex.gpure (want_t rfl rfl (show _ = Value.bool (decide (z69 < letter_2)) from rfl) hq71) (v := .pointer (some ((⟨g3, 0, none⟩ : Addr).add 0))) (pu_field (sz := 1) Try.underlying24 rfl Try.sizeOf3 (by decide) rfl e3) ?_
                    refine lex.gval (want_t rfl rfl (show _ = Value.bool (decide (z69 < letter_2)) from rfl) hq71) (v := .int .i64 b_0_0) (ld_fld (hC.bx (i := 2) rfl) Try.isAgg3 rfl rfl) ?_
                    refine lex.gpure (want_t rfl rfl (show _ = Value.bool (decide (z69 < letter_2)) from rfl) hq71) (v := .bool (decide (letter_2 < b_0_0))) (pu_lss (k := .i64) (a := letter_2) (b := b_0_0) rfl rfl) ?_
                    refine lex.pure (v := .bool (decide (letter_2 < b_0_0))) (pu_pickT (q := (decide (z69 < letter_2))) rfl hq71 rfl) ?_
                    refine lex.nil ?_
                    exact hK67 _ _ ⟨(decide (letter_2 < b_0_0)), e2, e3, e6, e7, e9, rfl, rfl, hC.sel [2, 3, 0, 1] (by decide), hb⟩
                  · replace hb := (cF hq71).symm.trans hb
                    refine lex.gskip (want_f rfl rfl (show _ = Value.bool (decide (z69 < letter_2)) from rfl) hq71) ?_
                    refine lex.gskip (want_f rfl rfl (show _ = Value.bool (decide (z69 < letter_2)) from rfl) hq71) ?_
                    refine lex.gskip (want_f rfl rfl (show _ = Value.bool (decide (z69 < letter_2)) from rfl) hq71) ?_
                    refine lex.gskip (want_f rfl rfl (show _ = Value.bool (decide (z69 < letter_2)) from rfl) hq71) ?_
                    refine lex.pure (v := .bool false) (pu_pickF (q := (decide (z69 < letter_2))) rfl hq71 rfl) ?_
                    refine lex.nil ?_
                    exact hK67 _ _ ⟨false, e2, e3, e6, e7, e9, rfl, rfl, hC.sel [2, 3, 0, 1] (by decide), hb⟩
                · replace hb := (cF hq68).symm.trans hb
                  refine lex.gskip (want_f rfl rfl (show _ = Value.bool (!(decide (letter_2 = 0))) from rfl) hq68) ?_
                  refine lex.gskip (want_f rfl rfl (show _ = Value.bool (!(decide (letter_2 = 0))) from rfl) hq68) ?_
                  refine lex.gskip (want_f rfl rfl (show _ = Value.bool (!(decide (letter_2 = 0))) from rfl) hq68) ?_
                  refine lex.gskip (want_f rfl rfl (show _ = Value.bool (!(decide (letter_2 = 0))) from rfl) hq68) ?_
                  refine lex.gskip (want_f rfl rfl (show _ = Value.bool (!(decide (letter_2 = 0))) from rfl) hq68) ?_
                  refine lex.pure (v := .bool false) (pu_pickF (q := (!(decide (letter_2 = 0)))) rfl hq68 rfl) ?_
                  refine lex.pure (v := .bool false) (pu_move rfl) ?_
                  refine lex.gskip (want_f rfl rfl (show _ = Value.bool false from rfl) rfl) ?_
                  refine lex.gskip (want_f rfl rfl (show _ = Value.bool false from rfl) rfl) ?_
                  refine lex.gskip (want_f rfl rfl (show _ = Value.bool false from rfl) rfl) ?_
                  refine lex.gskip (want_f rfl rfl (show _ = Value.bool false from rfl) rfl) ?_
                  refine lex.pure (v := .bool false) (pu_pickF (q := false) rfl rfl rfl) ?_
                  refine lex.nil ?_
                  exact hK67 _ _ ⟨false, e2, e3, e6, e7, e9, rfl, rfl, hC.sel [2, 3, 0, 1] (by decide), hb⟩
              · clear hb hC
                rintro E73 w72 ⟨v68_1, e2, e3, e6, e7, e9, e10, e68, hC, hb⟩
                unfold F.law34_GarsideRelations_j1 at hb
                refine Wc.cond (t := v68_1) (e68) (fun hq74 => ?_) (fun hq74 => ?_)
                · replace hb := (cT hq74).symm.trans hb
                  refine Wc.regionMix [] (frm [] ([] : List Fact) ([] : List Fact)) (fun _ => rfl) mixed (by decide +kernel) (by decide +kernel) fun w76 hw75 => ?_
                  replace hC := hC.step (Fr.of_drew hw75)
                  have hM := Fr.refl (fun k => k ∈ blocks ([] : List Fact)) w76
                  clear hw75
                  have hS := hC
                  refine mixE.pure (v := .slice none 0 0) (pu_move e10) ?_
                  refine mixE.pure (v := .pointer (some ((⟨g3, 0, none⟩ : Addr).add 0))) (pu_field (sz := 1) Try.underlying24 rfl Try.sizeOf3 (by decide) rfl e3) ?_
                  refine mixE.load hM (v := .int .i64 b_0_0) (fun _ hF => ld_fld (hS.bx2 (i := 0) rfl [] (by decide) hF) Try.isAgg3 rfl rfl) ?_
                  refine mixE.pure (v := .pointer (some ((⟨g3, 0, none⟩ : Addr).add 1))) (pu_field (sz := 1) Try.underlying24 rfl Try.sizeOf22 (by decide) rfl e3) ?_
                  refine mixE.load hM (v := .slice Ab_0_1 b_0_1.length cb_0_1) (fun _ hF => ld_fld (hS.bx2 (i := 0) rfl [] (by decide) hF) Try.isAgg22 rfl rfl) ?_
                  refine mixE.pure (v := .int .i64 (Int.tmod at_1 z60)) (pu_move e9) ?_
                  obtain ⟨u77, h78, hb⟩ := bd hb
                  obtain ⟨A79, c80, hp83, hR84⟩ := pu_part_h (b := (Int.tmod at_1 z60)) Try.underlying22 Try.sizeOf3 (hC.rd (i := 1) rfl) rfl (cut_some h78)
                  refine mixE.pure (v := .slice A79 (((b_0_1.drop (0 : Int).toNat).take ((Int.tmod at_1 z60).toNat - (0 : Int).toNat)).length) c80) (hp83 rfl  rfl) ?_
                  replace hC := hC.ro hR84
                  obtain ⟨-, hl81, hc82⟩ := (hC.rd (i := 0) rfl).sl_len
                  refine mixE.pure (v := .int .i64 letter_2) (pu_move e2) ?_
                  refine mixE.pure (v := .int .i64 letter_2) (pu_move e2) ?_
                  obtain ⟨z86, h87, hb⟩ := bd hb
                  refine mixE.pure (v := .int .i64 z86) (pu_negc (a := letter_2) rfl h87) ?_
                  refine mixE.op hM (hC.lit (s := (.int .i64)) (vs := [.int .i64 letter_2, .int .i64 z86]) (xs := [letter_2, z86]) Try.underlying22 Try.type3 rfl rfl (Nat.le_of_ble_eq_true rfl) rfl rfl (by simp [Value.cells, Sh.n]) rfl (show Elems _ _ (.int .i64) ([.int .i64 letter_2] ++ ([.int .i64 z86] ++ ([]))) ([letter_2, z86] : List Int) from Elems.cons (⟨rfl, I64.wr hletter_2⟩) (Elems.cons (⟨rfl, I64.wr (chk_rng h87)⟩) (Elems.nil _ _ _)))) ?_
                  rintro _ w92 ⟨A88, c89, rfl, hl90, hc91, hC, hF, hN⟩
                  have hBf93 := Beside.new hM hN
                  replace hM := hM.none hF
                  refine ⟨hM, ?_⟩
                  clear hF hN
                  refine mixE.pure (v := .pointer (some ((⟨g3, 0, none⟩ : Addr).add 1))) (pu_field (sz := 1) Try.underlying24 rfl Try.sizeOf22 (by decide) rfl e3) ?_
                  refine mixE.load hM (v := .slice Ab_0_1 b_0_1.length cb_0_1) (fun _ hF => ld_fld (hS.bx2 (i := 0) rfl [] (by decide) hF) Try.isAgg22 rfl rfl) ?_
                  refine mixE.pure (v := .int .i64 (Int.tmod at_1 z60)) (pu_move e9) ?_
                  obtain ⟨u94, h95, hb⟩ := bd hb
                  obtain ⟨A96, c97, hp100, hR101⟩ := pu_part_l (a := (Int.tmod at_1 z60))  Try.underlying22 Try.sizeOf3 (hC.rd (i := 3) rfl) rfl (cut_some h95)
                  refine mixE.pure (v := .slice A96 (((b_0_1.drop (Int.tmod at_1 z60).toNat).take ((b_0_1.length : Int).toNat - (Int.tmod at_1 z60).toNat)).length) c97) (hp100 rfl rfl ) ?_
                  replace hC := hC.ro hR101
                  obtain ⟨-, hl98, hc99⟩ := (hC.rd (i := 0) rfl).sl_len
                  replace hC := hC.freeze (i := 1) rfl (hC.own_new (i := 1) rfl)
                  refine mixE.op hM (hC.lit (s := (.sl (.int .i64))) (vs := [.slice A79 (((b_0_1.drop (0 : Int).toNat).take ((Int.tmod at_1 z60).toNat - (0 : Int).toNat)).length) c80, .slice A88 ((([letter_2, z86] : List Int)).length) c89, .slice A96 (((b_0_1.drop (Int.tmod at_1 z60).toNat).take ((b_0_1.length : Int).toNat - (Int.tmod at_1 z60).toNat)).length) c97]) (xs := [((b_0_1.drop (0 : Int).toNat).take ((Int.tmod at_1 z60).toNat - (0 : Int).toNat)), ([letter_2, z86] : List Int), ((b_0_1.drop (Int.tmod at_1 z60).toNat).take ((b_0_1.length : Int).toNat - (Int.tmod at_1 z60).toNat))]) Try.underlying35 Try.type22 rfl rfl (Nat.le_of_ble_eq_true rfl) rfl rfl (by simp [Value.cells, Sh.n]) rfl (show Elems _ _ (.sl (.int .i64)) ([.slice A79 (((b_0_1.drop (0 : Int).toNat).take ((Int.tmod at_1 z60).toNat - (0 : Int).toNat)).length) c80] ++ ([.slice A88 ((([letter_2, z86] : List Int)).length) c89] ++ ([.slice A96 (((b_0_1.drop (Int.tmod at_1 z60).toNat).take ((b_0_1.length : Int).toNat - (Int.tmod at_1 z60).toNat)).length) c97] ++ ([])))) ([((b_0_1.drop (0 : Int).toNat).take ((Int.tmod at_1 z60).toNat - (0 : Int).toNat)), ([letter_2, z86] : List Int), ((b_0_1.drop (Int.tmod at_1 z60).toNat).take ((b_0_1.length : Int).toNat - (Int.tmod at_1 z60).toNat))] : List (List Int)) from Elems.cons (hC.rd (i := 2) rfl) (Elems.cons (hC.rd (i := 1) rfl) (Elems.cons (hC.rd (i := 0) rfl) (Elems.nil _ _ _))))) ?_
                  rintro _ w107 ⟨A103, c104, rfl, hl105, hc106, hC, hF, hN⟩
                  have hBf108 := Beside.new hM hN
                  replace hM := hM.none hF
                  refine ⟨hM, ?_⟩
                  clear hF hN
                  obtain ⟨y109, h110, hb⟩ := bd hb
                  refine mixE.cl hM (⟨_, _, op_call (vs := [.slice A103 ((([((b_0_1.drop (0 : Int).toNat).take ((Int.tmod at_1 z60).toNat - (0 : Int).toNat)), ([letter_2, z86] : List Int), ((b_0_1.drop (Int.tmod at_1 z60).toNat).take ((b_0_1.length : Int).toNat - (Int.tmod at_1 z60).toNat))] : List (List Int))).length) c104]) Try.call22 rfl rfl rfl, slices_Concat_Lint_int_ok n (hC.lentLt [.slice A103 ((([((b_0_1.drop (0 : Int).toNat).take ((Int.tmod at_1 z60).toNat - (0 : Int).toNat)), ([letter_2, z86] : List Int), ((b_0_1.drop (Int.tmod at_1 z60).toNat).take ((b_0_1.length : Int).toNat - (Int.tmod at_1 z60).toNat))] : List (List Int))).length) c104]) ((hC.ow (i := 0) rfl).lend (vs := [.slice A103 ((([((b_0_1.drop (0 : Int).toNat).take ((Int.tmod at_1 z60).toNat - (0 : Int).toNat)), ([letter_2, z86] : List Int), ((b_0_1.drop (Int.tmod at_1 z60).toNat).take ((b_0_1.length : Int).toNat - (Int.tmod at_1 z60).toNat))] : List (List Int))).length) c104]) (by simp)) h110⟩) ?_
                  rintro _ w115 ⟨A111, m112, c113, rfl, hK⟩
                  replace hM := hM.none hK.fr
                  refine ⟨hM, ?_⟩
                  replace hC := hC.mergeF hK rfl
                  clear hK
                  obtain ⟨rfl, hl116, hc117⟩ := (hC.ow (i := 0) rfl).sl_len
                  refine mixE.pure (v := .agg #[.int .i64 b_0_0, .slice A111 y109.length c113]) (pu_builds (places := [(0, 1), (1, 1)]) (pv := [(0, .int .i64 b_0_0), (1, .slice A111 y109.length c113)]) Try.type24 Try.underlying24 rfl (mp_cons Try.type3 (mp_cons Try.type22 mp_nil rfl rfl) rfl rfl) rfl (by simp [Instr.fill, Value.cells])) ?_
                  replace hC := hC.freeze (i := 0) rfl (hC.own_new (i := 0) rfl)
                  refine mixE.op hM (hC.lit (s := (.pr (.int .i64) (.sl (.int .i64)))) (vs := [.agg #[.int .i64 b_0_0, .slice A111 y109.length c113]]) (xs := [(b_0_0, y109)]) Try.underlying51 Try.type24 rfl rfl (Nat.le_of_ble_eq_true rfl) rfl rfl (by simp [Value.cells, Sh.n]) rfl (show Elems _ _ (.pr (.int .i64) (.sl (.int .i64))) ([.int .i64 b_0_0, .slice A111 y109.length c113] ++ ([])) ([(b_0_0, y109)] : List (Int × (List Int))) from Elems.cons (⟨[.int .i64 b_0_0], [.slice A111 y109.length c113], rfl, ⟨rfl, I64.wr hb_0_0⟩, hC.rd (i := 0) rfl⟩) (Elems.nil _ _ _))) ?_
                  rintro _ w122 ⟨A118, c119, rfl, hl120, hc121, hC, hF, hN⟩
                  have hBf123 := Beside.new hM hN
                  replace hM := hM.none hF
                  refine ⟨hM, ?_⟩
                  clear hF hN
                  replace hC := hC.nil 24 (.pr (.int .i64) (.sl (.int .i64)))
                  have hBf124 := Beside.new (v := .slice none 0 0) hM (fun g hg => by cases hg)
                  obtain ⟨u125, h126, hb⟩ := bd hb
                  refine mixE.op hM (hC.app (i := 0) (s := (.pr (.int .i64) (.sl (.int .i64)))) (xs := ([] : List (Int × (List Int)))) (ys := ([(b_0_0, y109)] : List (Int × (List Int)))) (m := ((([(b_0_0, y109)] : List (Int × (List Int)))).length)) rfl Try.underlying51 Try.underlying51 Try.type24 rfl rfl rfl (hC.srco (i := 1) rfl) rfl rfl (by have := lim_some h126; simp at this ⊢ <;> omega) (by decide)) ?_
                  rintro _ w131 ⟨A127, c128, rfl, hl129, hc130, hC, hF, hN⟩
                  have hB := hBf124
                  replace hBf124 := hB.app hM hN
                  replace hM := hM.beside hB hF
                  clear hB
                  refine ⟨hM, ?_⟩
                  clear hF hN
                  refine mixE.pure (v := .slice A127 ((([] : List (Int × (List Int))) ++ ([(b_0_0, y109)] : List (Int × (List Int)))).length) c128) (pu_assign rfl) ?_
                  refine mixE.nil ?_
                  clear hS hM
                  exact hK66 _ _ ⟨(([] : List (Int × (List Int))) ++ ([(b_0_0, y109)] : List (Int × (List Int)))), A127, (([] : List (Int × (List Int))) ++ ([(b_0_0, y109)] : List (Int × (List Int)))).length, c128, e3, e6, e7, e9, rfl, hC.sel [7, 8, 9, 10, 0] (by decide), hb⟩
                · replace hb := (cF hq74).symm.trans hb
                  refine Wc.skip ?_
                  replace hC := hC.nil 24 (.pr (.int .i64) (.sl (.int .i64)))
                  exact hK66 _ _ ⟨([] : List (Int × (List Int))), none, 0, 0, e3, e6, e7, e9, e10, hC.sel [1, 2, 3, 4, 0] (by decide), hb⟩
            · clear hb hC
              rintro E134 w133 ⟨l10_0, Al10_0, ml10_0, cl10_0, e3, e6, e7, e9, e10, hC, hb⟩
              unfold F.law34_GarsideRelations_j0 at hb
              obtain ⟨rfl, hll10_0, hcl10_0⟩ := (hC.ow (i := 4) rfl).sl_len
              refine Wc.seqJ (fun E wv => ∃ (l10_2 : List (Int × (List Int))) (Al10_2 : Option Addr) (ml10_2 cl10_2 : Nat), E 3 = .pointer (some ⟨g3, 0, none⟩) ∧ E 6 = .bool false ∧ E 7 = .pointer (some ⟨g51, 0, none⟩) ∧ E 9 = .int .i64 (Int.tmod at_1 z60) ∧ E 10 = .slice Al10_2 ml10_2 cl10_2 ∧ Cx (fun _ => False) O0 w wv [.box g3 24 [.int .i64 b_0_0, .slice Ab_0_1 b_0_1.length cb_0_1], .ro (.sl (.int .i64)) [.slice Ab_0_1 b_0_1.length cb_0_1] b_0_1, .box g51 28 [.int .i64 y39.1, .int .i64 y39.2.1, .slice A43 y39.2.2.1.length c45], .ro (.sl (.sl (.int .i64))) [.slice A43 y39.2.2.1.length c45] y39.2.2.1, .own 24 (.pr (.int .i64) (.sl (.int .i64))) (.slice Al10_2 ml10_2 cl10_2) l10_2] ∧ F.law34_GarsideRelations_j2 n b_0_0 b_0_1 at_1 y39 z60 l10_2 = some r) (fun K135 hK135 => ?_) ?_
              ·
                skip
                refine Wc.seq fun K136 hK136 => ?_
                refine Wc.region (by decide +kernel) ?_
                refine lex.pure (v := .int .i64 (Int.tmod at_1 z60)) (pu_move e9) ?_
                obtain ⟨z137, h138, hb⟩ := bd hb
                refine lex.pure (v := .int .i64 z137) (pu_addc (a := (Int.tmod at_1 z60)) (b := 1) rfl rfl h138) ?_
                refine lex.pure (v := .pointer (some ((⟨g3, 0, none⟩ : Addr).add 1))) (pu_field (sz := 1) Try.underlying24 rfl Try.sizeOf22 (by decide) rfl e3) ?_
                refine lex.val (v := .slice Ab_0_1 b_0_1.length cb_0_1) (ld_fld (hC.bx (i := 0) rfl) Try.isAgg22 rfl rfl) ?_
                refine lex.pure (v := .int .i64 (b_0_1.length : Int)) (pu_len (A := Ab_0_1) (n := b_0_1.length) (m := cb_0_1) Try.underlying22 rfl) ?_
                refine lex.pure (v := .bool (decide (z137 < (b_0_1.length : Int)))) (pu_lss (k := .i64) (a := z137) (b := (b_0_1.length : Int)) rfl rfl) ?_
                refine lex.nil ?_
                refine hK136 _ _ ?_
                refine Wc.cond (t := (decide (z137 < (b_0_1.length : Int)))) (rfl) (fun hq139 => ?_) (fun hq139 => ?_)
                · replace hb := (cT hq139).symm.trans hb
                  refine Wc.seq fun K140 hK140 => ?_
                  refine Wc.regionMix [] (frm [] ([] : List Fact) ([] : List Fact)) (fun _ => rfl) mixed (by decide +kernel) (by decide +kernel) fun w142 hw141 => ?_
                  replace hC := hC.step (Fr.of_drew hw141)
                  have hM := Fr.refl (fun k => k ∈ blocks ([] : List Fact)) w142
                  clear hw141
                  have hS := hC
                  refine mixE.pure (v := .pointer (some ((⟨g3, 0, none⟩ : Addr).add 1))) (pu_field (sz := 1) Try.underlying24 rfl Try.sizeOf22 (by decide) rfl e3) ?_
                  refine mixE.load hM (v := .slice Ab_0_1 b_0_1.length cb_0_1) (fun _ hF => ld_fld (hS.bx2 (i := 0) rfl [] (by decide) hF) Try.isAgg22 rfl rfl) ?_
                  refine mixE.pure (v := .int .i64 (Int.tmod at_1 z60)) (pu_move e9) ?_
                  obtain ⟨x143, h144, hb⟩ := bd hb
                  obtain ⟨ad145, cs146, hA, ho149, hc147, hr148⟩ := hS.elr2 (i := 1) rfl (get_some h144).2 []
                  subst hA
                  refine mixE.pure (v := .pointer (some (ad145.add ((Int.tmod at_1 z60).toNat * 1)))) (pu_index (a := (Int.tmod at_1 z60)) Try.underlying22 Try.sizeOf3 rfl rfl (get_some h144).1) ?_
                  obtain ⟨rfl, hr148'⟩ := hr148
                  refine mixE.load hM (v := .int .i64 x143) (fun _ hF => ld_one Try.isAgg3 rfl (hF.cell (hc147 0 _ rfl) (off1 ho149))) ?_
                  refine mixE.pure (v := .pointer (some ((⟨g3, 0, none⟩ : Addr).add 1))) (pu_field (sz := 1) Try.underlying24 rfl Try.sizeOf22 (by decide) rfl e3) ?_
                  refine mixE.load hM (v := .slice (some ad145) b_0_1.length cb_0_1) (fun _ hF => ld_fld (hS.bx2 (i := 0) rfl [] (by decide) hF) Try.isAgg22 rfl rfl) ?_
                  refine mixE.pure (v := .int .i64 (Int.tmod at_1 z60)) (pu_move e9) ?_
                  obtain ⟨z150, h151, hb⟩ := bd hb
                  refine mixE.pure (v := .int .i64 z150) (pu_addc (a := (Int.tmod at_1 z60)) (b := 1) rfl rfl h151) ?_
                  obtain ⟨x152, h153, hb⟩ := bd hb
                  obtain ⟨ad154, cs155, hA, ho158, hc156, hr157⟩ := hS.elr2 (i := 1) rfl (get_some h153).2 []
                  obtain rfl := Option.some.inj hA
                  refine mixE.pure (v := .pointer (some (ad145.add (z150.toNat * 1)))) (pu_index (a := z150) Try.underlying22 Try.sizeOf3 rfl rfl (get_some h153).1) ?_
                  obtain ⟨rfl, hr157'⟩ := hr157
                  refine mixE.load hM (v := .int .i64 x152) (fun _ hF => ld_one Try.isAgg3 rfl (hF.cell (hc156 0 _ rfl) (off1 ho158))) ?_
                  refine mixE.pure (v := .int .i64 x143) (pu_assign rfl) ?_
                  refine mixE.pure (v := .int .i64 x152) (pu_assign rfl) ?_
                  refine mixE.nil ?_
                  clear hS hM
                  refine hK140 _ _ ?_
                  refine Wc.fresh fun E159 hE => ?_
                  have e3 : E159 3 = .pointer (some ⟨g3, 0, none⟩) := (congrFun hE 3).trans e3
                  have e6 : E159 6 = .bool false := (congrFun hE 6).trans e6
                  have e7 : E159 7 = .pointer (some ⟨g51, 0, none⟩) := (congrFun hE 7).trans e7
                  have e9 : E159 9 = .int .i64 (Int.tmod at_1 z60) := (congrFun hE 9).trans e9
                  have e10 : E159 10 = .slice Al10_0 l10_0.length cl10_0 := (congrFun hE 10).trans e10
                  have e11 : E159 11 = .int .i64 x143 := (congrFun hE 11).trans rfl
                  have e12 : E159 12 = .int .i64 x152 := (congrFun hE 12).trans rfl
                  clear hE
                  refine Wc.seq fun K160 hK160 => ?_
                  refine Wc.region (by decide +kernel) ?_
                  refine lex.pure (v := .int .i64 x143) (pu_move e11) ?_
                  refine lex.pure (v := .int .i64 x143) (pu_move e11) ?_
                  obtain ⟨z161, h162, hb⟩ := bd hb
                  refine lex.pure (v := .int .i64 z161) (pu_negc (a := x143) rfl h162) ?_
                  refine lex.pure (v := .int .i64 (max x143 z161)) (pu_max (a := x143) (b := z161) rfl rfl) ?_
                  refine lex.pure (v := .int .i64 x152) (pu_move e12) ?_
                  refine lex.pure (v := .int .i64 x152) (pu_move e12) ?_
                  obtain ⟨z163, h164, hb⟩ := bd hb
                  refine lex.pure (v := .int .i64 z163) (pu_negc (a := x152) rfl h164) ?_
                  refine lex.pure (v := .int .i64 (max x152 z163)) (pu_max (a := x152) (b := z163) rfl rfl) ?_
                  obtain ⟨z165, h166, hb⟩ := bd hb
                  refine lex.pure (v := .int .i64 z165) (pu_subc (a := (max x143 z161)) (b := (max x152 z163)) rfl rfl h166) ?_
                  refine lex.pure (v := .int .i64 z165) (pu_assign rfl) ?_
                  refine lex.nil ?_
                  refine hK160 _ _ ?_
                  refine Wc.fresh fun E167 hE => ?_
                  have e3 : E167 3 = .pointer (some ⟨g3, 0, none⟩) := (congrFun hE 3).trans e3
                  have e6 : E167 6 = .bool false := (congrFun hE 6).trans e6
                  have e7 : E167 7 = .pointer (some ⟨g51, 0, none⟩) := (congrFun hE 7).trans e7
                  have e9 : E167 9 = .int .i64 (Int.tmod at_1 z60) := (congrFun hE 9).trans e9
                  have e10 : E167 10 = .slice Al10_0 l10_0.length cl10_0 := (congrFun hE 10).trans e10
                  have e11 : E167 11 = .int .i64 x143 := (congrFun hE 11).trans e11
                  have e12 : E167 12 = .int .i64 x152 := (congrFun hE 12).trans e12
                  have e13 : E167 13 = .int .i64 z165 := (congrFun hE 13).trans rfl
                  clear hE
                  refine Wc.seqJ (fun E wv => ∃ (v120_3 : Bool), E 3 = .pointer (some ⟨g3, 0, none⟩) ∧ E 6 = .bool false ∧ E 7 = .pointer (some ⟨g51, 0, none⟩) ∧ E 9 = .int .i64 (Int.tmod at_1 z60) ∧ E 10 = .slice Al10_0 l10_0.length cl10_0 ∧ E 11 = .int .i64 x143 ∧ E 12 = .int .i64 x152 ∧ E 120 = .bool v120_3 ∧ Cx (fun _ => False) O0 w wv [.box g3 24 [.int .i64 b_0_0, .slice (some ad145) b_0_1.length cb_0_1], .ro (.sl (.int .i64)) [.slice (some ad145) b_0_1.length cb_0_1] b_0_1, .box g51 28 [.int .i64 y39.1, .int .i64 y39.2.1, .slice A43 y39.2.2.1.length c45], .ro (.sl (.sl (.int .i64))) [.slice A43 y39.2.2.1.length c45] y39.2.2.1, .own 24 (.pr (.int .i64) (.sl (.int .i64))) (.slice Al10_0 l10_0.length cl10_0) l10_0] ∧ F.law34_GarsideRelations_j3 n b_0_0 b_0_1 at_1 y39 z60 l10_0 x143 x152 v120_3 = some r) (fun K168 hK168 => ?_) ?_
                  ·
                    skip
                    refine Wc.region (by decide +kernel) ?_
                    refine lex.pure (v := .int .i64 z165) (pu_move e13) ?_
                    refine lex.pure (v := .bool (decide (1 < z165))) (pu_gtr (k := .i64) (a := z165) (b := 1) rfl rfl) ?_
                    refine lex.pure (v := .bool (decide (1 < z165))) (pu_move rfl) ?_
                    rcases bS (decide (1 < z165)) with hq169 | hq169
                    · replace hb := (cT hq169).symm.trans hb
                      refine lex.gskip (want_f rfl rfl (show _ = Value.bool (decide (1 < z165)) from rfl) hq169) ?_
                      refine lex.gskip (want_f rfl rfl (show _ = Value.bool (decide (1 < z165)) from rfl) hq169) ?_
                      refine lex.pure (v := .bool true) (pu_pickT (q := (decide (1 < z165))) rfl hq169 rfl) ?_
                      refine lex.nil ?_
                      exact hK168 _ _ ⟨true, e3, e6, e7, e9, e10, e11, e12, rfl, hC.sel [0, 1, 2, 3, 4] (by decide), hb⟩
                    · replace hb := (cF hq169).symm.trans hb
                      refine lex.gpure (want_t rfl rfl (show _ = Value.bool (decide (1 < z165)) from rfl) hq169) (v := .int .i64 z165) (pu_move e13) ?_
                      refine lex.gpure (want_t rfl rfl (show _ = Value.bool (decide (1 < z165)) from rfl) hq169) (v := .bool (decide (z165 < (-1)))) (pu_lss (k := .i64) (a := z165) (b := (-1)) rfl rfl) ?_
                      refine lex.pure (v := .bool (decide (z165 < (-1)))) (pu_pickF (q := (decide (1 < z165))) rfl hq169 rfl) ?_
                      refine lex.nil ?_
                      exact hK168 _ _ ⟨(decide (z165 < (-1))), e3, e6, e7, e9, e10, e11, e12, rfl, hC.sel [0, 1, 2, 3, 4] (by decide), hb⟩
                  · clear hb hC
                    rintro E171 w170 ⟨v120_3, e3, e6, e7, e9, e10, e11, e12, e120, hC, hb⟩
                    unfold F.law34_GarsideRelations_j3 at hb
                    refine Wc.cond (t := v120_3) (e120) (fun hq172 => ?_) (fun hq172 => ?_)
                    · replace hb := (cT hq172).symm.trans hb
                      refine Wc.regionMix [] (frm [] [.own 24 (.pr (.int .i64) (.sl (.int .i64))) (.slice Al10_0 l10_0.length cl10_0) l10_0] ([] : List Fact)) (fun _ => rfl) mixed (by decide +kernel) (by decide +kernel) fun w174 hw173 => ?_
                      replace hC := hC.step (Fr.of_drew hw173)
                      have hM := Fr.refl (fun k => k ∈ blocks [.own 24 (.pr (.int .i64) (.sl (.int .i64))) (.slice Al10_0 l10_0.length cl10_0) l10_0]) w174
                      clear hw173
                      have hS := hC
                      have hBF10_0 : Beside [.own 24 (.pr (.int .i64) (.sl (.int .i64))) (.slice Al10_0 l10_0.length cl10_0) l10_0] w174 (.slice Al10_0 l10_0.length cl10_0) := Beside.of (i := 0) rfl
                      refine mixE.pure (v := .slice Al10_0 l10_0.length cl10_0) (pu_move e10) ?_
                      refine mixE.pure (v := .pointer (some ((⟨g3, 0, none⟩ : Addr).add 0))) (pu_field (sz := 1) Try.underlying24 rfl Try.sizeOf3 (by decide) rfl e3) ?_
                      refine mixE.load hM (v := .int .i64 b_0_0) (fun _ hF => ld_fld (hS.bx2 (i := 0) rfl [4] (by decide) hF) Try.isAgg3 rfl rfl) ?_
                      refine mixE.pure (v := .pointer (some ((⟨g3, 0, none⟩ : Addr).add 1))) (pu_field (sz := 1) Try.underlying24 rfl Try.sizeOf22 (by decide) rfl e3) ?_
                      refine mixE.load hM (v := .slice (some ad145) b_0_1.length cb_0_1) (fun _ hF => ld_fld (hS.bx2 (i := 0) rfl [4] (by decide) hF) Try.isAgg22 rfl rfl) ?_
                      refine mixE.pure (v := .int .i64 (Int.tmod at_1 z60)) (pu_move e9) ?_
                      obtain ⟨u175, h176, hb⟩ := bd hb
                      obtain ⟨A177, c178, hp181, hR182⟩ := pu_part_h (b := (Int.tmod at_1 z60)) Try.underlying22 Try.sizeOf3 (hC.rd (i := 1) rfl) rfl (cut_some h176)
                      refine mixE.pure (v := .slice A177 (((b_0_1.drop (0 : Int).toNat).take ((Int.tmod at_1 z60).toNat - (0 : Int).toNat)).length) c178) (hp181 rfl  rfl) ?_
                      replace hC := hC.ro hR182
                      obtain ⟨-, hl179, hc180⟩ := (hC.rd (i := 0) rfl).sl_len
                      refine mixE.pure (v := .int .i64 x152) (pu_move e12) ?_
                      refine mixE.pure (v := .int .i64 x143) (pu_move e11) ?_
                      refine mixE.op hM (hC.lit (s := (.int .i64)) (vs := [.int .i64 x152, .int .i64 x143]) (xs := [x152, x143]) Try.underlying22 Try.type3 rfl rfl (Nat.le_of_ble_eq_true rfl) rfl rfl (by simp [Value.cells, Sh.n]) rfl (show Elems _ _ (.int .i64) ([.int .i64 x152] ++ ([.int .i64 x143] ++ ([]))) ([x152, x143] : List Int) from Elems.cons (⟨rfl, I64.wr (wrap_I64 hr157')⟩) (Elems.cons (⟨rfl, I64.wr (wrap_I64 hr148')⟩) (Elems.nil _ _ _)))) ?_
                      rintro _ w188 ⟨A184, c185, rfl, hl186, hc187, hC, hF, hN⟩
                      have hBf189 := Beside.new hM hN
                      replace hM := hM.none hF
                      refine ⟨hM, ?_⟩
                      clear hF hN
                      refine mixE.pure (v := .pointer (some ((⟨g3, 0, none⟩ : Addr).add 1))) (pu_field (sz := 1) Try.underlying24 rfl Try.sizeOf22 (by decide) rfl e3) ?_
                      refine mixE.load hM (v := .slice (some ad145) b_0_1.length cb_0_1) (fun _ hF => ld_fld (hS.bx2 (i := 0) rfl [4] (by decide) hF) Try.isAgg22 rfl rfl) ?_
                      refine mixE.pure (v := .int .i64 (Int.tmod at_1 z60)) (pu_move e9) ?_
                      obtain ⟨z190, h191, hb⟩ := bd hb
                      refine mixE.pure (v := .int .i64 z190) (pu_addc (a := (Int.tmod at_1 z60)) (b := 2) rfl rfl h191) ?_
                      obtain ⟨u192, h193, hb⟩ := bd hb
                      obtain ⟨A194, c195, hp198, hR199⟩ := pu_part_l (a := z190)  Try.underlying22 Try.sizeOf3 (hC.rd (i := 3) rfl) rfl (cut_some h193)
                      refine mixE.pure (v := .slice A194 (((b_0_1.drop z190.toNat).take ((b_0_1.length : Int).toNat - z190.toNat)).length) c195) (hp198 rfl rfl ) ?_
                      replace hC := hC.ro hR199
                      obtain ⟨-, hl196, hc197⟩ := (hC.rd (i := 0) rfl).sl_len
                      replace hC := hC.freeze (i := 1) rfl (hC.own_new (i := 1) rfl)
                      refine mixE.op hM (hC.lit (s := (.sl (.int .i64))) (vs := [.slice A177 (((b_0_1.drop (0 : Int).toNat).take ((Int.tmod at_1 z60).toNat - (0 : Int).toNat)).length) c178, .slice A184 ((([x152, x143] : List Int)).length) c185, .slice A194 (((b_0_1.drop z190.toNat).take ((b_0_1.length : Int).toNat - z190.toNat)).length) c195]) (xs := [((b_0_1.drop (0 : Int).toNat).take ((Int.tmod at_1 z60).toNat - (0 : Int).toNat)), ([x152, x143] : List Int), ((b_0_1.drop z190.toNat).take ((b_0_1.length : Int).toNat - z190.toNat))]) Try.underlying35 Try.type22 rfl rfl (Nat.le_of_ble_eq_true rfl) rfl rfl (by simp [Value.cells, Sh.n]) rfl (show Elems _ _ (.sl (.int .i64)) ([.slice A177 (((b_0_1.drop (0 : Int).toNat).take ((Int.tmod at_1 z60).toNat - (0 : Int).toNat)).length) c178] ++ ([.slice A184 ((([x152, x143] : List Int)).length) c185] ++ ([.slice A194 (((b_0_1.drop z190.toNat).take ((b_0_1.length : Int).toNat - z190.toNat)).length) c195] ++ ([])))) ([((b_0_1.drop (0 : Int).toNat).take ((Int.tmod at_1 z60).toNat - (0 : Int).toNat)), ([x152, x143] : List Int), ((b_0_1.drop z190.toNat).take ((b_0_1.length : Int).toNat - z190.toNat))] : List (List Int)) from Elems.cons (hC.rd (i := 2) rfl) (Elems.cons (hC.rd (i := 1) rfl) (Elems.cons (hC.rd (i := 0) rfl) (Elems.nil _ _ _))))) ?_
                      rintro _ w205 ⟨A201, c202, rfl, hl203, hc204, hC, hF, hN⟩
                      have hBf206 := Beside.new hM hN
                      replace hM := hM.none hF
                      refine ⟨hM, ?_⟩
                      clear hF hN
                      obtain ⟨y207, h208, hb⟩ := bd hb
                      refine mixE.cl hM (⟨_, _, op_call (vs := [.slice A201 ((([((b_0_1.drop (0 : Int).toNat).take ((Int.tmod at_1 z60).toNat - (0 : Int).toNat)), ([x152, x143] : List Int), ((b_0_1.drop z190.toNat).take ((b_0_1.length : Int).toNat - z190.toNat))] : List (List Int))).length) c202]) Try.call22 rfl rfl rfl, slices_Concat_Lint_int_ok n (hC.lentLt [.slice A201 ((([((b_0_1.drop (0 : Int).toNat).take ((Int.tmod at_1 z60).toNat - (0 : Int).toNat)), ([x152, x143] : List Int), ((b_0_1.drop z190.toNat).take ((b_0_1.length : Int).toNat - z190.toNat))] : List (List Int))).length) c202]) ((hC.ow (i := 0) rfl).lend (vs := [.slice A201 ((([((b_0_1.drop (0 : Int).toNat).take ((Int.tmod at_1 z60).toNat - (0 : Int).toNat)), ([x152, x143] : List Int), ((b_0_1.drop z190.toNat).take ((b_0_1.length : Int).toNat - z190.toNat))] : List (List Int))).length) c202]) (by simp)) h208⟩) ?_
                      rintro _ w213 ⟨A209, m210, c211, rfl, hK⟩
                      replace hM := hM.none hK.fr
                      refine ⟨hM, ?_⟩
                      replace hC := hC.mergeF hK rfl
                      clear hK
                      obtain ⟨rfl, hl214, hc215⟩ := (hC.ow (i := 0) rfl).sl_len
                      refine mixE.pure (v := .agg #[.int .i64 b_0_0, .slice A209 y207.length c211]) (pu_builds (places := [(0, 1), (1, 1)]) (pv := [(0, .int .i64 b_0_0), (1, .slice A209 y207.length c211)]) Try.type24 Try.underlying24 rfl (mp_cons Try.type3 (mp_cons Try.type22 mp_nil rfl rfl) rfl rfl) rfl (by simp [Instr.fill, Value.cells])) ?_
                      replace hC := hC.freeze (i := 0) rfl (hC.own_new (i := 0) rfl)
                      refine mixE.op hM (hC.lit (s := (.pr (.int .i64) (.sl (.int .i64)))) (vs := [.agg #[.int .i64 b_0_0, .slice A209 y207.length c211]]) (xs := [(b_0_0, y207)]) Try.underlying51 Try.type24 rfl rfl (Nat.le_of_ble_eq_true rfl) rfl rfl (by simp [Value.cells, Sh.n]) rfl (show Elems _ _ (.pr (.int .i64) (.sl (.int .i64))) ([.int .i64 b_0_0, .slice A209 y207.length c211] ++ ([])) ([(b_0_0, y207)] : List (Int × (List Int))) from Elems.cons (⟨[.int .i64 b_0_0], [.slice A209 y207.length c211], rfl, ⟨rfl, I64.wr hb_0_0⟩, hC.rd (i := 0) rfl⟩) (Elems.nil _ _ _))) ?_
                      rintro _ w220 ⟨A216, c217, rfl, hl218, hc219, hC, hF, hN⟩
                      have hBf221 := Beside.new hM hN
                      replace hM := hM.none hF
                      refine ⟨hM, ?_⟩
                      clear hF hN
                      obtain ⟨u222, h223, hb⟩ := bd hb
                      refine mixE.op hM (hC.app (i := 10) (s := (.pr (.int .i64) (.sl (.int .i64)))) (xs := l10_0) (ys := ([(b_0_0, y207)] : List (Int × (List Int)))) (m := ((([(b_0_0, y207)] : List (Int × (List Int)))).length)) rfl Try.underlying51 Try.underlying51 Try.type24 rfl rfl rfl (hC.srco (i := 0) rfl) rfl rfl (by have := lim_some h223; simp at this ⊢ <;> omega) (by decide)) ?_
                      rintro _ w228 ⟨A224, c225, rfl, hl226, hc227, hC, hF, hN⟩
                      have hB := hBF10_0
                      replace hBF10_0 := hB.app hM hN
                      replace hM := hM.beside hB hF
                      clear hB
                      refine ⟨hM, ?_⟩
                      clear hF hN
                      refine mixE.pure (v := .slice A224 ((l10_0 ++ ([(b_0_0, y207)] : List (Int × (List Int)))).length) c225) (pu_assign rfl) ?_
                      refine mixE.nil ?_
                      clear hS hM
                      exact hK135 _ _ ⟨(l10_0 ++ ([(b_0_0, y207)] : List (Int × (List Int)))), A224, (l10_0 ++ ([(b_0_0, y207)] : List (Int × (List Int)))).length, c225, e3, e6, e7, e9, rfl, hC.sel [6, 7, 8, 9, 10] (by decide), hb⟩
                    · replace hb := (cF hq172).symm.trans hb
                      refine Wc.skip ?_
                      exact hK135 _ _ ⟨l10_0, Al10_0, l10_0.length, cl10_0, e3, e6, e7, e9, e10, hC.sel [0, 1, 2, 3, 4] (by decide), hb⟩
                · replace hb := (cF hq139).symm.trans hb
                  refine Wc.skip ?_
                  exact hK135 _ _ ⟨l10_0, Al10_0, l10_0.length, cl10_0, e3, e6, e7, e9, e10, hC.sel [0, 1, 2, 3, 4] (by decide), hb⟩
              · clear hb hC
                rintro E230 w229 ⟨l10_2, Al10_2, ml10_2, cl10_2, e3, e6, e7, e9, e10, hC, hb⟩
                unfold F.law34_GarsideRelations_j2 at hb
                obtain ⟨rfl, hll10_2, hcl10_2⟩ := (hC.ow (i := 4) rfl).sl_len
                refine Wc.seqJ (fun E wv => ∃ (l10_4 : List (Int × (List Int))) (Al10_4 : Option Addr) (ml10_4 cl10_4 : Nat), E 3 = .pointer (some ⟨g3, 0, none⟩) ∧ E 6 = .bool false ∧ E 7 = .pointer (some ⟨g51, 0, none⟩) ∧ E 10 = .slice Al10_4 ml10_4 cl10_4 ∧ Cx (fun _ => False) O0 w wv [.box g3 24 [.int .i64 b_0_0, .slice Ab_0_1 b_0_1.length cb_0_1], .ro (.sl (.int .i64)) [.slice Ab_0_1 b_0_1.length cb_0_1] b_0_1, .box g51 28 [.int .i64 y39.1, .int .i64 y39.2.1, .slice A43 y39.2.2.1.length c45], .ro (.sl (.sl (.int .i64))) [.slice A43 y39.2.2.1.length c45] y39.2.2.1, .own 24 (.pr (.int .i64) (.sl (.int .i64))) (.slice Al10_4 ml10_4 cl10_4) l10_4] ∧ F.law34_GarsideRelations_j4 n b_0_0 b_0_1 y39 l10_4 = some r) (fun K231 hK231 => ?_) ?_
                ·
                  skip
                  refine Wc.seq fun K232 hK232 => ?_
                  refine Wc.region (by decide +kernel) ?_
                  refine lex.pure (v := .int .i64 (Int.tmod at_1 z60)) (pu_move e9) ?_
                  obtain ⟨z233, h234, hb⟩ := bd hb
                  refine lex.pure (v := .int .i64 z233) (pu_addc (a := (Int.tmod at_1 z60)) (b := 2) rfl rfl h234) ?_
                  refine lex.pure (v := .pointer (some ((⟨g3, 0, none⟩ : Addr).add 1))) (pu_field (sz := 1) Try.underlying24 rfl Try.sizeOf22 (by decide) rfl e3) ?_
                  refine lex.val (v := .slice Ab_0_1 b_0_1.length cb_0_1) (ld_fld (hC.bx (i := 0) rfl) Try.isAgg22 rfl rfl) ?_
                  refine lex.pure (v := .int .i64 (b_0_1.length : Int)) (pu_len (A := Ab_0_1) (n := b_0_1.length) (m := cb_0_1) Try.underlying22 rfl) ?_
                  refine lex.pure (v := .bool (decide (z233 < (b_0_1.length : Int)))) (pu_lss (k := .i64) (a := z233) (b := (b_0_1.length : Int)) rfl rfl) ?_
                  refine lex.nil ?_
                  refine hK232 _ _ ?_
                  refine Wc.cond (t := (decide (z233 < (b_0_1.length : Int)))) (rfl) (fun hq235 => ?_) (fun hq235 => ?_)
                  · replace hb := (cT hq235).symm.trans hb
                    refine Wc.seq fun K236 hK236 => ?_
                    refine Wc.regionMix [] (frm [] ([] : List Fact) ([] : List Fact)) (fun _ => rfl) mixed (by decide +kernel) (by decide +kernel) fun w238 hw237 => ?_
                    replace hC := hC.step (Fr.of_drew hw237)
                    have hM := Fr.refl (fun k => k ∈ blocks ([] : List Fact)) w238
                    clear hw237
                    have hS := hC
                    refine mixE.pure (v := .pointer (some ((⟨g3, 0, none⟩ : Addr).add 1))) (pu_field (sz := 1) Try.underlying24 rfl Try.sizeOf22 (by decide) rfl e3) ?_
                    refine mixE.load hM (v := .slice Ab_0_1 b_0_1.length cb_0_1) (fun _ hF => ld_fld (hS.bx2 (i := 0) rfl [] (by decide) hF) Try.isAgg22 rfl rfl) ?_
                    refine mixE.pure (v := .int .i64 (Int.tmod at_1 z60)) (pu_move e9) ?_
                    obtain ⟨x239, h240, hb⟩ := bd hb
                    obtain ⟨ad241, cs242, hA, ho245, hc243, hr244⟩ := hS.elr2 (i := 1) rfl (get_some h240).2 []
                    subst hA
                    refine mixE.pure (v := .pointer (some (ad241.add ((Int.tmod at_1 z60).toNat * 1)))) (pu_index (a := (Int.tmod at_1 z60)) Try.underlying22 Try.sizeOf3 rfl rfl (get_some h240).1) ?_
                    obtain ⟨rfl, hr244'⟩ := hr244
                    refine mixE.load hM (v := .int .i64 x239) (fun _ hF => ld_one Try.isAgg3 rfl (hF.cell (hc243 0 _ rfl) (off1 ho245))) ?_
                    refine mixE.pure (v := .pointer (some ((⟨g3, 0, none⟩ : Addr).add 1))) (pu_field (sz := 1) Try.underlying24 rfl Try.sizeOf22 (by decide) rfl e3) ?_
                    refine mixE.load hM (v := .slice (some ad241) b_0_1.length cb_0_1) (fun _ hF => ld_fld (hS.bx2 (i := 0) rfl [] (by decide) hF) Try.isAgg22 rfl rfl) ?_
                    refine mixE.pure (v := .int .i64 (Int.tmod at_1 z60)) (pu_move e9) ?_
                    obtain ⟨z246, h247, hb⟩ := bd hb
                    refine mixE.pure (v := .int .i64 z246) (pu_addc (a := (Int.tmod at_1 z60)) (b := 1) rfl rfl h247) ?_
                    obtain ⟨x248, h249, hb⟩ := bd hb
                    obtain ⟨ad250, cs251, hA, ho254, hc252, hr253⟩ := hS.elr2 (i := 1) rfl (get_some h249).2 []
                    obtain rfl := Option.some.inj hA
                    refine mixE.pure (v := .pointer (some (ad241.add (z246.toNat * 1)))) (pu_index (a := z246) Try.underlying22 Try.sizeOf3 rfl rfl (get_some h249).1) ?_
                    obtain ⟨rfl, hr253'⟩ := hr253
                    refine mixE.load hM (v := .int .i64 x248) (fun _ hF => ld_one Try.isAgg3 rfl (hF.cell (hc252 0 _ rfl) (off1 ho254))) ?_
                    refine mixE.pure (v := .pointer (some ((⟨g3, 0, none⟩ : Addr).add 1))) (pu_field (sz := 1) Try.underlying24 rfl Try.sizeOf22 (by decide) rfl e3) ?_
                    refine mixE.load hM (v := .slice (some ad241) b_0_1.length cb_0_1) (fun _ hF => ld_fld (hS.bx2 (i := 0) rfl [] (by decide) hF) Try.isAgg22 rfl rfl) ?_
                    refine mixE.pure (v := .int .i64 (Int.tmod at_1 z60)) (pu_move e9) ?_
                    obtain ⟨z255, h256, hb⟩ := bd hb
                    refine mixE.pure (v := .int .i64 z255) (pu_addc (a := (Int.tmod at_1 z60)) (b := 2) rfl rfl h256) ?_
                    obtain ⟨x257, h258, hb⟩ := bd hb
                    obtain ⟨ad259, cs260, hA, ho263, hc261, hr262⟩ := hS.elr2 (i := 1) rfl (get_some h258).2 []
                    obtain rfl := Option.some.inj hA
                    refine mixE.pure (v := .pointer (some (ad241.add (z255.toNat * 1)))) (pu_index (a := z255) Try.underlying22 Try.sizeOf3 rfl rfl (get_some h258).1) ?_
                    obtain ⟨rfl, hr262'⟩ := hr262
                    refine mixE.load hM (v := .int .i64 x257) (fun _ hF => ld_one Try.isAgg3 rfl (hF.cell (hc261 0 _ rfl) (off1 ho263))) ?_
                    refine mixE.pure (v := .int .i64 x239) (pu_assign rfl) ?_
                    refine mixE.pure (v := .int .i64 x248) (pu_assign rfl) ?_
                    refine mixE.pure (v := .int .i64 x257) (pu_assign rfl) ?_
                    refine mixE.nil ?_
                    clear hS hM
                    refine hK236 _ _ ?_
                    refine Wc.fresh fun E264 hE => ?_
                    have e3 : E264 3 = .pointer (some ⟨g3, 0, none⟩) := (congrFun hE 3).trans e3
                    have e6 : E264 6 = .bool false := (congrFun hE 6).trans e6
                    have e7 : E264 7 = .pointer (some ⟨g51, 0, none⟩) := (congrFun hE 7).trans e7
                    have e9 : E264 9 = .int .i64 (Int.tmod at_1 z60) := (congrFun hE 9).trans e9
                    have e10 : E264 10 = .slice Al10_2 l10_2.length cl10_2 := (congrFun hE 10).trans e10
                    have e14 : E264 14 = .int .i64 x239 := (congrFun hE 14).trans rfl
                    have e15 : E264 15 = .int .i64 x248 := (congrFun hE 15).trans rfl
                    have e16 : E264 16 = .int .i64 x257 := (congrFun hE 16).trans rfl
                    clear hE
                    refine Wc.seqJ (fun E wv => ∃ (v186_5 : Bool), E 3 = .pointer (some ⟨g3, 0, none⟩) ∧ E 6 = .bool false ∧ E 7 = .pointer (some ⟨g51, 0, none⟩) ∧ E 9 = .int .i64 (Int.tmod at_1 z60) ∧ E 10 = .slice Al10_2 l10_2.length cl10_2 ∧ E 14 = .int .i64 x239 ∧ E 15 = .int .i64 x248 ∧ E 186 = .bool v186_5 ∧ Cx (fun _ => False) O0 w wv [.box g3 24 [.int .i64 b_0_0, .slice (some ad241) b_0_1.length cb_0_1], .ro (.sl (.int .i64)) [.slice (some ad241) b_0_1.length cb_0_1] b_0_1, .box g51 28 [.int .i64 y39.1, .int .i64 y39.2.1, .slice A43 y39.2.2.1.length c45], .ro (.sl (.sl (.int .i64))) [.slice A43 y39.2.2.1.length c45] y39.2.2.1, .own 24 (.pr (.int .i64) (.sl (.int .i64))) (.slice Al10_2 l10_2.length cl10_2) l10_2] ∧ F.law34_GarsideRelations_j5 n b_0_0 b_0_1 at_1 y39 z60 l10_2 x239 x248 v186_5 = some r) (fun K265 hK265 => ?_) ?_
                    ·
                      skip
                      refine Wc.region (by decide +kernel) ?_
                      refine lex.pure (v := .int .i64 x239) (pu_move e14) ?_
                      refine lex.pure (v := .bool (decide (0 < x239))) (pu_gtr (k := .i64) (a := x239) (b := 0) rfl rfl) ?_
                      refine lex.pure (v := .bool (decide (0 < x239))) (pu_move rfl) ?_
                      rcases bS (decide (0 < x239)) with hq266 | hq266
                      · replace hb := (cT hq266).symm.trans hb
                        refine lex.gpure (want_t rfl rfl (show _ = Value.bool (decide (0 < x239)) from rfl) hq266) (v := .int .i64 x248) (pu_move e15) ?_
                        refine lex.gpure (want_t rfl rfl (show _ = Value.bool (decide (0 < x239)) from rfl) hq266) (v := .bool (decide (0 < x248))) (pu_gtr (k := .i64) (a := x248) (b := 0) rfl rfl) ?_
                        refine lex.pure (v := .bool (decide (0 < x248))) (pu_pickT (q := (decide (0 < x239))) rfl hq266 rfl) ?_
                        refine lex.pure (v := .bool (decide (0 < x248))) (pu_move rfl) ?_
                        rcases bS (decide (0 < x248)) with hq267 | hq267
                        · replace hb := (cT hq267).symm.trans hb
                          refine lex.gpure (want_t rfl rfl (show _ = Value.bool (decide (0 < x248)) from rfl) hq267) (v := .int .i64 x239) (pu_move e14) ?_
                          refine lex.gpure (want_t rfl rfl (show _ = Value.bool (decide (0 < x248)) from rfl) hq267) (v := .int .i64 x257) (pu_move e16) ?_
                          refine lex.gpure (want_t rfl rfl (show _ = Value.bool (decide (0 < x248)) from rfl) hq267) (v := .bool (decide (x239 = x257))) (pu_eql (k := .i64) (a := x239) (b := x257) rfl rfl) ?_
                          refine lex.pure (v := .bool (decide (x239 = x257))) (pu_pickT (q := (decide (0 < x248))) rfl hq267 rfl) ?_
                          refine lex.pure (v := .bool (decide (x239 = x257))) (pu_move rfl) ?_
                          rcases bS (decide (x239 = x257)) with hq268 | hq268
                          · replace hb := (cT hq268).symm.trans hb
                            refine lex.gpure (want_t rfl rfl (show _ = Value.bool (decide (x239 = x257)) from rfl) hq268) (v := .int .i64 x239) (pu_move e14) ?_
                            refine lex.gpure (want_t rfl rfl (show _ = Value.bool (decide (x239 = x257)) from rfl) hq268) (v := .int .i64 x248) (pu_move e15) ?_
                            obtain ⟨z269, h270, hb⟩ := bd hb
                            refine lex.gpure (want_t rfl rfl (show _ = Value.bool (decide (x239 = x257)) from rfl) hq268) (v := .int .i64 z269) (pu_subc (a := x239) (b := x248) rfl rfl h270) ?_
                            refine lex.gpure (want_t rfl rfl (show _ = Value.bool (decide (x239 = x257)) from rfl) hq268) (v := .bool (decide (z269 = 1))) (pu_eql (k := .i64) (a := z269) (b := 1) rfl rfl) ?_
                            refine lex.gpure (want_t rfl rfl (show _ = Value.bool (decide (x239 = x257)) from rfl) hq268) (v := .bool (decide (z269 = 1))) (pu_move rfl) ?_
                            rcases bS (decide (z269 = 1)) with hq271 | hq271
                            · replace hb := (cT hq271).symm.trans hb
                              refine lex.gskip (want_f rfl rfl (show _ = Value.bool (decide (z269 = 1)) from rfl) hq271) ?_
                              refine lex.gskip (want_f rfl rfl (show _ = Value.bool (decide (z269 = 1)) from rfl) hq271) ?_
                              refine lex.gskip (want_f rfl rfl (show _ = Value.bool (decide (z269 = 1)) from rfl) hq271) ?_
                              refine lex.gskip (want_f rfl rfl (show _ = Value.bool (decide (z269 = 1)) from rfl) hq271) ?_
                              refine lex.gpure (want_t rfl rfl (show _ = Value.bool (decide (x239 = x257)) from rfl) hq268) (v := .bool true) (pu_pickT (q := (decide (z269 = 1))) rfl hq271 rfl) ?_
                              refine lex.pure (v := .bool true) (pu_pickT (q := (decide (x239 = x257))) rfl hq268 rfl) ?_
                              refine lex.nil ?_
                              exact hK265 _ _ ⟨true, e3, e6, e7, e9, e10, e14, e15, rfl, hC.sel [0, 1, 2, 3, 4] (by decide), hb⟩
                            · replace hb := (cF hq271).symm.trans hb
                              refine lex.gpure (want_t rfl rfl (show _ = Value.bool (decide (z269 = 1)) from rfl) hq271) (v := .int .i64 x248) (pu_move e15) ?_
                              refine lex.gpure (want_t rfl rfl (show _ = Value.bool (decide (z269 = 1)) from rfl) hq271) (v := .int .i64 x239) (pu_move e14) ?_
                              obtain ⟨z272, h273, hb⟩ := bd hb
                              refine lex.gpure (want_t rfl rfl (show _ = Value.bool (decide (z269 = 1)) from rfl) hq271) (v := .int .i64 z272) (pu_subc (a := x248) (b := x239) rfl rfl h273) ?_
                              refine lex.gpure (want_t rfl rfl (show _ = Value.bool (decide (z269 = 1)) from rfl) hq271) (v := .bool (decide (z272 = 1))) (pu_eql (k := .i64) (a := z272) (b := 1) rfl rfl) ?_
                              refine lex.gpure (want_t rfl rfl (show _ = Value.bool (decide (x239 = x257)) from rfl) hq268) (v := .bool (decide (z272 = 1))) (pu_pickF (q := (decide (z269 = 1))) rfl hq271 rfl) ?_
                              refine lex.pure (v := .bool (decide (z272 = 1))) (pu_pickT (q := (decide (x239 = x257))) rfl hq268 rfl) ?_
                              refine lex.nil ?_
                              exact hK265 _ _ ⟨(decide (z272 = 1)), e3, e6, e7, e9, e10, e14, e15, rfl, hC.sel [0, 1, 2, 3, 4] (by decide), hb⟩
                          · replace hb := (cF hq268).symm.trans hb
                            refine lex.gskip (want_f rfl rfl (show _ = Value.bool (decide (x239 = x257)) from rfl) hq268) ?_
                            refine lex.gskip (want_f rfl rfl (show _ = Value.bool (decide (x239 = x257)) from rfl) hq268) ?_
                            refine lex.gskip (want_f rfl rfl (show _ = Value.bool (decide (x239 = x257)) from rfl) hq268) ?_
                            refine lex.gskip (want_f rfl rfl (show _ = Value.bool (decide (x239 = x257)) from rfl) hq268) ?_
                            refine lex.gskip (want_f rfl rfl (show _ = Value.bool (decide (x239 = x257)) from rfl) hq268) ?_
                            refine lex.gskip (want_n rfl rfl rfl) ?_
                            refine lex.gskip (want_n rfl rfl rfl) ?_
                            refine lex.gskip (want_n rfl rfl rfl) ?_
                            refine lex.gskip (want_n rfl rfl rfl) ?_
                            refine lex.gskip (want_f rfl rfl (show _ = Value.bool (decide (x239 = x257)) from rfl) hq268) ?_
                            refine lex.pure (v := .bool false) (pu_pickF (q := (decide (x239 = x257))) rfl hq268 rfl) ?_
                            refine lex.nil ?_
                            exact hK265 _ _ ⟨false, e3, e6, e7, e9, e10, e14, e15, rfl, hC.sel [0, 1, 2, 3, 4] (by decide), hb⟩
                        · replace hb := (cF hq267).symm.trans hb
                          refine lex.gskip (want_f rfl rfl (show _ = Value.bool (decide (0 < x248)) from rfl) hq267) ?_
                          refine lex.gskip (want_f rfl rfl (show _ = Value.bool (decide (0 < x248)) from rfl) hq267) ?_
                          refine lex.gskip (want_f rfl rfl (show _ = Value.bool (decide (0 < x248)) from rfl) hq267) ?_
                          refine lex.pure (v := .bool false) (pu_pickF (q := (decide (0 < x248))) rfl hq267 rfl) ?_
                          refine lex.pure (v := .bool false) (pu_move rfl) ?_
                          refine lex.gskip (want_f rfl rfl (show _ = Value.bool false from rfl) rfl) ?_
                          refine lex.gskip (want_f rfl rfl (show _ = Value.bool false from rfl) rfl) ?_
                          refine lex.gskip (want_f rfl rfl (show _ = Value.bool false from rfl) rfl) ?_
                          refine lex.gskip (want_f rfl rfl (show _ = Value.bool false from rfl) rfl) ?_
                          refine lex.gskip (want_f rfl rfl (show _ = Value.bool false from rfl) rfl) ?_
                          refine lex.gskip (want_n rfl rfl rfl) ?_
                          refine lex.gskip (want_n rfl rfl rfl) ?_
                          refine lex.gskip (want_n rfl rfl rfl) ?_
                          refine lex.gskip (want_n rfl rfl rfl) ?_
                          refine lex.gskip (want_f rfl rfl (show _ = Value.bool false from rfl) rfl) ?_
                          refine lex.pure (v := .bool false) (pu_pickF (q := false) rfl rfl rfl) ?_
                          refine lex.nil ?_
                          exact hK265 _ _ ⟨false, e3, e6, e7, e9, e10, e14, e15, rfl, hC.sel [0, 1, 2, 3, 4] (by decide), hb⟩
                      · replace hb := (cF hq266).symm.trans hb
                        refine lex.gskip (want_f rfl rfl (show _ = Value.bool (decide (0 < x239)) from rfl) hq266) ?_
                        refine lex.gskip (want_f rfl rfl (show _ = Value.bool (decide (0 < x239)) from rfl) hq266) ?_
                        refine lex.pure (v := .bool false) (pu_pickF (q := (decide (0 < x239))) rfl hq266 rfl) ?_
                        refine lex.pure (v := .bool false) (pu_move rfl) ?_
                        refine lex.gskip (want_f rfl rfl (show _ = Value.bool false from rfl) rfl) ?_
                        refine lex.gskip (want_f rfl rfl (show _ = Value.bool false from rfl) rfl) ?_
                        refine lex.gskip (want_f rfl rfl (show _ = Value.bool false from rfl) rfl) ?_
                        refine lex.pure (v := .bool false) (pu_pickF (q := false) rfl rfl rfl) ?_
                        refine lex.pure (v := .bool false) (pu_move rfl) ?_
                        refine lex.gskip (want_f rfl rfl (show _ = Value.bool false from rfl) rfl) ?_
                        refine lex.gskip (want_f rfl rfl (show _ = Value.bool false from rfl) rfl) ?_
                        refine lex.gskip (want_f rfl rfl (show _ = Value.bool false from rfl) rfl) ?_
                        refine lex.gskip (want_f rfl rfl (show _ = Value.bool false from rfl) rfl) ?_
                        refine lex.gskip (want_f rfl rfl (show _ = Value.bool false from rfl) rfl) ?_
                        refine lex.gskip (want_n rfl rfl rfl) ?_
                        refine lex.gskip (want_n rfl rfl rfl) ?_
                        refine lex.gskip (want_n rfl rfl rfl) ?_
                        refine lex.gskip (want_n rfl rfl rfl) ?_
                        refine lex.gskip (want_f rfl rfl (show _ = Value.bool false from rfl) rfl) ?_
                        refine lex.pure (v := .bool false) (pu_pickF (q := false) rfl rfl rfl) ?_
                        refine lex.nil ?_
                        exact hK265 _ _ ⟨false, e3, e6, e7, e9, e10, e14, e15, rfl, hC.sel [0, 1, 2, 3, 4] (by decide), hb⟩
                    · clear hb hC
                      rintro E275 w274 ⟨v186_5, e3, e6, e7, e9, e10, e14, e15, e186, hC, hb⟩
                      unfold F.law34_GarsideRelations_j5 at hb
                      refine Wc.cond (t := v186_5) (e186) (fun hq276 => ?_) (fun hq276 => ?_)
                      · replace hb := (cT hq276).symm.trans hb
                        refine Wc.regionMix [] (frm [] [.own 24 (.pr (.int .i64) (.sl (.int .i64))) (.slice Al10_2 l10_2.length cl10_2) l10_2] ([] : List Fact)) (fun _ => rfl) mixed (by decide +kernel) (by decide +kernel) fun w278 hw277 => ?_
                        replace hC := hC.step (Fr.of_drew hw277)
                        have hM := Fr.refl (fun k => k ∈ blocks [.own 24 (.pr (.int .i64) (.sl (.int .i64))) (.slice Al10_2 l10_2.length cl10_2) l10_2]) w278
                        clear hw277
                        have hS := hC
                        have hBF10_2 : Beside [.own 24 (.pr (.int .i64) (.sl (.int .i64))) (.slice Al10_2 l10_2.length cl10_2) l10_2] w278 (.slice Al10_2 l10_2.length cl10_2) := Beside.of (i := 0) rfl
                        refine mixE.pure (v := .slice Al10_2 l10_2.length cl10_2) (pu_move e10) ?_
                        refine mixE.pure (v := .pointer (some ((⟨g3, 0, none⟩ : Addr).add 0))) (pu_field (sz := 1) Try.underlying24 rfl Try.sizeOf3 (by decide) rfl e3) ?_
                        refine mixE.load hM (v := .int .i64 b_0_0) (fun _ hF => ld_fld (hS.bx2 (i := 0) rfl [4] (by decide) hF) Try.isAgg3 rfl rfl) ?_
                        refine mixE.pure (v := .pointer (some ((⟨g3, 0, none⟩ : Addr).add 1))) (pu_field (sz := 1) Try.underlying24 rfl Try.sizeOf22 (by decide) rfl e3) ?_
                        refine mixE.load hM (v := .slice (some ad241) b_0_1.length cb_0_1) (fun _ hF => ld_fld (hS.bx2 (i := 0) rfl [4] (by decide) hF) Try.isAgg22 rfl rfl) ?_
                        refine mixE.pure (v := .int .i64 (Int.tmod at_1 z60)) (pu_move e9) ?_
                        obtain ⟨u279, h280, hb⟩ := bd hb
                        obtain ⟨A281, c282, hp285, hR286⟩ := pu_part_h (b := (Int.tmod at_1 z60)) Try.underlying22 Try.sizeOf3 (hC.rd (i := 1) rfl) rfl (cut_some h280)
                        refine mixE.pure (v := .slice A281 (((b_0_1.drop (0 : Int).toNat).take ((Int.tmod at_1 z60).toNat - (0 : Int).toNat)).length) c282) (hp285 rfl  rfl) ?_
                        replace hC := hC.ro hR286
                        obtain ⟨-, hl283, hc284⟩ := (hC.rd (i := 0) rfl).sl_len
                        refine mixE.pure (v := .int .i64 x248) (pu_move e15) ?_
                        refine mixE.pure (v := .int .i64 x239) (pu_move e14) ?_
                        refine mixE.pure (v := .int .i64 x248) (pu_move e15) ?_
                        refine mixE.op hM (hC.lit (s := (.int .i64)) (vs := [.int .i64 x248, .int .i64 x239, .int .i64 x248]) (xs := [x248, x239, x248]) Try.underlying22 Try.type3 rfl rfl (Nat.le_of_ble_eq_true rfl) rfl rfl (by simp [Value.cells, Sh.n]) rfl (show Elems _ _ (.int .i64) ([.int .i64 x248] ++ ([.int .i64 x239] ++ ([.int .i64 x248] ++ ([])))) ([x248, x239, x248] : List Int) from Elems.cons (⟨rfl, I64.wr (wrap_I64 hr253')⟩) (Elems.cons (⟨rfl, I64.wr (wrap_I64 hr244')⟩) (Elems.cons (⟨rfl, I64.wr (wrap_I64 hr253')⟩) (Elems.nil _ _ _))))) ?_
                        rintro _ w292 ⟨A288, c289, rfl, hl290, hc291, hC, hF, hN⟩
                        have hBf293 := Beside.new hM hN
                        replace hM := hM.none hF
                        refine ⟨hM, ?_⟩
                        clear hF hN
                        refine mixE.pure (v := .pointer (some ((⟨g3, 0, none⟩ : Addr).add 1))) (pu_field (sz := 1) Try.underlying24 rfl Try.sizeOf22 (by decide) rfl e3) ?_
                        refine mixE.load hM (v := .slice (some ad241) b_0_1.length cb_0_1) (fun _ hF => ld_fld (hS.bx2 (i := 0) rfl [4] (by decide) hF) Try.isAgg22 rfl rfl) ?_
                        refine mixE.pure (v := .int .i64 (Int.tmod at_1 z60)) (pu_move e9) ?_
                        obtain ⟨z294, h295, hb⟩ := bd hb
                        refine mixE.pure (v := .int .i64 z294) (pu_addc (a := (Int.tmod at_1 z60)) (b := 3) rfl rfl h295) ?_
                        obtain ⟨u296, h297, hb⟩ := bd hb
                        obtain ⟨A298, c299, hp302, hR303⟩ := pu_part_l (a := z294)  Try.underlying22 Try.sizeOf3 (hC.rd (i := 3) rfl) rfl (cut_some h297)
                        refine mixE.pure (v := .slice A298 (((b_0_1.drop z294.toNat).take ((b_0_1.length : Int).toNat - z294.toNat)).length) c299) (hp302 rfl rfl ) ?_
                        replace hC := hC.ro hR303
                        obtain ⟨-, hl300, hc301⟩ := (hC.rd (i := 0) rfl).sl_len
                        replace hC := hC.freeze (i := 1) rfl (hC.own_new (i := 1) rfl)
                        refine mixE.op hM (hC.lit (s := (.sl (.int .i64))) (vs := [.slice A281 (((b_0_1.drop (0 : Int).toNat).take ((Int.tmod at_1 z60).toNat - (0 : Int).toNat)).length) c282, .slice A288 ((([x248, x239, x248] : List Int)).length) c289, .slice A298 (((b_0_1.drop z294.toNat).take ((b_0_1.length : Int).toNat - z294.toNat)).length) c299]) (xs := [((b_0_1.drop (0 : Int).toNat).take ((Int.tmod at_1 z60).toNat - (0 : Int).toNat)), ([x248, x239, x248] : List Int), ((b_0_1.drop z294.toNat).take ((b_0_1.length : Int).toNat - z294.toNat))]) Try.underlying35 Try.type22 rfl rfl (Nat.le_of_ble_eq_true rfl) rfl rfl (by simp [Value.cells, Sh.n]) rfl (show Elems _ _ (.sl (.int .i64)) ([.slice A281 (((b_0_1.drop (0 : Int).toNat).take ((Int.tmod at_1 z60).toNat - (0 : Int).toNat)).length) c282] ++ ([.slice A288 ((([x248, x239, x248] : List Int)).length) c289] ++ ([.slice A298 (((b_0_1.drop z294.toNat).take ((b_0_1.length : Int).toNat - z294.toNat)).length) c299] ++ ([])))) ([((b_0_1.drop (0 : Int).toNat).take ((Int.tmod at_1 z60).toNat - (0 : Int).toNat)), ([x248, x239, x248] : List Int), ((b_0_1.drop z294.toNat).take ((b_0_1.length : Int).toNat - z294.toNat))] : List (List Int)) from Elems.cons (hC.rd (i := 2) rfl) (Elems.cons (hC.rd (i := 1) rfl) (Elems.cons (hC.rd (i := 0) rfl) (Elems.nil _ _ _))))) ?_
                        rintro _ w309 ⟨A305, c306, rfl, hl307, hc308, hC, hF, hN⟩
                        have hBf310 := Beside.new hM hN
                        replace hM := hM.none hF
                        refine ⟨hM, ?_⟩
                        clear hF hN
                        obtain ⟨y311, h312, hb⟩ := bd hb
                        refine mixE.cl hM (⟨_, _, op_call (vs := [.slice A305 ((([((b_0_1.drop (0 : Int).toNat).take ((Int.tmod at_1 z60).toNat - (0 : Int).toNat)), ([x248, x239, x248] : List Int), ((b_0_1.drop z294.toNat).take ((b_0_1.length : Int).toNat - z294.toNat))] : List (List Int))).length) c306]) Try.call22 rfl rfl rfl, slices_Concat_Lint_int_ok n (hC.lentLt [.slice A305 ((([((b_0_1.drop (0 : Int).toNat).take ((Int.tmod at_1 z60).toNat - (0 : Int).toNat)), ([x248, x239, x248] : List Int), ((b_0_1.drop z294.toNat).take ((b_0_1.length : Int).toNat - z294.toNat))] : List (List Int))).length) c306]) ((hC.ow (i := 0) rfl).lend (vs := [.slice A305 ((([((b_0_1.drop (0 : Int).toNat).take ((Int.tmod at_1 z60).toNat - (0 : Int).toNat)), ([x248, x239, x248] : List Int), ((b_0_1.drop z294.toNat).take ((b_0_1.length : Int).toNat - z294.toNat))] : List (List Int))).length) c306]) (by simp)) h312⟩) ?_
                        rintro _ w317 ⟨A313, m314, c315, rfl, hK⟩
                        replace hM := hM.none hK.fr
                        refine ⟨hM, ?_⟩
                        replace hC := hC.mergeF hK rfl
                        clear hK
                        obtain ⟨rfl, hl318, hc319⟩ := (hC.ow (i := 0) rfl).sl_len
                        refine mixE.pure (v := .agg #[.int .i64 b_0_0, .slice A313 y311.length c315]) (pu_builds (places := [(0, 1), (1, 1)]) (pv := [(0, .int .i64 b_0_0), (1, .slice A313 y311.length c315)]) Try.type24 Try.underlying24 rfl (mp_cons Try.type3 (mp_cons Try.type22 mp_nil rfl rfl) rfl rfl) rfl (by simp [Instr.fill, Value.cells])) ?_
                        replace hC := hC.freeze (i := 0) rfl (hC.own_new (i := 0) rfl)
                        refine mixE.op hM (hC.lit (s := (.pr (.int .i64) (.sl (.int .i64)))) (vs := [.agg #[.int .i64 b_0_0, .slice A313 y311.length c315]]) (xs := [(b_0_0, y311)]) Try.underlying51 Try.type24 rfl rfl (Nat.le_of_ble_eq_true rfl) rfl rfl (by simp [Value.cells, Sh.n]) rfl (show Elems _ _ (.pr (.int .i64) (.sl (.int .i64))) ([.int .i64 b_0_0, .slice A313 y311.length c315] ++ ([])) ([(b_0_0, y311)] : List (Int × (List Int))) from Elems.cons (⟨[.int .i64 b_0_0], [.slice A313 y311.length c315], rfl, ⟨rfl, I64.wr hb_0_0⟩, hC.rd (i := 0) rfl⟩) (Elems.nil _ _ _))) ?_
                        rintro _ w324 ⟨A320, c321, rfl, hl322, hc323, hC, hF, hN⟩
                        have hBf325 := Beside.new hM hN
                        replace hM := hM.none hF
                        refine ⟨hM, ?_⟩
                        clear hF hN
                        obtain ⟨u326, h327, hb⟩ := bd hb
                        refine mixE.op hM (hC.app (i := 10) (s := (.pr (.int .i64) (.sl (.int .i64)))) (xs := l10_2) (ys := ([(b_0_0, y311)] : List (Int × (List Int)))) (m := ((([(b_0_0, y311)] : List (Int × (List Int)))).length)) rfl Try.underlying51 Try.underlying51 Try.type24 rfl rfl rfl (hC.srco (i := 0) rfl) rfl rfl (by have := lim_some h327; simp at this ⊢ <;> omega) (by decide)) ?_
                        rintro _ w332 ⟨A328, c329, rfl, hl330, hc331, hC, hF, hN⟩
                        have hB := hBF10_2
                        replace hBF10_2 := hB.app hM hN
                        replace hM := hM.beside hB hF
                        clear hB
                        refine ⟨hM, ?_⟩
                        clear hF hN
                        refine mixE.pure (v := .slice A328 ((l10_2 ++ ([(b_0_0, y311)] : List (Int × (List Int)))).length) c329) (pu_assign rfl) ?_
                        refine mixE.nil ?_
                        clear hS hM
                        exact hK231 _ _ ⟨(l10_2 ++ ([(b_0_0, y311)] : List (Int × (List Int)))), A328, (l10_2 ++ ([(b_0_0, y311)] : List (Int × (List Int)))).length, c329, e3, e6, e7, rfl, hC.sel [6, 7, 8, 9, 10] (by decide), hb⟩
                      · replace hb := (cF hq276).symm.trans hb
                        refine Wc.skip ?_
                        exact hK231 _ _ ⟨l10_2, Al10_2, l10_2.length, cl10_2, e3, e6, e7, e10, hC.sel [0, 1, 2, 3, 4] (by decide), hb⟩
                  · replace hb := (cF hq235).symm.trans hb
                    refine Wc.skip ?_
                    exact hK231 _ _ ⟨l10_2, Al10_2, l10_2.length, cl10_2, e3, e6, e7, e10, hC.sel [0, 1, 2, 3, 4] (by decide), hb⟩
                · clear hb hC
                  rintro E334 w333 ⟨l10_4, Al10_4, ml10_4, cl10_4, e3, e6, e7, e10, hC, hb⟩
                  unfold F.law34_GarsideRelations_j4 at hb
                  obtain ⟨rfl, hll10_4, hcl10_4⟩ := (hC.ow (i := 4) rfl).sl_len
                  refine Wc.seq fun K335 hK335 => ?_
                  refine Wc.seq fun K336 hK336 => ?_
                  refine Wc.region (by decide +kernel) ?_
                  refine lex.pure (v := .slice Al10_4 l10_4.length cl10_4) (pu_move e10) ?_
                  refine lex.pure (v := .int .i64 (l10_4.length : Int)) (pu_len (A := Al10_4) (n := l10_4.length) (m := cl10_4) Try.underlying51 rfl) ?_
                  refine lex.pure (v := .int .i64 0) (pu_move rfl) ?_
                  refine lex.nil ?_
                  refine hK336 _ _ ?_
                  obtain ⟨o337, hl6, hb⟩ := bd hb
                  refine Wc.cut (fun E wv => ∃ (v210_6 : Int), E 6 = .bool false ∧ I64 v210_6 ∧ Cx (fun _ => False) O0 w wv [] ∧ (some true) = some r) (fun K338 hK338 => ?_) ?_
                  · refine Wc.block ?_
                    refine Wc.loop (fun m E wv => ∃ (v210_6 : Int), E 3 = .pointer (some ⟨g3, 0, none⟩) ∧ E 6 = .bool false ∧ E 7 = .pointer (some ⟨g51, 0, none⟩) ∧ E 208 = .slice Al10_4 l10_4.length cl10_4 ∧ E 209 = .int .i64 (l10_4.length : Int) ∧ E 210 = .int .i64 v210_6 ∧ I64 v210_6 ∧ Cx (fun _ => False) O0 w wv [.box g3 24 [.int .i64 b_0_0, .slice Ab_0_1 b_0_1.length cb_0_1], .ro (.sl (.int .i64)) [.slice Ab_0_1 b_0_1.length cb_0_1] b_0_1, .box g51 28 [.int .i64 y39.1, .int .i64 y39.2.1, .slice A43 y39.2.2.1.length c45], .ro (.sl (.sl (.int .i64))) [.slice A43 y39.2.2.1.length c45] y39.2.2.1, .own 24 (.pr (.int .i64) (.sl (.int .i64))) (.slice Al10_4 l10_4.length cl10_4) l10_4] ∧ loopN m (F.law34_GarsideRelations_b6 n b_0_0 b_0_1 y39 l10_4) v210_6 = some o337) n ⟨0, e3, e6, e7, rfl, rfl, rfl, (show I64 0 from by unfold I64; omega), hC.sel [0, 1, 2, 3, 4] (by decide), hl6⟩ ?_
                    have hbK6 := hb
                    clear hb hC hl6
                    rintro m340 E342 w341 ⟨v210_6, e3, e6, e7, e208, e209, e210, hrv210_6, hC, hl6⟩ K339 hK339
                    obtain ⟨m340', o343, rfl, hb, hl6⟩ := loopN_some hl6
                    unfold F.law34_GarsideRelations_b6 at hb
                    refine Wc.seq fun K344 hK344 => ?_
                    refine Wc.region (by decide +kernel) ?_
                    refine lex.pure (v := .bool (decide (v210_6 < (l10_4.length : Int)))) (pu_lss (k := .i64) (a := v210_6) (b := (l10_4.length : Int)) e210 e209) ?_
                    refine lex.nil ?_
                    refine hK344 _ _ ?_
                    refine Wc.seq fun K345 hK345 => ?_
                    refine Wc.cond (t := (decide (v210_6 < (l10_4.length : Int)))) (rfl) (fun hq346 => ?_) (fun hq346 => ?_)
                    · replace hb := (cT hq346).symm.trans hb
                      refine Wc.skip ?_
                      refine hK345 _ _ ?_
                      refine Wc.seq fun K347 hK347 => ?_
                      refine Wc.block ?_
                      refine Wc.seq fun K348 hK348 => ?_
                      refine Wc.region (by decide +kernel) ?_
                      obtain ⟨x349, h350, hb⟩ := bd hb
                      obtain ⟨ad351, cs352, hA, hc353, hr354⟩ := hC.elo (i := 4) rfl (get_some h350).2
                      subst hA
                      refine lex.pure (v := .pointer (some (ad351.add (v210_6.toNat * 2)))) (pu_index (a := v210_6) Try.underlying51 Try.sizeOf24 e208 e210 (get_some h350).1) ?_
                      obtain ⟨k355, k356, rfl, hr357, hr358⟩ := hr354
                      obtain ⟨rfl, hr357⟩ := hr357
                      have hR := hr358
                      obtain ⟨A359, c360, rfl, hl361, hc362, _⟩ := hr358
                      replace hC := hC.ro hR
                      clear hR
                      refine lex.val (v := .agg #[.int .i64 x349.1, .slice A359 x349.2.length c360]) (ld_agg Try.isAgg24 Try.sizeOf24 rfl rfl hc353) ?_
                      refine lex.op (hC.alloc (cs := [.int .i64 0, .slice none 0 0]) Try.zeroValue24 rfl) ?_
                      rintro _ w365 ⟨g364, rfl, hC, hF, hG⟩
                      clear hG
                      refine lex.sk (hC.seta (i := 0) (ds := [.int .i64 x349.1, .slice A359 x349.2.length c360]) rfl Try.type24 rfl rfl rfl rfl rfl) ?_
                      rintro w367 ⟨hC, hF⟩
                      refine lex.nil ?_
                      refine hK348 _ _ ?_
                      refine Wc.seq fun K368 hK368 => ?_
                      refine Wc.region (by decide +kernel) ?_
                      refine lex.val (v := .agg #[.int .i64 x349.1, .slice A359 x349.2.length c360]) (ld_blk (hC.bx (i := 0) rfl) Try.isAgg24 Try.sizeOf24 rfl) ?_
                      obtain ⟨y369, h370, hb⟩ := bd hb
                      refine lex.cl (⟨_, _, op_call (vs := [.agg #[.int .i64 x349.1, .slice A359 x349.2.length c360]]) Try.call13 rfl rfl rfl, garside_Form_ok n hC.lt (wrap_I64 hr357) (hC.rd (i := 1) rfl) h370⟩) ?_
                      rintro _ w378 ⟨A373, m374, c375, rfl, hr371, hr372, hr377, hK⟩
                      replace hC := hC.merge hK
                      clear hK
                      obtain ⟨rfl, hl379, hc380⟩ := (hC.rd (i := 0) rfl).sl_len
                      refine lex.pure (v := .tuple #[.agg #[.int .i64 y369.1, .int .i64 y369.2.1, .slice A373 y369.2.2.1.length c375], .int .i64 y369.2.2.2]) (pu_move rfl) ?_
                      refine lex.pure (v := .agg #[.int .i64 y369.1, .int .i64 y369.2.1, .slice A373 y369.2.2.1.length c375]) (pu_extract rfl rfl) ?_
                      refine lex.pure (v := .int .i64 y369.2.2.2) (pu_extract rfl rfl) ?_
                      refine lex.op (hC.alloc (cs := [.int .i64 0, .int .i64 0, .slice none 0 0]) Try.zeroValue28 rfl) ?_
                      rintro _ w382 ⟨g381, rfl, hC, hF, hG⟩
                      clear hG
                      refine lex.sk (hC.seta (i := 0) (ds := [.int .i64 y369.1, .int .i64 y369.2.1, .slice A373 y369.2.2.1.length c375]) rfl Try.type28 rfl rfl rfl rfl rfl) ?_
                      rintro w384 ⟨hC, hF⟩
                      refine lex.pure (v := .int .i64 y369.2.2.2) (pu_assign rfl) ?_
                      refine lex.nil ?_
                      refine hK368 _ _ ?_
                      refine Wc.fresh fun E385 hE => ?_
                      have e3 : E385 3 = .pointer (some ⟨g3, 0, none⟩) := (congrFun hE 3).trans e3
                      have e6 : E385 6 = .bool false := (congrFun hE 6).trans e6
                      have e7 : E385 7 = .pointer (some ⟨g51, 0, none⟩) := (congrFun hE 7).trans e7
                      have e18 : E385 18 = .pointer (some ⟨g364, 0, none⟩) := (congrFun hE 18).trans rfl
                      have e19 : E385 19 = .pointer (some ⟨g381, 0, none⟩) := (congrFun hE 19).trans rfl
                      have e20 : E385 20 = .int .i64 y369.2.2.2 := (congrFun hE 20).trans rfl
                      have e208 : E385 208 = .slice (some ad351) l10_4.length cl10_4 := (congrFun hE 208).trans e208
                      have e209 : E385 209 = .int .i64 (l10_4.length : Int) := (congrFun hE 209).trans e209
                      have e210 : E385 210 = .int .i64 v210_6 := (congrFun hE 210).trans e210
                      have e211 : E385 211 = .bool (decide (v210_6 < (l10_4.length : Int))) := (congrFun hE 211).trans rfl
                      clear hE
                      refine Wc.seq fun K386 hK386 => ?_
                      refine Wc.region (by decide +kernel) ?_
                      refine lex.pure (v := .int .i64 y369.2.2.2) (pu_move e20) ?_
                      refine lex.pure (v := .bool (!(decide (y369.2.2.2 = 0)))) (pu_neq (k := .i64) (a := y369.2.2.2) (b := 0) rfl rfl) ?_
                      refine lex.pure (v := .bool (!(decide (y369.2.2.2 = 0)))) (pu_move rfl) ?_
                      rcases bS (!(decide (y369.2.2.2 = 0))) with hq387 | hq387
                      · replace hb := (cT hq387).symm.trans hb
                        refine lex.gskip (want_f rfl rfl (show _ = Value.bool (!(decide (y369.2.2.2 = 0))) from rfl) hq387) ?_
                        refine lex.gskip (want_f rfl rfl (show _ = Value.bool (!(decide (y369.2.2.2 = 0))) from rfl) hq387) ?_
                        refine lex.gskip (want_f rfl rfl (show _ = Value.bool (!(decide (y369.2.2.2 = 0))) from rfl) hq387) ?_
                        refine lex.gskip (want_f rfl rfl (show _ = Value.bool (!(decide (y369.2.2.2 = 0))) from rfl) hq387) ?_
                        refine lex.pure (v := .bool true) (pu_pickT (q := (!(decide (y369.2.2.2 = 0)))) rfl hq387 rfl) ?_
                        refine lex.pure (v := .bool true) (pu_move rfl) ?_
                        refine lex.gskip (want_f rfl rfl (show _ = Value.bool true from rfl) rfl) ?_
                        refine lex.gskip (want_f rfl rfl (show _ = Value.bool true from rfl) rfl) ?_
                        refine lex.gskip (want_f rfl rfl (show _ = Value.bool true from rfl) rfl) ?_
                        refine lex.gskip (want_f rfl rfl (show _ = Value.bool true from rfl) rfl) ?_
                        refine lex.pure (v := .bool true) (pu_pickT (q := true) rfl rfl rfl) ?_
                        refine lex.nil ?_
                        refine hK386 _ _ ?_
                        refine Wc.cond_true (rfl) ?_
                        refine Wc.seq fun K388 hK388 => ?_
                        refine Wc.region (by decide +kernel) ?_
                        refine lex.pure (v := .bool false) (pu_assign rfl) ?_
                        refine lex.nil ?_
                        refine hK388 _ _ ?_
                        obtain rfl := Option.some.inj hb
                        obtain rfl := (lX hl6).symm
                        replace hb := hbK6
                        obtain rfl := Option.some.inj hb
                        refine Wc.ret ?_
                        refine hKR _ _ ?_
                        refine ⟨_, res1 Try.results7 (show RV _ _ _ (.tmp _) (.bool false) from rfl), _, rfl, rfl, hC.sel [] (by decide)⟩
                      · replace hb := (cF hq387).symm.trans hb
                        refine lex.gval (want_t rfl rfl (show _ = Value.bool (!(decide (y369.2.2.2 = 0))) from rfl) hq387) (v := .agg #[.int .i64 y369.1, .int .i64 y369.2.1, .slice A373 y369.2.2.1.length c375]) (ld_blk (hC.bx (i := 0) rfl) Try.isAgg28 Try.sizeOf28 e19) ?_
                        refine lex.gval (want_t rfl rfl (show _ = Value.bool (!(decide (y369.2.2.2 = 0))) from rfl) hq387) (v := .agg #[.int .i64 y39.1, .int .i64 y39.2.1, .slice A43 y39.2.2.1.length c45]) (ld_blk (hC.bx (i := 6) rfl) Try.isAgg28 Try.sizeOf28 e7) ?_
                        obtain ⟨y389, h390, hb⟩ := bd hb
                        refine lex.gcl (want_t rfl rfl (show _ = Value.bool (!(decide (y369.2.2.2 = 0))) from rfl) hq387) (⟨_, _, op_call (vs := [.agg #[.int .i64 y369.1, .int .i64 y369.2.1, .slice A373 y369.2.2.1.length c375], .agg #[.int .i64 y39.1, .int .i64 y39.2.1, .slice A43 y39.2.2.1.length c45]]) Try.call23 rfl rfl rfl, law34_equal_ok n hC.lt hr371 hr372 (hC.rd (i := 1) rfl) hr41 hr42 (hC.rd (i := 7) rfl) h390⟩) ?_
                        rintro _ w391 ⟨rfl, hK⟩
                        replace hC := hC.merge hK
                        clear hK
                        refine lex.gpure (want_t rfl rfl (show _ = Value.bool (!(decide (y369.2.2.2 = 0))) from rfl) hq387) (v := .bool (!y389)) (pu_not (q := y389) rfl) ?_
                        refine lex.pure (v := .bool (!y389)) (pu_pickF (q := (!(decide (y369.2.2.2 = 0)))) rfl hq387 rfl) ?_
                        refine lex.pure (v := .bool (!y389)) (pu_move rfl) ?_
                        rcases bS (!y389) with hq392 | hq392
                        · replace hb := (cT hq392).symm.trans hb
                          refine lex.gskip (want_f rfl rfl (show _ = Value.bool (!y389) from rfl) hq392) ?_
                          refine lex.gskip (want_f rfl rfl (show _ = Value.bool (!y389) from rfl) hq392) ?_
                          refine lex.gskip (want_f rfl rfl (show _ = Value.bool (!y389) from rfl) hq392) ?_
                          refine lex.gskip (want_f rfl rfl (show _ = Value.bool (!y389) from rfl) hq392) ?_
                          refine lex.pure (v := .bool true) (pu_pickT (q := (!y389)) rfl hq392 rfl) ?_
                          refine lex.nil ?_
                          refine hK386 _ _ ?_
                          refine Wc.cond_true (rfl) ?_
                          refine Wc.seq fun K393 hK393 => ?_
                          refine Wc.region (by decide +kernel) ?_
                          refine lex.pure (v := .bool false) (pu_assign rfl) ?_
                          refine lex.nil ?_
                          refine hK393 _ _ ?_
                          obtain rfl := Option.some.inj hb
                          obtain rfl := (lX hl6).symm
                          replace hb := hbK6
                          obtain rfl := Option.some.inj hb
                          refine Wc.ret ?_
                          refine hKR _ _ ?_
                          refine ⟨_, res1 Try.results7 (show RV _ _ _ (.tmp _) (.bool false) from rfl), _, rfl, rfl, hC.sel [] (by decide)⟩
                        · replace hb := (cF hq392).symm.trans hb
                          refine lex.gval (want_t rfl rfl (show _ = Value.bool (!y389) from rfl) hq392) (v := .agg #[.int .i64 b_0_0, .slice Ab_0_1 b_0_1.length cb_0_1]) (ld_blk (hC.bx (i := 4) rfl) Try.isAgg24 Try.sizeOf24 e3) ?_
                          refine lex.gval (want_t rfl rfl (show _ = Value.bool (!y389) from rfl) hq392) (v := .agg #[.int .i64 x349.1, .slice A359 x349.2.length c360]) (ld_blk (hC.bx (i := 2) rfl) Try.isAgg24 Try.sizeOf24 e18) ?_
                          obtain ⟨y394, h395, hb⟩ := bd hb
                          refine lex.gcl (want_t rfl rfl (show _ = Value.bool (!y389) from rfl) hq392) (⟨_, _, op_call (vs := [.agg #[.int .i64 b_0_0, .slice Ab_0_1 b_0_1.length cb_0_1], .agg #[.int .i64 x349.1, .slice A359 x349.2.length c360]]) Try.call21 rfl rfl rfl, garside_Same_ok n hC.lt hb_0_0 (hC.rd (i := 5) rfl) (wrap_I64 hr357) (hC.rd (i := 3) rfl) h395⟩) ?_
                          rintro _ w396 ⟨rfl, hK⟩
                          replace hC := hC.merge hK
                          clear hK
                          refine lex.gpure (want_t rfl rfl (show _ = Value.bool (!y389) from rfl) hq392) (v := .bool (!y394)) (pu_not (q := y394) rfl) ?_
                          refine lex.pure (v := .bool (!y394)) (pu_pickF (q := (!y389)) rfl hq392 rfl) ?_
                          refine lex.nil ?_
                          refine hK386 _ _ ?_
                          refine Wc.cond (t := (!y394)) (rfl) (fun hq397 => ?_) (fun hq397 => ?_)
                          · replace hb := (cT hq397).symm.trans hb
                            refine Wc.seq fun K398 hK398 => ?_
                            refine Wc.region (by decide +kernel) ?_
                            refine lex.pure (v := .bool false) (pu_assign rfl) ?_
                            refine lex.nil ?_
                            refine hK398 _ _ ?_
                            obtain rfl := Option.some.inj hb
                            obtain rfl := (lX hl6).symm
                            replace hb := hbK6
                            obtain rfl := Option.some.inj hb
                            refine Wc.ret ?_
                            refine hKR _ _ ?_
                            refine ⟨_, res1 Try.results7 (show RV _ _ _ (.tmp _) (.bool false) from rfl), _, rfl, rfl, hC.sel [] (by decide)⟩
                          · replace hb := (cF hq397).symm.trans hb
                            refine Wc.skip ?_
                            refine hK347 _ _ ?_
                            refine Wc.region (by decide +kernel) ?_
                            obtain ⟨z399, h400, hb⟩ := bd hb
                            refine lex.pure (v := .int .i64 z399) (pu_addc (a := v210_6) (b := 1) e210 rfl h400) ?_
                            refine lex.pure (v := .int .i64 z399) (pu_move rfl) ?_
                            refine lex.nil ?_
                            obtain rfl := Option.some.inj hb
                            exact hK339 m340' _ _ (Nat.lt_succ_self _) ⟨z399, e3, e6, e7, e208, e209, rfl, (chk_rng h400), hC.sel [4, 5, 6, 7, 8] (by decide), lN hl6⟩
                    · replace hb := (cF hq346).symm.trans hb
                      refine Wc.exit rfl ?_
                      obtain rfl := Option.some.inj hb
                      obtain rfl := (lX hl6).symm
                      exact hK338 _ _ ⟨v210_6, e6, hrv210_6, hC.sel [] (by decide), hbK6⟩
                  · clear hb hC hl6
                    rintro E402 w401 ⟨v210_6, e6, hrv210_6, hC, hb⟩
                    refine hK335 _ _ ?_
                    refine Wc.seq fun K403 hK403 => ?_
                    refine Wc.region (by decide +kernel) ?_
                    refine lex.pure (v := .bool true) (pu_assign rfl) ?_
                    refine lex.nil ?_
                    refine hK403 _ _ ?_
                    obtain rfl := Option.some.inj hb
                    refine Wc.ret ?_
                    refine hKR _ _ ?_
                    refine ⟨_, res1 Try.results7 (show RV _ _ _ (.tmp _) (.bool true) from rfl), _, rfl, rfl, hC.sel [] (by decide)⟩
end Go.Proofs.Ytkeaonceaaafcaa
