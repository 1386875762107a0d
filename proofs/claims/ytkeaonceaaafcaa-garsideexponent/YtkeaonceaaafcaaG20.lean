/- The walks: part 20. -/
import Derived.Test.YtkeaonceaaafcaaS
import Derived.Test.YtkeaonceaaafcaaG0
import Derived.Test.YtkeaonceaaafcaaG2
import Derived.Test.YtkeaonceaaafcaaG3
import Derived.Test.YtkeaonceaaafcaaG4
import Derived.Test.YtkeaonceaaafcaaG9
import Derived.Test.YtkeaonceaaafcaaG18
import Derived.Test.YtkeaonceaaafcaaG19
set_option linter.unusedVariables false
set_option linter.unusedSimpArgs false
namespace Go.Proofs.Ytkeaonceaaafcaa
open Ev
set_option maxRecDepth 100000 in
set_option maxHeartbeats 4000000 in
theorem law34_GarsideExponent_ok (n : Nat) {w : World} {O0 : List Nat} (hO : ∀ k ∈ O0, k < w.heap.size) {b_0_0 : Int} (hb_0_0 : I64 b_0_0) {Ab_0_1 : Option Addr} {mb_0_1 cb_0_1 : Nat} {b_0_1 : List Int} (hb_0_1 : Rep O0 w (.sl (.int .i64)) [.slice Ab_0_1 mb_0_1 cb_0_1] b_0_1) {r : Bool} (hb : F.law34_GarsideExponent n b_0_0 b_0_1 = some r) :
    Calls Try.prog 6 #[.agg #[.int .i64 b_0_0, .slice Ab_0_1 mb_0_1 cb_0_1]] w fun e w' => ∃ v, e = .returned v ∧ v = .bool r ∧ Cx (fun _ => False) O0 w w' [] := by
  unfold F.law34_GarsideExponent at hb
  have hC := Cx.start hO
  replace hC := hC.arg rfl hb_0_1
  clear hO
  obtain ⟨rfl, hlb_0_1, hcb_0_1⟩ := hb_0_1.sl_len
  refine calls_of_Wc Try.func6 rfl (by rw [Try.ntmps6]; exact Nat.le_of_ble_eq_true rfl) fun KR hKR => ?_
  refine Wc.seq fun K2 hK2 => ?_
  refine Wc.region (by decide +kernel) ?_
  refine lex.op (hC.box (cs := [.int .i64 b_0_0, .slice Ab_0_1 b_0_1.length cb_0_1]) rfl rfl) ?_
  rintro _ w4 ⟨g3, rfl, hC, hF, hG⟩
  clear hG
  refine lex.pure (v := .bool false) (pu_assign rfl) ?_
  refine lex.nil ?_
  refine hK2 _ _ ?_
  refine Wc.seq fun K6 hK6 => ?_
  refine Wc.seq fun K7 hK7 => ?_
  refine Wc.region (by decide +kernel) ?_
  obtain ⟨y8, h9, hb⟩ := bd hb
  refine lex.cl (⟨_, _, op_call (vs := []) Try.call12 rfl rfl rfl, law34_awake_ok n hC.lt  h9⟩) ?_
  rintro _ w10 ⟨rfl, hK⟩
  replace hC := hC.merge hK
  clear hK
  refine lex.pure (v := .bool (!y8)) (pu_not (q := y8) rfl) ?_
  refine lex.pure (v := .bool (!y8)) (pu_move rfl) ?_
  rcases bS (!y8) with hq11 | hq11
  · replace hb := (cT hq11).symm.trans hb
    refine lex.gskip (want_f rfl rfl (show _ = Value.bool (!y8) from rfl) hq11) ?_
    refine lex.gskip (want_f rfl rfl (show _ = Value.bool (!y8) from rfl) hq11) ?_
    refine lex.gskip (want_f rfl rfl (show _ = Value.bool (!y8) from rfl) hq11) ?_
    refine lex.gskip (want_f rfl rfl (show _ = Value.bool (!y8) from rfl) hq11) ?_
    refine lex.pure (v := .bool true) (pu_pickT (q := (!y8)) rfl hq11 rfl) ?_
    refine lex.pure (v := .bool true) (pu_move rfl) ?_
    refine lex.gskip (want_f rfl rfl (show _ = Value.bool true from rfl) rfl) ?_
    refine lex.gskip (want_f rfl rfl (show _ = Value.bool true from rfl) rfl) ?_
    refine lex.gskip (want_f rfl rfl (show _ = Value.bool true from rfl) rfl) ?_
    refine lex.pure (v := .bool true) (pu_pickT (q := true) rfl rfl rfl) ?_
    refine lex.nil ?_
    refine hK7 _ _ ?_
    refine Wc.cond_true (rfl) ?_
    refine Wc.seq fun K12 hK12 => ?_
    refine Wc.region (by decide +kernel) ?_
    obtain ⟨y13, h14, hb⟩ := bd hb
    refine lex.cl (⟨_, _, op_call (vs := []) Try.call12 rfl rfl rfl, law34_awake_ok n hC.lt  h14⟩) ?_
    rintro _ w15 ⟨rfl, hK⟩
    replace hC := hC.merge hK
    clear hK
    refine lex.pure (v := .bool y13) (pu_assign rfl) ?_
    refine lex.nil ?_
    refine hK12 _ _ ?_
    obtain rfl := Option.some.inj hb
    refine Wc.ret ?_
    refine hKR _ _ ?_
    refine ⟨_, res1 Try.results6 (show RV _ _ _ (.tmp _) (.bool y13) from rfl), _, rfl, rfl, hC.sel [] (by decide)⟩
  · replace hb := (cF hq11).symm.trans hb
    refine lex.gpure (want_t rfl rfl (show _ = Value.bool (!y8) from rfl) hq11) (v := .pointer (some ((⟨g3, 0, none⟩ : Addr).add 1))) (pu_field (sz := 1) Try.underlying24 rfl Try.sizeOf22 (by decide) rfl rfl) ?_
    refine lex.gval (want_t rfl rfl (show _ = Value.bool (!y8) from rfl) hq11) (v := .slice Ab_0_1 b_0_1.length cb_0_1) (ld_fld (hC.bx (i := 0) rfl) Try.isAgg22 rfl rfl) ?_
    refine lex.gpure (want_t rfl rfl (show _ = Value.bool (!y8) from rfl) hq11) (v := .int .i64 (b_0_1.length : Int)) (pu_len (A := Ab_0_1) (n := b_0_1.length) (m := cb_0_1) Try.underlying22 rfl) ?_
    refine lex.gpure (want_t rfl rfl (show _ = Value.bool (!y8) from rfl) hq11) (v := .bool (decide (40 < (b_0_1.length : Int)))) (pu_gtr (k := .i64) (a := (b_0_1.length : Int)) (b := 40) rfl rfl) ?_
    refine lex.pure (v := .bool (decide (40 < (b_0_1.length : Int)))) (pu_pickF (q := (!y8)) rfl hq11 rfl) ?_
    refine lex.pure (v := .bool (decide (40 < (b_0_1.length : Int)))) (pu_move rfl) ?_
    rcases bS (decide (40 < (b_0_1.length : Int))) with hq16 | hq16
    · replace hb := (cT hq16).symm.trans hb
      refine lex.gskip (want_f rfl rfl (show _ = Value.bool (decide (40 < (b_0_1.length : Int))) from rfl) hq16) ?_
      refine lex.gskip (want_f rfl rfl (show _ = Value.bool (decide (40 < (b_0_1.length : Int))) from rfl) hq16) ?_
      refine lex.gskip (want_f rfl rfl (show _ = Value.bool (decide (40 < (b_0_1.length : Int))) from rfl) hq16) ?_
      refine lex.pure (v := .bool true) (pu_pickT (q := (decide (40 < (b_0_1.length : Int)))) rfl hq16 rfl) ?_
      refine lex.nil ?_
      refine hK7 _ _ ?_
      refine Wc.fresh fun E17 hE => ?_
      have e1 : E17 1 = .pointer (some ⟨g3, 0, none⟩) := (congrFun hE 1).trans rfl
      have e2 : E17 2 = .bool false := (congrFun hE 2).trans rfl
      have e21 : E17 21 = .bool true := (congrFun hE 21).trans rfl
      clear hE
      refine Wc.cond_true (e21) ?_
      refine Wc.seq fun K18 hK18 => ?_
      refine Wc.region (by decide +kernel) ?_
      obtain ⟨y19, h20, hb⟩ := bd hb
      refine lex.cl (⟨_, _, op_call (vs := []) Try.call12 rfl rfl rfl, law34_awake_ok n hC.lt  h20⟩) ?_
      rintro _ w21 ⟨rfl, hK⟩
      replace hC := hC.merge hK
      clear hK
      refine lex.pure (v := .bool y19) (pu_assign rfl) ?_
      refine lex.nil ?_
      refine hK18 _ _ ?_
      obtain rfl := Option.some.inj hb
      refine Wc.ret ?_
      refine hKR _ _ ?_
      refine ⟨_, res1 Try.results6 (show RV _ _ _ (.tmp _) (.bool y19) from rfl), _, rfl, rfl, hC.sel [] (by decide)⟩
    · replace hb := (cF hq16).symm.trans hb
      refine lex.gval (want_t rfl rfl (show _ = Value.bool (decide (40 < (b_0_1.length : Int))) from rfl) hq16) (v := .agg #[.int .i64 b_0_0, .slice Ab_0_1 b_0_1.length cb_0_1]) (ld_blk (hC.bx (i := 0) rfl) Try.isAgg24 Try.sizeOf24 rfl) ?_
      obtain ⟨y22, h23, hb⟩ := bd hb
      refine lex.gcl (want_t rfl rfl (show _ = Value.bool (decide (40 < (b_0_1.length : Int))) from rfl) hq16) (⟨_, _, op_call (vs := [.agg #[.int .i64 b_0_0, .slice Ab_0_1 b_0_1.length cb_0_1]]) Try.call14 rfl rfl rfl, braid_Valid_ok n hC.lt hb_0_0 (hC.rd (i := 1) rfl) h23⟩) ?_
      rintro _ w24 ⟨rfl, hK⟩
      replace hC := hC.merge hK
      clear hK
      refine lex.gpure (want_t rfl rfl (show _ = Value.bool (decide (40 < (b_0_1.length : Int))) from rfl) hq16) (v := .bool (!y22)) (pu_not (q := y22) rfl) ?_
      refine lex.pure (v := .bool (!y22)) (pu_pickF (q := (decide (40 < (b_0_1.length : Int)))) rfl hq16 rfl) ?_
      refine lex.nil ?_
      refine hK7 _ _ ?_
      refine Wc.fresh fun E25 hE => ?_
      have e1 : E25 1 = .pointer (some ⟨g3, 0, none⟩) := (congrFun hE 1).trans rfl
      have e2 : E25 2 = .bool false := (congrFun hE 2).trans rfl
      have e21 : E25 21 = .bool (!y22) := (congrFun hE 21).trans rfl
      clear hE
      refine Wc.cond (t := (!y22)) (e21) (fun hq26 => ?_) (fun hq26 => ?_)
      · replace hb := (cT hq26).symm.trans hb
        refine Wc.seq fun K27 hK27 => ?_
        refine Wc.region (by decide +kernel) ?_
        obtain ⟨y28, h29, hb⟩ := bd hb
        refine lex.cl (⟨_, _, op_call (vs := []) Try.call12 rfl rfl rfl, law34_awake_ok n hC.lt  h29⟩) ?_
        rintro _ w30 ⟨rfl, hK⟩
        replace hC := hC.merge hK
        clear hK
        refine lex.pure (v := .bool y28) (pu_assign rfl) ?_
        refine lex.nil ?_
        refine hK27 _ _ ?_
        obtain rfl := Option.some.inj hb
        refine Wc.ret ?_
        refine hKR _ _ ?_
        refine ⟨_, res1 Try.results6 (show RV _ _ _ (.tmp _) (.bool y28) from rfl), _, rfl, rfl, hC.sel [] (by decide)⟩
      · replace hb := (cF hq26).symm.trans hb
        refine Wc.skip ?_
        refine hK6 _ _ ?_
        refine Wc.seq fun K31 hK31 => ?_
        refine Wc.region (by decide +kernel) ?_
        refine lex.val (v := .agg #[.int .i64 b_0_0, .slice Ab_0_1 b_0_1.length cb_0_1]) (ld_blk (hC.bx (i := 0) rfl) Try.isAgg24 Try.sizeOf24 e1) ?_
        obtain ⟨y32, h33, hb⟩ := bd hb
        refine lex.cl (⟨_, _, op_call (vs := [.agg #[.int .i64 b_0_0, .slice Ab_0_1 b_0_1.length cb_0_1]]) Try.call13 rfl rfl rfl, garside_Form_ok n hC.lt hb_0_0 (hC.rd (i := 1) rfl) h33⟩) ?_
        rintro _ w41 ⟨A36, m37, c38, rfl, hr34, hr35, hr40, hK⟩
        replace hC := hC.merge hK
        clear hK
        obtain ⟨rfl, hl42, hc43⟩ := (hC.rd (i := 0) rfl).sl_len
        refine lex.pure (v := .tuple #[.agg #[.int .i64 y32.1, .int .i64 y32.2.1, .slice A36 y32.2.2.1.length c38], .int .i64 y32.2.2.2]) (pu_move rfl) ?_
        refine lex.pure (v := .agg #[.int .i64 y32.1, .int .i64 y32.2.1, .slice A36 y32.2.2.1.length c38]) (pu_extract rfl rfl) ?_
        refine lex.pure (v := .int .i64 y32.2.2.2) (pu_extract rfl rfl) ?_
        refine lex.op (hC.alloc (cs := [.int .i64 0, .int .i64 0, .slice none 0 0]) Try.zeroValue28 rfl) ?_
        rintro _ w45 ⟨g44, rfl, hC, hF, hG⟩
        clear hG
        refine lex.sk (hC.seta (i := 0) (ds := [.int .i64 y32.1, .int .i64 y32.2.1, .slice A36 y32.2.2.1.length c38]) rfl Try.type28 rfl rfl rfl rfl rfl) ?_
        rintro w47 ⟨hC, hF⟩
        refine lex.pure (v := .int .i64 y32.2.2.2) (pu_assign rfl) ?_
        refine lex.nil ?_
        refine hK31 _ _ ?_
        refine Wc.seq fun K48 hK48 => ?_
        refine Wc.region (by decide +kernel) ?_
        refine lex.pure (v := .pointer (some ((⟨g44, 0, none⟩ : Addr).add 1))) (pu_field (sz := 1) Try.underlying28 rfl Try.sizeOf3 (by decide) rfl rfl) ?_
        refine lex.val (v := .int .i64 y32.2.1) (ld_fld (hC.bx (i := 0) rfl) Try.isAgg3 rfl rfl) ?_
        refine lex.pure (v := .pointer (some ((⟨g3, 0, none⟩ : Addr).add 0))) (pu_field (sz := 1) Try.underlying24 rfl Try.sizeOf3 (by decide) rfl e1) ?_
        refine lex.val (v := .int .i64 b_0_0) (ld_fld (hC.bx (i := 2) rfl) Try.isAgg3 rfl rfl) ?_
        refine lex.pure (v := .pointer (some ((⟨g3, 0, none⟩ : Addr).add 0))) (pu_field (sz := 1) Try.underlying24 rfl Try.sizeOf3 (by decide) rfl e1) ?_
        refine lex.val (v := .int .i64 b_0_0) (ld_fld (hC.bx (i := 2) rfl) Try.isAgg3 rfl rfl) ?_
        obtain ⟨z49, h50, hb⟩ := bd hb
        refine lex.pure (v := .int .i64 z49) (pu_subc (a := b_0_0) (b := 1) rfl rfl h50) ?_
        obtain ⟨z51, h52, hb⟩ := bd hb
        refine lex.pure (v := .int .i64 z51) (pu_mulc (a := b_0_0) (b := z49) rfl rfl h52) ?_
        obtain ⟨u53, h54, hb⟩ := bd hb
        obtain ⟨z55, h56, hb⟩ := bd hb
        refine lex.pure (v := .int .i64 z55) (pu_quoc (a := z51) (b := 2) rfl rfl h54 h56) ?_
        obtain ⟨z57, h58, hb⟩ := bd hb
        refine lex.pure (v := .int .i64 z57) (pu_mulc (a := y32.2.1) (b := z55) rfl rfl h58) ?_
        refine lex.pure (v := .int .i64 z57) (pu_assign rfl) ?_
        refine lex.nil ?_
        refine hK48 _ _ ?_
        refine Wc.fresh fun E59 hE => ?_
        have e1 : E59 1 = .pointer (some ⟨g3, 0, none⟩) := (congrFun hE 1).trans e1
        have e2 : E59 2 = .bool false := (congrFun hE 2).trans e2
        have e3 : E59 3 = .pointer (some ⟨g44, 0, none⟩) := (congrFun hE 3).trans rfl
        have e4 : E59 4 = .int .i64 y32.2.2.2 := (congrFun hE 4).trans rfl
        have e5 : E59 5 = .int .i64 z57 := (congrFun hE 5).trans rfl
        clear hE
        refine Wc.seq fun K60 hK60 => ?_
        refine Wc.region (by decide +kernel) ?_
        refine lex.pure (v := .pointer (some ((⟨g3, 0, none⟩ : Addr).add 0))) (pu_field (sz := 1) Try.underlying24 rfl Try.sizeOf3 (by decide) rfl e1) ?_
        refine lex.val (v := .int .i64 b_0_0) (ld_fld (hC.bx (i := 2) rfl) Try.isAgg3 rfl rfl) ?_
        obtain ⟨y61, h62, hb⟩ := bd hb
        refine lex.cl (⟨_, _, op_call (vs := [.int .i64 b_0_0]) Try.call24 rfl rfl rfl, ref34_Half_ok n hC.lt hb_0_0 h62⟩) ?_
        rintro _ w67 ⟨A63, m64, c65, rfl, hK⟩
        replace hC := hC.merge hK
        clear hK
        obtain ⟨rfl, hl68, hc69⟩ := (hC.ow (i := 0) rfl).sl_len
        refine lex.pure (v := .slice A63 y61.length c65) (pu_assign rfl) ?_
        refine lex.nil ?_
        refine hK60 _ _ ?_
        refine Wc.seqJ (fun E wv => ∃ (l6_0 : List Int) (Al6_0 : Option Addr) (ml6_0 cl6_0 : Nat), E 1 = .pointer (some ⟨g3, 0, none⟩) ∧ E 2 = .bool false ∧ E 3 = .pointer (some ⟨g44, 0, none⟩) ∧ E 4 = .int .i64 y32.2.2.2 ∧ E 5 = .int .i64 z57 ∧ E 6 = .slice Al6_0 ml6_0 cl6_0 ∧ Cx (fun _ => False) O0 w wv [.box g3 24 [.int .i64 b_0_0, .slice Ab_0_1 b_0_1.length cb_0_1], .ro (.sl (.int .i64)) [.slice Ab_0_1 b_0_1.length cb_0_1] b_0_1, .box g44 28 [.int .i64 y32.1, .int .i64 y32.2.1, .slice A36 y32.2.2.1.length c38], .ro (.sl (.sl (.int .i64))) [.slice A36 y32.2.2.1.length c38] y32.2.2.1, .own 3 (.int .i64) (.slice Al6_0 ml6_0 cl6_0) l6_0] ∧ F.law34_GarsideExponent_j0 n b_0_0 b_0_1 y32 z57 l6_0 = some r) (fun K70 hK70 => ?_) ?_
        ·
          skip
          refine Wc.seq fun K71 hK71 => ?_
          refine Wc.region (by decide +kernel) ?_
          refine lex.pure (v := .pointer (some ((⟨g44, 0, none⟩ : Addr).add 1))) (pu_field (sz := 1) Try.underlying28 rfl Try.sizeOf3 (by decide) rfl e3) ?_
          refine lex.val (v := .int .i64 y32.2.1) (ld_fld (hC.bx (i := 1) rfl) Try.isAgg3 rfl rfl) ?_
          obtain ⟨u72, h73, hb⟩ := bd hb
          refine lex.pure (v := .int .i64 (Int.tmod y32.2.1 2)) (pu_remc (a := y32.2.1) (b := 2) rfl rfl h73) ?_
          refine lex.pure (v := .bool (decide ((Int.tmod y32.2.1 2) = 0))) (pu_eql (k := .i64) (a := (Int.tmod y32.2.1 2)) (b := 0) rfl rfl) ?_
          refine lex.nil ?_
          refine hK71 _ _ ?_
          refine Wc.cond (t := (decide ((Int.tmod y32.2.1 2) = 0))) (rfl) (fun hq74 => ?_) (fun hq74 => ?_)
          · replace hb := (cT hq74).symm.trans hb
            refine Wc.region (by decide +kernel) ?_
            refine lex.pure (v := .slice A63 y61.length c65) (pu_move rfl) ?_
            refine lex.pure (v := .slice A63 y61.length c65) (pu_move rfl) ?_
            obtain ⟨y75, h76, hb⟩ := bd hb
            refine lex.cl (⟨_, _, op_call (vs := [.slice A63 y61.length c65, .slice A63 y61.length c65]) Try.call25 rfl rfl rfl, perm_Mul_ok n (hC.lentLt [.slice A63 y61.length c65]) ((hC.ow (i := 0) rfl).lend (vs := [.slice A63 y61.length c65]) (by simp)) ((hC.ow (i := 0) rfl).lend (vs := [.slice A63 y61.length c65]) (by simp)) h76⟩) ?_
            rintro _ w82 ⟨A77, m78, c79, rfl, hr81, hK⟩
            replace hC := hC.mergeF hK rfl
            clear hK
            obtain ⟨rfl, hl83, hc84⟩ := (hC.ow (i := 0) rfl).sl_len
            refine lex.pure (v := .tuple #[.slice A77 y75.1.length c79, .int .i64 y75.2]) (pu_move rfl) ?_
            refine lex.pure (v := .slice A77 y75.1.length c79) (pu_extract rfl rfl) ?_
            refine lex.pure (v := .int .i64 y75.2) (pu_extract rfl rfl) ?_
            refine lex.pure (v := .slice A77 y75.1.length c79) (pu_assign rfl) ?_
            refine lex.nil ?_
            exact hK70 _ _ ⟨y75.1, A77, y75.1.length, c79, e1, e2, e3, e4, e5, rfl, hC.sel [4, 5, 2, 3, 0] (by decide), hb⟩
          · replace hb := (cF hq74).symm.trans hb
            refine Wc.skip ?_
            exact hK70 _ _ ⟨y61, A63, y61.length, c65, e1, e2, e3, e4, e5, rfl, hC.sel [3, 4, 1, 2, 0] (by decide), hb⟩
        · clear hb hC
          rintro E86 w85 ⟨l6_0, Al6_0, ml6_0, cl6_0, e1, e2, e3, e4, e5, e6, hC, hb⟩
          unfold F.law34_GarsideExponent_j0 at hb
          obtain ⟨rfl, hll6_0, hcl6_0⟩ := (hC.ow (i := 4) rfl).sl_len
          refine Wc.seq fun K87 hK87 => ?_
          refine Wc.seq fun K88 hK88 => ?_
          refine Wc.region (by decide +kernel) ?_
          refine lex.pure (v := .pointer (some ((⟨g44, 0, none⟩ : Addr).add 2))) (pu_field (sz := 1) Try.underlying28 rfl Try.sizeOf26 (by decide) rfl e3) ?_
          refine lex.val (v := .slice A36 y32.2.2.1.length c38) (ld_fld (hC.bx (i := 2) rfl) Try.isAgg26 rfl rfl) ?_
          refine lex.pure (v := .int .i64 (y32.2.2.1.length : Int)) (pu_len (A := A36) (n := y32.2.2.1.length) (m := c38) Try.underlying26 rfl) ?_
          refine lex.pure (v := .int .i64 0) (pu_move rfl) ?_
          refine lex.nil ?_
          refine hK88 _ _ ?_
          obtain ⟨o89, hl1, hb⟩ := bd hb
          refine Wc.cut (fun E wv => ∃ (v5_1 : Int) (l6_1 : List Int) (v54_1 : Int) (Al6_1 : Option Addr) (ml6_1 cl6_1 : Nat), E 1 = .pointer (some ⟨g3, 0, none⟩) ∧ E 2 = .bool false ∧ E 4 = .int .i64 y32.2.2.2 ∧ E 5 = .int .i64 v5_1 ∧ E 6 = .slice Al6_1 ml6_1 cl6_1 ∧ I64 v5_1 ∧ I64 v54_1 ∧ Cx (fun _ => False) O0 w wv [.box g3 24 [.int .i64 b_0_0, .slice Ab_0_1 b_0_1.length cb_0_1], .ro (.sl (.int .i64)) [.slice Ab_0_1 b_0_1.length cb_0_1] b_0_1, .own 3 (.int .i64) (.slice Al6_1 ml6_1 cl6_1) l6_1] ∧ (cond (decide (y32.2.2.2 = 0)) ((F.braid_Exponent n b_0_0 b_0_1).bind fun y135 => cond (decide (v5_1 = y135)) ((F.braid_Perm n b_0_0 b_0_1).bind fun y140 => (F.slices_Equal_Perm_int n l6_1 y140).bind fun y149 => some y149) (some false)) (some false)) = some r) (fun K90 hK90 => ?_) ?_
          · refine Wc.block ?_
            refine Wc.loop (fun m E wv => ∃ (v5_1 : Int) (l6_1 : List Int) (v54_1 : Int) (Al6_1 : Option Addr) (ml6_1 cl6_1 : Nat), E 1 = .pointer (some ⟨g3, 0, none⟩) ∧ E 2 = .bool false ∧ E 4 = .int .i64 y32.2.2.2 ∧ E 5 = .int .i64 v5_1 ∧ E 6 = .slice Al6_1 ml6_1 cl6_1 ∧ E 52 = .slice A36 y32.2.2.1.length c38 ∧ E 53 = .int .i64 (y32.2.2.1.length : Int) ∧ E 54 = .int .i64 v54_1 ∧ I64 v5_1 ∧ I64 v54_1 ∧ Cx (fun _ => False) O0 w wv [.box g3 24 [.int .i64 b_0_0, .slice Ab_0_1 b_0_1.length cb_0_1], .ro (.sl (.int .i64)) [.slice Ab_0_1 b_0_1.length cb_0_1] b_0_1, .own 3 (.int .i64) (.slice Al6_1 ml6_1 cl6_1) l6_1, .ro (.sl (.sl (.int .i64))) [.slice A36 y32.2.2.1.length c38] y32.2.2.1] ∧ loopN m (F.law34_GarsideExponent_b1 n y32) (v5_1, l6_1, v54_1) = some o89) n ⟨z57, l6_0, 0, Al6_0, l6_0.length, cl6_0, e1, e2, e4, e5, e6, rfl, rfl, rfl, (chk_rng h58), (show I64 0 from by unfold I64; omega), hC.sel [0, 1, 4, 3] (by decide), hl1⟩ ?_
            have hbK1 := hb
            clear hb hC hl1
            rintro m92 E94 w93 ⟨v5_1, l6_1, v54_1, Al6_1, ml6_1, cl6_1, e1, e2, e4, e5, e6, e52, e53, e54, hrv5_1, hrv54_1, hC, hl1⟩ K91 hK91
            obtain ⟨m92', o95, rfl, hb, hl1⟩ := loopN_some hl1
            unfold F.law34_GarsideExponent_b1 at hb
            obtain ⟨rfl, hll6_1, hcl6_1⟩ := (hC.ow (i := 2) rfl).sl_len
            refine Wc.seq fun K96 hK96 => ?_
            refine Wc.region (by decide +kernel) ?_
            refine lex.pure (v := .bool (decide (v54_1 < (y32.2.2.1.length : Int)))) (pu_lss (k := .i64) (a := v54_1) (b := (y32.2.2.1.length : Int)) e54 e53) ?_
            refine lex.nil ?_
            refine hK96 _ _ ?_
            refine Wc.seq fun K97 hK97 => ?_
            refine Wc.cond (t := (decide (v54_1 < (y32.2.2.1.length : Int)))) (rfl) (fun hq98 => ?_) (fun hq98 => ?_)
            · replace hb := (cT hq98).symm.trans hb
              refine Wc.skip ?_
              refine hK97 _ _ ?_
              refine Wc.seq fun K99 hK99 => ?_
              refine Wc.block ?_
              refine Wc.seq fun K100 hK100 => ?_
              refine Wc.region (by decide +kernel) ?_
              obtain ⟨x101, h102, hb⟩ := bd hb
              obtain ⟨ad103, cs104, hA, hc105, hr106⟩ := hC.elr (i := 3) rfl (get_some h102).2
              subst hA
              refine lex.pure (v := .pointer (some (ad103.add (v54_1.toNat * 1)))) (pu_index (a := v54_1) Try.underlying26 Try.sizeOf43 e52 e54 (get_some h102).1) ?_
              have hR := hr106
              obtain ⟨A107, c108, rfl, hl109, hc110, _⟩ := hr106
              replace hC := hC.ro hR
              clear hR
              refine lex.val (v := .slice A107 x101.length c108) (ld_one Try.isAgg43 rfl (hc105 0 _ rfl)) ?_
              refine lex.pure (v := .slice A107 x101.length c108) (pu_assign rfl) ?_
              refine lex.nil ?_
              refine hK100 _ _ ?_
              refine Wc.seq fun K112 hK112 => ?_
              refine Wc.region (by decide +kernel) ?_
              refine lex.pure (v := .int .i64 v5_1) (pu_move e5) ?_
              refine lex.pure (v := .slice A107 x101.length c108) (pu_move rfl) ?_
              obtain ⟨y113, h114, hb⟩ := bd hb
              refine lex.cl (⟨_, _, op_call (vs := [.slice A107 x101.length c108]) Try.call26 rfl rfl rfl, ref34_Inversions_ok n hC.lt (hC.rd (i := 0) rfl) h114⟩) ?_
              rintro _ w116 ⟨rfl, hr115, hK⟩
              replace hC := hC.merge hK
              clear hK
              obtain ⟨z117, h118, hb⟩ := bd hb
              refine lex.pure (v := .int .i64 z117) (pu_addc (a := v5_1) (b := y113) rfl rfl h118) ?_
              refine lex.pure (v := .int .i64 z117) (pu_assign rfl) ?_
              refine lex.nil ?_
              refine hK112 _ _ ?_
              refine Wc.region (by decide +kernel) ?_
              refine lex.pure (v := .slice Al6_1 l6_1.length cl6_1) (pu_move e6) ?_
              refine lex.pure (v := .slice A107 x101.length c108) (pu_move rfl) ?_
              obtain ⟨y119, h120, hb⟩ := bd hb
              refine lex.cl (⟨_, _, op_call (vs := [.slice Al6_1 l6_1.length cl6_1, .slice A107 x101.length c108]) Try.call25 rfl rfl rfl, perm_Mul_ok n (hC.lentLt [.slice Al6_1 l6_1.length cl6_1]) ((hC.ow (i := 3) rfl).lend (vs := [.slice Al6_1 l6_1.length cl6_1]) (by simp)) ((hC.rd (i := 0) rfl).lent [.slice Al6_1 l6_1.length cl6_1]) h120⟩) ?_
              rintro _ w126 ⟨A121, m122, c123, rfl, hr125, hK⟩
              replace hC := hC.mergeF hK rfl
              clear hK
              obtain ⟨rfl, hl127, hc128⟩ := (hC.ow (i := 0) rfl).sl_len
              refine lex.pure (v := .tuple #[.slice A121 y119.1.length c123, .int .i64 y119.2]) (pu_move rfl) ?_
              refine lex.pure (v := .slice A121 y119.1.length c123) (pu_extract rfl rfl) ?_
              refine lex.pure (v := .int .i64 y119.2) (pu_extract rfl rfl) ?_
              refine lex.pure (v := .slice A121 y119.1.length c123) (pu_assign rfl) ?_
              refine lex.nil ?_
              refine hK99 _ _ ?_
              refine Wc.region (by decide +kernel) ?_
              obtain ⟨z129, h130, hb⟩ := bd hb
              refine lex.pure (v := .int .i64 z129) (pu_addc (a := v54_1) (b := 1) e54 rfl h130) ?_
              refine lex.pure (v := .int .i64 z129) (pu_move rfl) ?_
              refine lex.nil ?_
              obtain rfl := Option.some.inj hb
              exact hK91 m92' _ _ (Nat.lt_succ_self _) ⟨z117, y119.1, z129, A121, y119.1.length, c123, e1, e2, e4, rfl, rfl, e52, e53, rfl, (chk_rng h118), (chk_rng h130), hC.sel [2, 3, 0, 5] (by decide), lN hl1⟩
            · replace hb := (cF hq98).symm.trans hb
              refine Wc.exit rfl ?_
              obtain rfl := Option.some.inj hb
              obtain rfl := (lX hl1).symm
              exact hK90 _ _ ⟨v5_1, l6_1, v54_1, Al6_1, l6_1.length, cl6_1, e1, e2, e4, e5, e6, hrv5_1, hrv54_1, hC.sel [0, 1, 2] (by decide), hbK1⟩
          · clear hb hC hl1
            rintro E132 w131 ⟨v5_1, l6_1, v54_1, Al6_1, ml6_1, cl6_1, e1, e2, e4, e5, e6, hrv5_1, hrv54_1, hC, hb⟩
            obtain ⟨rfl, hll6_1, hcl6_1⟩ := (hC.ow (i := 2) rfl).sl_len
            refine hK87 _ _ ?_
            refine Wc.seq fun K133 hK133 => ?_
            refine Wc.region (by decide +kernel) ?_
            refine lex.pure (v := .int .i64 y32.2.2.2) (pu_move e4) ?_
            refine lex.pure (v := .bool (decide (y32.2.2.2 = 0))) (pu_eql (k := .i64) (a := y32.2.2.2) (b := 0) rfl rfl) ?_
            refine lex.pure (v := .bool (decide (y32.2.2.2 = 0))) (pu_move rfl) ?_
            rcases bS (decide (y32.2.2.2 = 0)) with hq134 | hq134
            · replace hb := (cT hq134).symm.trans hb
              refine lex.gpure (want_t rfl rfl (show _ = Value.bool (decide (y32.2.2.2 = 0)) from rfl) hq134) (v := .int .i64 v5_1) (pu_move e5) ?_
              refine lex.gval (want_t rfl rfl (show _ = Value.bool (decide (y32.2.2.2 = 0)) from rfl) hq134) (v := .agg #[.int .i64 b_0_0, .slice Ab_0_1 b_0_1.length cb_0_1]) (ld_blk (hC.bx (i := 0) rfl) Try.isAgg24 Try.sizeOf24 e1) ?_
              obtain ⟨y135, h136, hb⟩ := bd hb
              refine lex.gcl (want_t rfl rfl (show _ = Value.bool (decide (y32.2.2.2 = 0)) from rfl) hq134) (⟨_, _, op_call (vs := [.agg #[.int .i64 b_0_0, .slice Ab_0_1 b_0_1.length cb_0_1]]) Try.call27 rfl rfl rfl, braid_Exponent_ok n hC.lt hb_0_0 (hC.rd (i := 1) rfl) h136⟩) ?_
              rintro _ w138 ⟨rfl, hr137, hK⟩
              replace hC := hC.merge hK
              clear hK
              refine lex.gpure (want_t rfl rfl (show _ = Value.bool (decide (y32.2.2.2 = 0)) from rfl) hq134) (v := .bool (decide (v5_1 = y135))) (pu_eql (k := .i64) (a := v5_1) (b := y135) rfl rfl) ?_
              refine lex.pure (v := .bool (decide (v5_1 = y135))) (pu_pickT (q := (decide (y32.2.2.2 = 0))) rfl hq134 rfl) ?_
              refine lex.pure (v := .bool (decide (v5_1 = y135))) (pu_move rfl) ?_
              rcases bS (decide (v5_1 = y135)) with hq139 | hq139
              · replace hb := (cT hq139).symm.trans hb
                refine lex.gpure (want_t rfl rfl (show _ = Value.bool (decide (v5_1 = y135)) from rfl) hq139) (v := .slice Al6_1 l6_1.length cl6_1) (pu_move e6) ?_
                refine lex.gval (want_t rfl rfl (show _ = Value.bool (decide (v5_1 = y135)) from rfl) hq139) (v := .agg #[.int .i64 b_0_0, .slice Ab_0_1 b_0_1.length cb_0_1]) (ld_blk (hC.bx (i := 0) rfl) Try.isAgg24 Try.sizeOf24 e1) ?_
                obtain ⟨y140, h141, hb⟩ := bd hb
                refine lex.gcl (want_t rfl rfl (show _ = Value.bool (decide (v5_1 = y135)) from rfl) hq139) (⟨_, _, op_call (vs := [.agg #[.int .i64 b_0_0, .slice Ab_0_1 b_0_1.length cb_0_1]]) Try.call29 rfl rfl rfl, braid_Perm_ok n hC.lt hb_0_0 (hC.rd (i := 1) rfl) h141⟩) ?_
                rintro _ w146 ⟨A142, m143, c144, rfl, hK⟩
                replace hC := hC.merge hK
                clear hK
                obtain ⟨rfl, hl147, hc148⟩ := (hC.ow (i := 0) rfl).sl_len
                obtain ⟨y149, h150, hb⟩ := bd hb
                refine lex.gcl (want_t rfl rfl (show _ = Value.bool (decide (v5_1 = y135)) from rfl) hq139) (⟨_, _, op_call (vs := [.slice Al6_1 l6_1.length cl6_1, .slice A142 y140.length c144]) Try.call28 rfl rfl rfl, slices_Equal_Perm_int_ok n (hC.lentLt [.slice Al6_1 l6_1.length cl6_1, .slice A142 y140.length c144]) ((hC.ow (i := 3) rfl).lend (vs := [.slice Al6_1 l6_1.length cl6_1, .slice A142 y140.length c144]) (by simp)) ((hC.ow (i := 0) rfl).lend (vs := [.slice Al6_1 l6_1.length cl6_1, .slice A142 y140.length c144]) (by simp)) h150⟩) ?_
                rintro _ w151 ⟨rfl, hK⟩
                replace hC := hC.mergeF hK rfl
                clear hK
                refine lex.pure (v := .bool y149) (pu_pickT (q := (decide (v5_1 = y135))) rfl hq139 rfl) ?_
                refine lex.pure (v := .bool y149) (pu_assign rfl) ?_
                refine lex.nil ?_
                refine hK133 _ _ ?_
                obtain rfl := Option.some.inj hb
                refine Wc.ret ?_
                refine hKR _ _ ?_
                refine ⟨_, res1 Try.results6 (show RV _ _ _ (.tmp _) (.bool y149) from rfl), _, rfl, rfl, hC.sel [] (by decide)⟩
              · replace hb := (cF hq139).symm.trans hb
                refine lex.gskip (want_f rfl rfl (show _ = Value.bool (decide (v5_1 = y135)) from rfl) hq139) ?_
                refine lex.gskip (want_f rfl rfl (show _ = Value.bool (decide (v5_1 = y135)) from rfl) hq139) ?_
                refine lex.gskip (want_f rfl rfl (show _ = Value.bool (decide (v5_1 = y135)) from rfl) hq139) ?_
                refine lex.gskip (want_f rfl rfl (show _ = Value.bool (decide (v5_1 = y135)) from rfl) hq139) ?_
                refine lex.pure (v := .bool false) (pu_pickF (q := (decide (v5_1 = y135))) rfl hq139 rfl) ?_
                refine lex.pure (v := .bool false) (pu_assign rfl) ?_
                refine lex.nil ?_
                refine hK133 _ _ ?_
                obtain rfl := Option.some.inj hb
                refine Wc.ret ?_
                refine hKR _ _ ?_
                refine ⟨_, res1 Try.results6 (show RV _ _ _ (.tmp _) (.bool false) from rfl), _, rfl, rfl, hC.sel [] (by decide)⟩
            · replace hb := (cF hq134).symm.trans hb
              refine lex.gskip (want_f rfl rfl (show _ = Value.bool (decide (y32.2.2.2 = 0)) from rfl) hq134) ?_
              refine lex.gskip (want_f rfl rfl (show _ = Value.bool (decide (y32.2.2.2 = 0)) from rfl) hq134) ?_
              refine lex.gskip (want_f rfl rfl (show _ = Value.bool (decide (y32.2.2.2 = 0)) from rfl) hq134) ?_
              refine lex.gskip (want_f rfl rfl (show _ = Value.bool (decide (y32.2.2.2 = 0)) from rfl) hq134) ?_
              refine lex.pure (v := .bool false) (pu_pickF (q := (decide (y32.2.2.2 = 0))) rfl hq134 rfl) ?_
              refine lex.pure (v := .bool false) (pu_move rfl) ?_
              refine lex.gskip (want_f rfl rfl (show _ = Value.bool false from rfl) rfl) ?_
              refine lex.gskip (want_f rfl rfl (show _ = Value.bool false from rfl) rfl) ?_
              refine lex.gskip (want_f rfl rfl (show _ = Value.bool false from rfl) rfl) ?_
              refine lex.gskip (want_f rfl rfl (show _ = Value.bool false from rfl) rfl) ?_
              refine lex.pure (v := .bool false) (pu_pickF (q := false) rfl rfl rfl) ?_
              refine lex.pure (v := .bool false) (pu_assign rfl) ?_
              refine lex.nil ?_
              refine hK133 _ _ ?_
              obtain rfl := Option.some.inj hb
              refine Wc.ret ?_
              refine hKR _ _ ?_
              refine ⟨_, res1 Try.results6 (show RV _ _ _ (.tmp _) (.bool false) from rfl), _, rfl, rfl, hC.sel [] (by decide)⟩
end Go.Proofs.Ytkeaonceaaafcaa
