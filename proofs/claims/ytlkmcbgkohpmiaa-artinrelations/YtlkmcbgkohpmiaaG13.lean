/- The walks: part 13. -/
import Derived.Test.YtlkmcbgkohpmiaaS
import Derived.Test.YtlkmcbgkohpmiaaG0
import Derived.Test.YtlkmcbgkohpmiaaG2
import Derived.Test.YtlkmcbgkohpmiaaG5
import Derived.Test.YtlkmcbgkohpmiaaG6
import Derived.Test.YtlkmcbgkohpmiaaG12
set_option linter.unusedVariables false
set_option linter.unusedSimpArgs false
namespace Go.Proofs.Ytlkmcbgkohpmiaa
open Ev
set_option maxRecDepth 100000 in
set_option maxHeartbeats 4000000 in
theorem law35_ArtinRelations_ok (n : Nat) {w : World} {O0 : List Nat} (hO : ∀ k ∈ O0, k < w.heap.size) {b_0_0 : Int} (hb_0_0 : I64 b_0_0) {Ab_0_1 : Option Addr} {mb_0_1 cb_0_1 : Nat} {b_0_1 : List Int} (hb_0_1 : Rep O0 w (.sl (.int .i64)) [.slice Ab_0_1 mb_0_1 cb_0_1] b_0_1) {at_1 : Int} (hat_1 : IntKind.u8.wrap at_1 = at_1) {gen_2 : Int} (hgen_2 : IntKind.u8.wrap gen_2 = gen_2) {kind_3 : Int} (hkind_3 : IntKind.u8.wrap kind_3 = kind_3) {r : Bool} (hb : F.law35_ArtinRelations n b_0_0 b_0_1 at_1 gen_2 kind_3 = some r) :
    Calls Try.prog 4 #[.agg #[.int .i64 b_0_0, .slice Ab_0_1 mb_0_1 cb_0_1], .int .u8 at_1, .int .u8 gen_2, .int .u8 kind_3] w fun e w' => ∃ v, e = .returned v ∧ v = .bool r ∧ Cx (fun _ => False) O0 w w' [] := by
  unfold F.law35_ArtinRelations at hb
  have hC := Cx.start hO
  replace hC := hC.arg rfl hb_0_1
  clear hO
  obtain ⟨rfl, hlb_0_1, hcb_0_1⟩ := hb_0_1.sl_len
  refine calls_of_Wc Try.func4 rfl (by rw [Try.ntmps4]; exact Nat.le_of_ble_eq_true rfl) fun KR hKR => ?_
  refine Wc.seq fun K2 hK2 => ?_
  refine Wc.region (by decide +kernel) ?_
  refine lex.op (hC.box (cs := [.int .i64 b_0_0, .slice Ab_0_1 b_0_1.length cb_0_1]) rfl rfl) ?_
  rintro _ w4 ⟨g3, rfl, hC, hF, hG⟩
  clear hG
  refine lex.pure (v := .bool false) (pu_assign rfl) ?_
  refine lex.nil ?_
  refine hK2 _ _ ?_
  refine Wc.seq fun K6 hK6 => ?_
  refine Wc.seq fun K7 hK7 => ?_
  refine Wc.region (by decide +kernel) ?_
  obtain ⟨y8, h9, hb⟩ := bd hb
  refine lex.cl (⟨_, _, op_call (vs := []) Try.call9 rfl rfl rfl, law35_awake_ok n hC.lt  h9⟩) ?_
  rintro _ w10 ⟨rfl, hK⟩
  replace hC := hC.merge hK
  clear hK
  refine lex.pure (v := .bool (!y8)) (pu_not (q := y8) rfl) ?_
  refine lex.nil ?_
  refine hK7 _ _ ?_
  refine Wc.cond (t := (!y8)) (rfl) (fun hq11 => ?_) (fun hq11 => ?_)
  · replace hb := (cT hq11).symm.trans hb
    refine Wc.seq fun K12 hK12 => ?_
    refine Wc.region (by decide +kernel) ?_
    refine lex.pure (v := .bool false) (pu_assign rfl) ?_
    refine lex.nil ?_
    refine hK12 _ _ ?_
    obtain rfl := Option.some.inj hb
    refine Wc.ret ?_
    refine hKR _ _ ?_
    refine ⟨_, res1 Try.results4 (show RV _ _ _ (.tmp _) (.bool false) from rfl), _, rfl, rfl, hC.sel [] (by decide)⟩
  · replace hb := (cF hq11).symm.trans hb
    refine Wc.skip ?_
    refine hK6 _ _ ?_
    refine Wc.seq fun K13 hK13 => ?_
    refine Wc.seq fun K14 hK14 => ?_
    refine Wc.region (by decide +kernel) ?_
    refine lex.val (v := .agg #[.int .i64 b_0_0, .slice Ab_0_1 b_0_1.length cb_0_1]) (ld_blk (hC.bx (i := 0) rfl) Try.isAgg24 Try.sizeOf24 rfl) ?_
    obtain ⟨y15, h16, hb⟩ := bd hb
    refine lex.cl (⟨_, _, op_call (vs := [.agg #[.int .i64 b_0_0, .slice Ab_0_1 b_0_1.length cb_0_1]]) Try.call10 rfl rfl rfl, law35_great_ok n hC.lt hb_0_0 (hC.rd (i := 1) rfl) h16⟩) ?_
    rintro _ w17 ⟨rfl, hK⟩
    replace hC := hC.merge hK
    clear hK
    refine lex.pure (v := .bool y15) (pu_move rfl) ?_
    rcases bS y15 with hq18 | hq18
    · replace hb := (cT hq18).symm.trans hb
      refine lex.gskip (want_f rfl rfl (show _ = Value.bool y15 from rfl) hq18) ?_
      refine lex.gskip (want_f rfl rfl (show _ = Value.bool y15 from rfl) hq18) ?_
      refine lex.gskip (want_f rfl rfl (show _ = Value.bool y15 from rfl) hq18) ?_
      refine lex.gskip (want_f rfl rfl (show _ = Value.bool y15 from rfl) hq18) ?_
      refine lex.pure (v := .bool true) (pu_pickT (q := y15) rfl hq18 rfl) ?_
      refine lex.pure (v := .bool true) (pu_move rfl) ?_
      refine lex.gskip (want_f rfl rfl (show _ = Value.bool true from rfl) rfl) ?_
      refine lex.gskip (want_f rfl rfl (show _ = Value.bool true from rfl) rfl) ?_
      refine lex.gskip (want_f rfl rfl (show _ = Value.bool true from rfl) rfl) ?_
      refine lex.pure (v := .bool true) (pu_pickT (q := true) rfl rfl rfl) ?_
      refine lex.pure (v := .bool true) (pu_move rfl) ?_
      refine lex.gskip (want_f rfl rfl (show _ = Value.bool true from rfl) rfl) ?_
      refine lex.gskip (want_f rfl rfl (show _ = Value.bool true from rfl) rfl) ?_
      refine lex.gskip (want_f rfl rfl (show _ = Value.bool true from rfl) rfl) ?_
      refine lex.pure (v := .bool true) (pu_pickT (q := true) rfl rfl rfl) ?_
      refine lex.nil ?_
      refine hK14 _ _ ?_
      refine Wc.cond_true (rfl) ?_
      refine Wc.seq fun K19 hK19 => ?_
      refine Wc.region (by decide +kernel) ?_
      refine lex.pure (v := .bool true) (pu_assign rfl) ?_
      refine lex.nil ?_
      refine hK19 _ _ ?_
      obtain rfl := Option.some.inj hb
      refine Wc.ret ?_
      refine hKR _ _ ?_
      refine ⟨_, res1 Try.results4 (show RV _ _ _ (.tmp _) (.bool true) from rfl), _, rfl, rfl, hC.sel [] (by decide)⟩
    · replace hb := (cF hq18).symm.trans hb
      refine lex.gpure (want_t rfl rfl (show _ = Value.bool y15 from rfl) hq18) (v := .pointer (some ((⟨g3, 0, none⟩ : Addr).add 1))) (pu_field (sz := 1) Try.underlying24 rfl Try.sizeOf22 (by decide) rfl rfl) ?_
      refine lex.gval (want_t rfl rfl (show _ = Value.bool y15 from rfl) hq18) (v := .slice Ab_0_1 b_0_1.length cb_0_1) (ld_fld (hC.bx (i := 0) rfl) Try.isAgg22 rfl rfl) ?_
      refine lex.gpure (want_t rfl rfl (show _ = Value.bool y15 from rfl) hq18) (v := .int .i64 (b_0_1.length : Int)) (pu_len (A := Ab_0_1) (n := b_0_1.length) (m := cb_0_1) Try.underlying22 rfl) ?_
      refine lex.gpure (want_t rfl rfl (show _ = Value.bool y15 from rfl) hq18) (v := .bool (decide (10 < (b_0_1.length : Int)))) (pu_gtr (k := .i64) (a := (b_0_1.length : Int)) (b := 10) rfl rfl) ?_
      refine lex.pure (v := .bool (decide (10 < (b_0_1.length : Int)))) (pu_pickF (q := y15) rfl hq18 rfl) ?_
      refine lex.pure (v := .bool (decide (10 < (b_0_1.length : Int)))) (pu_move rfl) ?_
      rcases bS (decide (10 < (b_0_1.length : Int))) with hq20 | hq20
      · replace hb := (cT hq20).symm.trans hb
        refine lex.gskip (want_f rfl rfl (show _ = Value.bool (decide (10 < (b_0_1.length : Int))) from rfl) hq20) ?_
        refine lex.gskip (want_f rfl rfl (show _ = Value.bool (decide (10 < (b_0_1.length : Int))) from rfl) hq20) ?_
        refine lex.gskip (want_f rfl rfl (show _ = Value.bool (decide (10 < (b_0_1.length : Int))) from rfl) hq20) ?_
        refine lex.pure (v := .bool true) (pu_pickT (q := (decide (10 < (b_0_1.length : Int)))) rfl hq20 rfl) ?_
        refine lex.pure (v := .bool true) (pu_move rfl) ?_
        refine lex.gskip (want_f rfl rfl (show _ = Value.bool true from rfl) rfl) ?_
        refine lex.gskip (want_f rfl rfl (show _ = Value.bool true from rfl) rfl) ?_
        refine lex.gskip (want_f rfl rfl (show _ = Value.bool true from rfl) rfl) ?_
        refine lex.pure (v := .bool true) (pu_pickT (q := true) rfl rfl rfl) ?_
        refine lex.nil ?_
        refine hK14 _ _ ?_
        refine Wc.cond_true (rfl) ?_
        refine Wc.seq fun K21 hK21 => ?_
        refine Wc.region (by decide +kernel) ?_
        refine lex.pure (v := .bool true) (pu_assign rfl) ?_
        refine lex.nil ?_
        refine hK21 _ _ ?_
        obtain rfl := Option.some.inj hb
        refine Wc.ret ?_
        refine hKR _ _ ?_
        refine ⟨_, res1 Try.results4 (show RV _ _ _ (.tmp _) (.bool true) from rfl), _, rfl, rfl, hC.sel [] (by decide)⟩
      · replace hb := (cF hq20).symm.trans hb
        refine lex.gval (want_t rfl rfl (show _ = Value.bool (decide (10 < (b_0_1.length : Int))) from rfl) hq20) (v := .agg #[.int .i64 b_0_0, .slice Ab_0_1 b_0_1.length cb_0_1]) (ld_blk (hC.bx (i := 0) rfl) Try.isAgg24 Try.sizeOf24 rfl) ?_
        obtain ⟨y22, h23, hb⟩ := bd hb
        refine lex.gcl (want_t rfl rfl (show _ = Value.bool (decide (10 < (b_0_1.length : Int))) from rfl) hq20) (⟨_, _, op_call (vs := [.agg #[.int .i64 b_0_0, .slice Ab_0_1 b_0_1.length cb_0_1]]) Try.call16 rfl rfl rfl, braid_Valid_ok n hC.lt hb_0_0 (hC.rd (i := 1) rfl) h23⟩) ?_
        rintro _ w24 ⟨rfl, hK⟩
        replace hC := hC.merge hK
        clear hK
        refine lex.gpure (want_t rfl rfl (show _ = Value.bool (decide (10 < (b_0_1.length : Int))) from rfl) hq20) (v := .bool (!y22)) (pu_not (q := y22) rfl) ?_
        refine lex.pure (v := .bool (!y22)) (pu_pickF (q := (decide (10 < (b_0_1.length : Int)))) rfl hq20 rfl) ?_
        refine lex.pure (v := .bool (!y22)) (pu_move rfl) ?_
        rcases bS (!y22) with hq25 | hq25
        · replace hb := (cT hq25).symm.trans hb
          refine lex.gskip (want_f rfl rfl (show _ = Value.bool (!y22) from rfl) hq25) ?_
          refine lex.gskip (want_f rfl rfl (show _ = Value.bool (!y22) from rfl) hq25) ?_
          refine lex.gskip (want_f rfl rfl (show _ = Value.bool (!y22) from rfl) hq25) ?_
          refine lex.pure (v := .bool true) (pu_pickT (q := (!y22)) rfl hq25 rfl) ?_
          refine lex.nil ?_
          refine hK14 _ _ ?_
          refine Wc.cond_true (rfl) ?_
          refine Wc.seq fun K26 hK26 => ?_
          refine Wc.region (by decide +kernel) ?_
          refine lex.pure (v := .bool true) (pu_assign rfl) ?_
          refine lex.nil ?_
          refine hK26 _ _ ?_
          obtain rfl := Option.some.inj hb
          refine Wc.ret ?_
          refine hKR _ _ ?_
          refine ⟨_, res1 Try.results4 (show RV _ _ _ (.tmp _) (.bool true) from rfl), _, rfl, rfl, hC.sel [] (by decide)⟩
        · replace hb := (cF hq25).symm.trans hb
          refine lex.gpure (want_t rfl rfl (show _ = Value.bool (!y22) from rfl) hq25) (v := .pointer (some ((⟨g3, 0, none⟩ : Addr).add 0))) (pu_field (sz := 1) Try.underlying24 rfl Try.sizeOf3 (by decide) rfl rfl) ?_
          refine lex.gval (want_t rfl rfl (show _ = Value.bool (!y22) from rfl) hq25) (v := .int .i64 b_0_0) (ld_fld (hC.bx (i := 0) rfl) Try.isAgg3 rfl rfl) ?_
          refine lex.gpure (want_t rfl rfl (show _ = Value.bool (!y22) from rfl) hq25) (v := .bool (decide (b_0_0 < 2))) (pu_lss (k := .i64) (a := b_0_0) (b := 2) rfl rfl) ?_
          refine lex.pure (v := .bool (decide (b_0_0 < 2))) (pu_pickF (q := (!y22)) rfl hq25 rfl) ?_
          refine lex.nil ?_
          refine hK14 _ _ ?_
          refine Wc.cond (t := (decide (b_0_0 < 2))) (rfl) (fun hq27 => ?_) (fun hq27 => ?_)
          · replace hb := (cT hq27).symm.trans hb
            refine Wc.seq fun K28 hK28 => ?_
            refine Wc.region (by decide +kernel) ?_
            refine lex.pure (v := .bool true) (pu_assign rfl) ?_
            refine lex.nil ?_
            refine hK28 _ _ ?_
            obtain rfl := Option.some.inj hb
            refine Wc.ret ?_
            refine hKR _ _ ?_
            refine ⟨_, res1 Try.results4 (show RV _ _ _ (.tmp _) (.bool true) from rfl), _, rfl, rfl, hC.sel [] (by decide)⟩
          · replace hb := (cF hq27).symm.trans hb
            refine Wc.skip ?_
            refine hK13 _ _ ?_
            refine Wc.fresh fun E29 hE => ?_
            have e1 : E29 1 = .int .u8 at_1 := (congrFun hE 1).trans rfl
            have e2 : E29 2 = .int .u8 gen_2 := (congrFun hE 2).trans rfl
            have e3 : E29 3 = .int .u8 kind_3 := (congrFun hE 3).trans rfl
            have e4 : E29 4 = .pointer (some ⟨g3, 0, none⟩) := (congrFun hE 4).trans rfl
            have e8 : E29 8 = .bool false := (congrFun hE 8).trans rfl
            clear hE
            refine Wc.seq fun K30 hK30 => ?_
            refine Wc.region (by decide +kernel) ?_
            refine lex.pure (v := .int .u8 gen_2) (pu_move e2) ?_
            refine lex.pure (v := .int .i64 gen_2) (pu_conv (k := .u8) (a := gen_2) Try.underlying5 Try.underlying3 rfl (small_u8 hgen_2).wr) ?_
            refine lex.pure (v := .pointer (some ((⟨g3, 0, none⟩ : Addr).add 0))) (pu_field (sz := 1) Try.underlying24 rfl Try.sizeOf3 (by decide) rfl e4) ?_
            refine lex.val (v := .int .i64 b_0_0) (ld_fld (hC.bx (i := 0) rfl) Try.isAgg3 rfl rfl) ?_
            obtain ⟨z31, h32, hb⟩ := bd hb
            refine lex.pure (v := .int .i64 z31) (pu_subc (a := b_0_0) (b := 1) rfl rfl h32) ?_
            obtain ⟨u33, h34, hb⟩ := bd hb
            refine lex.pure (v := .int .i64 (Int.tmod gen_2 z31)) (pu_remc (a := gen_2) (b := z31) rfl rfl h34) ?_
            obtain ⟨z35, h36, hb⟩ := bd hb
            refine lex.pure (v := .int .i64 z35) (pu_addc (a := (Int.tmod gen_2 z31)) (b := 1) rfl rfl h36) ?_
            refine lex.pure (v := .int .i64 z35) (pu_assign rfl) ?_
            refine lex.nil ?_
            refine hK30 _ _ ?_
            refine Wc.seq fun K37 hK37 => ?_
            refine Wc.region (by decide +kernel) ?_
            refine lex.pure (v := .slice none 0 0) (pu_assign rfl) ?_
            refine lex.nil ?_
            refine hK37 _ _ ?_
            refine Wc.seqJ (fun E wv => ∃ (l10_0 : List Int) (Al10_0 : Option Addr) (ml10_0 cl10_0 : Nat), E 1 = .int .u8 at_1 ∧ E 3 = .int .u8 kind_3 ∧ E 4 = .pointer (some ⟨g3, 0, none⟩) ∧ E 8 = .bool false ∧ E 10 = .slice Al10_0 ml10_0 cl10_0 ∧ Cx (fun _ => False) O0 w wv [.box g3 24 [.int .i64 b_0_0, .slice Ab_0_1 b_0_1.length cb_0_1], .ro (.sl (.int .i64)) [.slice Ab_0_1 b_0_1.length cb_0_1] b_0_1, .own 3 (.int .i64) (.slice Al10_0 ml10_0 cl10_0) l10_0] ∧ F.law35_ArtinRelations_j0 n b_0_0 b_0_1 at_1 kind_3 l10_0 = some r) (fun K38 hK38 => ?_) ?_
            ·
              skip
              refine Wc.block ?_
              refine Wc.seq fun K39 hK39 => ?_
              refine Wc.region (by decide +kernel) ?_
              refine lex.pure (v := .int .u8 kind_3) (pu_move e3) ?_
              obtain ⟨u40, h41, hb⟩ := bd hb
              refine lex.pure (v := .int .u8 (Int.tmod kind_3 3)) (pu_remk (k := .u8) (nz_some h41) rfl rfl) ?_
              refine lex.pure (v := .bool (decide ((Int.tmod kind_3 3) = 0))) (pu_eql (k := .u8) (a := (Int.tmod kind_3 3)) (b := 0) rfl rfl) ?_
              refine lex.pure (v := .bool (decide ((Int.tmod kind_3 3) = 0))) (pu_assign rfl) ?_
              refine lex.nil ?_
              refine hK39 _ _ ?_
              refine Wc.fresh fun E42 hE => ?_
              have e1 : E42 1 = .int .u8 at_1 := (congrFun hE 1).trans e1
              have e3 : E42 3 = .int .u8 kind_3 := (congrFun hE 3).trans e3
              have e4 : E42 4 = .pointer (some ⟨g3, 0, none⟩) := (congrFun hE 4).trans e4
              have e8 : E42 8 = .bool false := (congrFun hE 8).trans e8
              have e9 : E42 9 = .int .i64 z35 := (congrFun hE 9).trans rfl
              have e10 : E42 10 = .slice none 0 0 := (congrFun hE 10).trans rfl
              have e45 : E42 45 = .bool (decide ((Int.tmod kind_3 3) = 0)) := (congrFun hE 45).trans rfl
              clear hE
              refine Wc.cond (t := (decide ((Int.tmod kind_3 3) = 0))) (e45) (fun hq43 => ?_) (fun hq43 => ?_)
              · replace hb := (cT hq43).symm.trans hb
                refine Wc.region (by decide +kernel) ?_
                refine lex.pure (v := .int .i64 z35) (pu_move e9) ?_
                refine lex.pure (v := .int .i64 z35) (pu_move e9) ?_
                obtain ⟨z44, h45, hb⟩ := bd hb
                refine lex.pure (v := .int .i64 z44) (pu_negc (a := z35) rfl h45) ?_
                refine lex.op (hC.lit (s := (.int .i64)) (vs := [.int .i64 z35, .int .i64 z44]) (xs := [z35, z44]) Try.underlying22 Try.type3 rfl rfl (Nat.le_of_ble_eq_true rfl) rfl rfl (by simp [Value.cells, Sh.n]) rfl (show Elems _ _ (.int .i64) ([.int .i64 z35] ++ ([.int .i64 z44] ++ ([]))) ([z35, z44] : List Int) from Elems.cons (⟨rfl, I64.wr (chk_rng h36)⟩) (Elems.cons (⟨rfl, I64.wr (chk_rng h45)⟩) (Elems.nil _ _ _)))) ?_
                rintro _ w50 ⟨A46, c47, rfl, hl48, hc49, hC, hF, hN⟩
                clear hF hN
                refine lex.pure (v := .slice A46 ((([z35, z44] : List Int)).length) c47) (pu_assign rfl) ?_
                refine lex.nil ?_
                exact hK38 _ _ ⟨([z35, z44] : List Int), A46, (([z35, z44] : List Int)).length, c47, e1, e3, e4, e8, rfl, hC.sel [1, 2, 0] (by decide), hb⟩
              · replace hb := (cF hq43).symm.trans hb
                refine Wc.seqJ (fun E wv => ∃ (v53_1 : Bool), E 1 = .int .u8 at_1 ∧ E 3 = .int .u8 kind_3 ∧ E 4 = .pointer (some ⟨g3, 0, none⟩) ∧ E 8 = .bool false ∧ E 9 = .int .i64 z35 ∧ E 10 = .slice none 0 0 ∧ E 53 = .bool v53_1 ∧ Cx (fun _ => False) O0 w wv [.box g3 24 [.int .i64 b_0_0, .slice Ab_0_1 b_0_1.length cb_0_1], .ro (.sl (.int .i64)) [.slice Ab_0_1 b_0_1.length cb_0_1] b_0_1] ∧ F.law35_ArtinRelations_j1 n b_0_0 b_0_1 at_1 kind_3 z35 v53_1 = some r) (fun K52 hK52 => ?_) ?_
                ·
                  skip
                  refine Wc.region (by decide +kernel) ?_
                  refine lex.pure (v := .int .u8 kind_3) (pu_move e3) ?_
                  obtain ⟨u53, h54, hb⟩ := bd hb
                  refine lex.pure (v := .int .u8 (Int.tmod kind_3 3)) (pu_remk (k := .u8) (nz_some h54) rfl rfl) ?_
                  refine lex.pure (v := .bool (decide ((Int.tmod kind_3 3) = 1))) (pu_eql (k := .u8) (a := (Int.tmod kind_3 3)) (b := 1) rfl rfl) ?_
                  refine lex.pure (v := .bool (decide ((Int.tmod kind_3 3) = 1))) (pu_move rfl) ?_
                  rcases bS (decide ((Int.tmod kind_3 3) = 1)) with hq55 | hq55
                  · replace hb := (cT hq55).symm.trans hb
                    refine lex.gpure (want_t rfl rfl (show _ = Value.bool (decide ((Int.tmod kind_3 3) = 1)) from rfl) hq55) (v := .int .i64 z35) (pu_move e9) ?_
                    obtain ⟨z56, h57, hb⟩ := bd hb
                    refine lex.gpure (want_t rfl rfl (show _ = Value.bool (decide ((Int.tmod kind_3 3) = 1)) from rfl) hq55) (v := .int .i64 z56) (pu_addc (a := z35) (b := 1) rfl rfl h57) ?_
                    refine lex.gpure (want_t rfl rfl (show _ = Value.bool (decide ((Int.tmod kind_3 3) = 1)) from rfl) hq55) (v := .pointer (some ((⟨g3, 0, none⟩ : Addr).add 0))) (pu_field (sz := 1) Try.underlying24 rfl Try.sizeOf3 (by decide) rfl e4) ?_
                    refine lex.gval (want_t rfl rfl (show _ = Value.bool (decide ((Int.tmod kind_3 3) = 1)) from rfl) hq55) (v := .int .i64 b_0_0) (ld_fld (hC.bx (i := 0) rfl) Try.isAgg3 rfl rfl) ?_
                    refine lex.gpure (want_t rfl rfl (show _ = Value.bool (decide ((Int.tmod kind_3 3) = 1)) from rfl) hq55) (v := .bool (decide (z56 < b_0_0))) (pu_lss (k := .i64) (a := z56) (b := b_0_0) rfl rfl) ?_
                    refine lex.pure (v := .bool (decide (z56 < b_0_0))) (pu_pickT (q := (decide ((Int.tmod kind_3 3) = 1))) rfl hq55 rfl) ?_
                    refine lex.pure (v := .bool (decide (z56 < b_0_0))) (pu_assign rfl) ?_
                    refine lex.nil ?_
                    exact hK52 _ _ ⟨(decide (z56 < b_0_0)), e1, e3, e4, e8, e9, e10, rfl, hC.sel [0, 1] (by decide), hb⟩
                  · replace hb := (cF hq55).symm.trans hb
                    refine lex.gskip (want_f rfl rfl (show _ = Value.bool (decide ((Int.tmod kind_3 3) = 1)) from rfl) hq55) ?_
                    refine lex.gskip (want_f rfl rfl (show _ = Value.bool (decide ((Int.tmod kind_3 3) = 1)) from rfl) hq55) ?_
                    refine lex.gskip (want_f rfl rfl (show _ = Value.bool (decide ((Int.tmod kind_3 3) = 1)) from rfl) hq55) ?_
                    refine lex.gskip (want_f rfl rfl (show _ = Value.bool (decide ((Int.tmod kind_3 3) = 1)) from rfl) hq55) ?_
                    refine lex.gskip (want_f rfl rfl (show _ = Value.bool (decide ((Int.tmod kind_3 3) = 1)) from rfl) hq55) ?_
                    refine lex.pure (v := .bool false) (pu_pickF (q := (decide ((Int.tmod kind_3 3) = 1))) rfl hq55 rfl) ?_
                    refine lex.pure (v := .bool false) (pu_assign rfl) ?_
                    refine lex.nil ?_
                    exact hK52 _ _ ⟨false, e1, e3, e4, e8, e9, e10, rfl, hC.sel [0, 1] (by decide), hb⟩
                · clear hb hC
                  rintro E59 w58 ⟨v53_1, e1, e3, e4, e8, e9, e10, e53, hC, hb⟩
                  unfold F.law35_ArtinRelations_j1 at hb
                  refine Wc.cond (t := v53_1) (e53) (fun hq60 => ?_) (fun hq60 => ?_)
                  · replace hb := (cT hq60).symm.trans hb
                    refine Wc.region (by decide +kernel) ?_
                    refine lex.pure (v := .int .i64 z35) (pu_move e9) ?_
                    refine lex.pure (v := .int .i64 z35) (pu_move e9) ?_
                    obtain ⟨z61, h62, hb⟩ := bd hb
                    refine lex.pure (v := .int .i64 z61) (pu_addc (a := z35) (b := 1) rfl rfl h62) ?_
                    refine lex.pure (v := .int .i64 z35) (pu_move e9) ?_
                    refine lex.pure (v := .int .i64 z35) (pu_move e9) ?_
                    obtain ⟨z63, h64, hb⟩ := bd hb
                    refine lex.pure (v := .int .i64 z63) (pu_addc (a := z35) (b := 1) rfl rfl h64) ?_
                    obtain ⟨z65, h66, hb⟩ := bd hb
                    refine lex.pure (v := .int .i64 z65) (pu_negc (a := z63) rfl h66) ?_
                    refine lex.pure (v := .int .i64 z35) (pu_move e9) ?_
                    obtain ⟨z67, h68, hb⟩ := bd hb
                    refine lex.pure (v := .int .i64 z67) (pu_negc (a := z35) rfl h68) ?_
                    refine lex.pure (v := .int .i64 z35) (pu_move e9) ?_
                    obtain ⟨z69, h70, hb⟩ := bd hb
                    refine lex.pure (v := .int .i64 z69) (pu_addc (a := z35) (b := 1) rfl rfl h70) ?_
                    obtain ⟨z71, h72, hb⟩ := bd hb
                    refine lex.pure (v := .int .i64 z71) (pu_negc (a := z69) rfl h72) ?_
                    refine lex.op (hC.lit (s := (.int .i64)) (vs := [.int .i64 z35, .int .i64 z61, .int .i64 z35, .int .i64 z65, .int .i64 z67, .int .i64 z71]) (xs := [z35, z61, z35, z65, z67, z71]) Try.underlying22 Try.type3 rfl rfl (Nat.le_of_ble_eq_true rfl) rfl rfl (by simp [Value.cells, Sh.n]) rfl (show Elems _ _ (.int .i64) ([.int .i64 z35] ++ ([.int .i64 z61] ++ ([.int .i64 z35] ++ ([.int .i64 z65] ++ ([.int .i64 z67] ++ ([.int .i64 z71] ++ ([]))))))) ([z35, z61, z35, z65, z67, z71] : List Int) from Elems.cons (⟨rfl, I64.wr (chk_rng h36)⟩) (Elems.cons (⟨rfl, I64.wr (chk_rng h62)⟩) (Elems.cons (⟨rfl, I64.wr (chk_rng h36)⟩) (Elems.cons (⟨rfl, I64.wr (chk_rng h66)⟩) (Elems.cons (⟨rfl, I64.wr (chk_rng h68)⟩) (Elems.cons (⟨rfl, I64.wr (chk_rng h72)⟩) (Elems.nil _ _ _)))))))) ?_
                    rintro _ w77 ⟨A73, c74, rfl, hl75, hc76, hC, hF, hN⟩
                    clear hF hN
                    refine lex.pure (v := .slice A73 ((([z35, z61, z35, z65, z67, z71] : List Int)).length) c74) (pu_assign rfl) ?_
                    refine lex.nil ?_
                    exact hK38 _ _ ⟨([z35, z61, z35, z65, z67, z71] : List Int), A73, (([z35, z61, z35, z65, z67, z71] : List Int)).length, c74, e1, e3, e4, e8, rfl, hC.sel [1, 2, 0] (by decide), hb⟩
                  · replace hb := (cF hq60).symm.trans hb
                    refine Wc.seqJ (fun E wv => ∃ (v77_2 : Bool), E 1 = .int .u8 at_1 ∧ E 3 = .int .u8 kind_3 ∧ E 4 = .pointer (some ⟨g3, 0, none⟩) ∧ E 8 = .bool false ∧ E 9 = .int .i64 z35 ∧ E 10 = .slice none 0 0 ∧ E 77 = .bool v77_2 ∧ Cx (fun _ => False) O0 w wv [.box g3 24 [.int .i64 b_0_0, .slice Ab_0_1 b_0_1.length cb_0_1], .ro (.sl (.int .i64)) [.slice Ab_0_1 b_0_1.length cb_0_1] b_0_1] ∧ F.law35_ArtinRelations_j2 n b_0_0 b_0_1 at_1 kind_3 z35 v77_2 = some r) (fun K79 hK79 => ?_) ?_
                    ·
                      skip
                      refine Wc.region (by decide +kernel) ?_
                      refine lex.pure (v := .int .u8 kind_3) (pu_move e3) ?_
                      obtain ⟨u80, h81, hb⟩ := bd hb
                      refine lex.pure (v := .int .u8 (Int.tmod kind_3 3)) (pu_remk (k := .u8) (nz_some h81) rfl rfl) ?_
                      refine lex.pure (v := .bool (decide ((Int.tmod kind_3 3) = 2))) (pu_eql (k := .u8) (a := (Int.tmod kind_3 3)) (b := 2) rfl rfl) ?_
                      refine lex.pure (v := .bool (decide ((Int.tmod kind_3 3) = 2))) (pu_move rfl) ?_
                      rcases bS (decide ((Int.tmod kind_3 3) = 2)) with hq82 | hq82
                      · replace hb := (cT hq82).symm.trans hb
                        refine lex.gpure (want_t rfl rfl (show _ = Value.bool (decide ((Int.tmod kind_3 3) = 2)) from rfl) hq82) (v := .int .i64 z35) (pu_move e9) ?_
                        obtain ⟨z83, h84, hb⟩ := bd hb
                        refine lex.gpure (want_t rfl rfl (show _ = Value.bool (decide ((Int.tmod kind_3 3) = 2)) from rfl) hq82) (v := .int .i64 z83) (pu_addc (a := z35) (b := 2) rfl rfl h84) ?_
                        refine lex.gpure (want_t rfl rfl (show _ = Value.bool (decide ((Int.tmod kind_3 3) = 2)) from rfl) hq82) (v := .pointer (some ((⟨g3, 0, none⟩ : Addr).add 0))) (pu_field (sz := 1) Try.underlying24 rfl Try.sizeOf3 (by decide) rfl e4) ?_
                        refine lex.gval (want_t rfl rfl (show _ = Value.bool (decide ((Int.tmod kind_3 3) = 2)) from rfl) hq82) (v := .int .i64 b_0_0) (ld_fld (hC.bx (i := 0) rfl) Try.isAgg3 rfl rfl) ?_
                        refine lex.gpure (want_t rfl rfl (show _ = Value.bool (decide ((Int.tmod kind_3 3) = 2)) from rfl) hq82) (v := .bool (decide (z83 < b_0_0))) (pu_lss (k := .i64) (a := z83) (b := b_0_0) rfl rfl) ?_
                        refine lex.pure (v := .bool (decide (z83 < b_0_0))) (pu_pickT (q := (decide ((Int.tmod kind_3 3) = 2))) rfl hq82 rfl) ?_
                        refine lex.pure (v := .bool (decide (z83 < b_0_0))) (pu_assign rfl) ?_
                        refine lex.nil ?_
                        exact hK79 _ _ ⟨(decide (z83 < b_0_0)), e1, e3, e4, e8, e9, e10, rfl, hC.sel [0, 1] (by decide), hb⟩
                      · replace hb := (cF hq82).symm.trans hb
                        refine lex.gskip (want_f rfl rfl (show _ = Value.bool (decide ((Int.tmod kind_3 3) = 2)) from rfl) hq82) ?_
                        refine lex.gskip (want_f rfl rfl (show _ = Value.bool (decide ((Int.tmod kind_3 3) = 2)) from rfl) hq82) ?_
                        refine lex.gskip (want_f rfl rfl (show _ = Value.bool (decide ((Int.tmod kind_3 3) = 2)) from rfl) hq82) ?_
                        refine lex.gskip (want_f rfl rfl (show _ = Value.bool (decide ((Int.tmod kind_3 3) = 2)) from rfl) hq82) ?_
                        refine lex.gskip (want_f rfl rfl (show _ = Value.bool (decide ((Int.tmod kind_3 3) = 2)) from rfl) hq82) ?_
                        refine lex.pure (v := .bool false) (pu_pickF (q := (decide ((Int.tmod kind_3 3) = 2))) rfl hq82 rfl) ?_
                        refine lex.pure (v := .bool false) (pu_assign rfl) ?_
                        refine lex.nil ?_
                        exact hK79 _ _ ⟨false, e1, e3, e4, e8, e9, e10, rfl, hC.sel [0, 1] (by decide), hb⟩
                    · clear hb hC
                      rintro E86 w85 ⟨v77_2, e1, e3, e4, e8, e9, e10, e77, hC, hb⟩
                      unfold F.law35_ArtinRelations_j2 at hb
                      refine Wc.cond (t := v77_2) (e77) (fun hq87 => ?_) (fun hq87 => ?_)
                      · replace hb := (cT hq87).symm.trans hb
                        refine Wc.region (by decide +kernel) ?_
                        refine lex.pure (v := .int .i64 z35) (pu_move e9) ?_
                        refine lex.pure (v := .int .i64 z35) (pu_move e9) ?_
                        obtain ⟨z88, h89, hb⟩ := bd hb
                        refine lex.pure (v := .int .i64 z88) (pu_addc (a := z35) (b := 2) rfl rfl h89) ?_
                        refine lex.pure (v := .int .i64 z35) (pu_move e9) ?_
                        obtain ⟨z90, h91, hb⟩ := bd hb
                        refine lex.pure (v := .int .i64 z90) (pu_negc (a := z35) rfl h91) ?_
                        refine lex.pure (v := .int .i64 z35) (pu_move e9) ?_
                        obtain ⟨z92, h93, hb⟩ := bd hb
                        refine lex.pure (v := .int .i64 z92) (pu_addc (a := z35) (b := 2) rfl rfl h93) ?_
                        obtain ⟨z94, h95, hb⟩ := bd hb
                        refine lex.pure (v := .int .i64 z94) (pu_negc (a := z92) rfl h95) ?_
                        refine lex.op (hC.lit (s := (.int .i64)) (vs := [.int .i64 z35, .int .i64 z88, .int .i64 z90, .int .i64 z94]) (xs := [z35, z88, z90, z94]) Try.underlying22 Try.type3 rfl rfl (Nat.le_of_ble_eq_true rfl) rfl rfl (by simp [Value.cells, Sh.n]) rfl (show Elems _ _ (.int .i64) ([.int .i64 z35] ++ ([.int .i64 z88] ++ ([.int .i64 z90] ++ ([.int .i64 z94] ++ ([]))))) ([z35, z88, z90, z94] : List Int) from Elems.cons (⟨rfl, I64.wr (chk_rng h36)⟩) (Elems.cons (⟨rfl, I64.wr (chk_rng h89)⟩) (Elems.cons (⟨rfl, I64.wr (chk_rng h91)⟩) (Elems.cons (⟨rfl, I64.wr (chk_rng h95)⟩) (Elems.nil _ _ _)))))) ?_
                        rintro _ w100 ⟨A96, c97, rfl, hl98, hc99, hC, hF, hN⟩
                        clear hF hN
                        refine lex.pure (v := .slice A96 ((([z35, z88, z90, z94] : List Int)).length) c97) (pu_assign rfl) ?_
                        refine lex.nil ?_
                        exact hK38 _ _ ⟨([z35, z88, z90, z94] : List Int), A96, (([z35, z88, z90, z94] : List Int)).length, c97, e1, e3, e4, e8, rfl, hC.sel [1, 2, 0] (by decide), hb⟩
                      · replace hb := (cF hq87).symm.trans hb
                        refine Wc.skip ?_
                        replace hC := hC.nil 3 (.int .i64)
                        exact hK38 _ _ ⟨([] : List Int), none, 0, 0, e1, e3, e4, e8, e10, hC.sel [1, 2, 0] (by decide), hb⟩
            · clear hb hC
              rintro E104 w103 ⟨l10_0, Al10_0, ml10_0, cl10_0, e1, e3, e4, e8, e10, hC, hb⟩
              unfold F.law35_ArtinRelations_j0 at hb
              obtain ⟨rfl, hll10_0, hcl10_0⟩ := (hC.ow (i := 2) rfl).sl_len
              refine Wc.seqJ (fun E wv => ∃ (qF10_0_3 : List Int), E 1 = .int .u8 at_1 ∧ E 4 = .pointer (some ⟨g3, 0, none⟩) ∧ E 8 = .bool false ∧ E 10 = .slice Al10_0 l10_0.length cl10_0 ∧ Cx (fun _ => False) O0 w wv [.box g3 24 [.int .i64 b_0_0, .slice Ab_0_1 b_0_1.length cb_0_1], .ro (.sl (.int .i64)) [.slice Ab_0_1 b_0_1.length cb_0_1] b_0_1, .own 3 (.int .i64) (.slice Al10_0 l10_0.length cl10_0) qF10_0_3] ∧ F.law35_ArtinRelations_j3 n b_0_0 b_0_1 at_1 qF10_0_3 = some r) (fun K105 hK105 => ?_) ?_
              ·
                skip
                refine Wc.seq fun K106 hK106 => ?_
                refine Wc.region (by decide +kernel) ?_
                refine lex.pure (v := .int .u8 kind_3) (pu_move e3) ?_
                refine lex.pure (v := .int .i64 kind_3) (pu_conv (k := .u8) (a := kind_3) Try.underlying5 Try.underlying3 rfl (small_u8 hkind_3).wr) ?_
                obtain ⟨u107, h108, hb⟩ := bd hb
                refine lex.pure (v := .int .i64 (Int.tmod kind_3 2)) (pu_remc (a := kind_3) (b := 2) rfl rfl h108) ?_
                refine lex.pure (v := .bool (decide ((Int.tmod kind_3 2) = 1))) (pu_eql (k := .i64) (a := (Int.tmod kind_3 2)) (b := 1) rfl rfl) ?_
                refine lex.nil ?_
                refine hK106 _ _ ?_
                refine Wc.cond (t := (decide ((Int.tmod kind_3 2) = 1))) (rfl) (fun hq109 => ?_) (fun hq109 => ?_)
                · replace hb := (cT hq109).symm.trans hb
                  refine Wc.seq fun K110 hK110 => ?_
                  refine Wc.region (by decide +kernel) ?_
                  refine lex.pure (v := .slice Al10_0 l10_0.length cl10_0) (pu_move e10) ?_
                  refine lex.pure (v := .int .i64 (l10_0.length : Int)) (pu_len (A := Al10_0) (n := l10_0.length) (m := cl10_0) Try.underlying22 rfl) ?_
                  refine lex.pure (v := .int .i64 0) (pu_move rfl) ?_
                  refine lex.nil ?_
                  refine hK110 _ _ ?_
                  obtain ⟨o111, hl4, hb⟩ := bd hb
                  refine Wc.cut (fun E wv => ∃ (v103_4 : Int) (qF10_0_4 : List Int), E 1 = .int .u8 at_1 ∧ E 4 = .pointer (some ⟨g3, 0, none⟩) ∧ E 8 = .bool false ∧ E 10 = .slice Al10_0 l10_0.length cl10_0 ∧ I64 v103_4 ∧ Cx (fun _ => False) O0 w wv [.box g3 24 [.int .i64 b_0_0, .slice Ab_0_1 b_0_1.length cb_0_1], .ro (.sl (.int .i64)) [.slice Ab_0_1 b_0_1.length cb_0_1] b_0_1, .own 3 (.int .i64) (.slice Al10_0 l10_0.length cl10_0) qF10_0_4] ∧ (F.law35_ArtinRelations_j3 n b_0_0 b_0_1 at_1 qF10_0_4 : Option (Bool)) = some r) (fun K112 hK112 => ?_) ?_
                  · refine Wc.block ?_
                    refine Wc.loop (fun m E wv => ∃ (v103_4 : Int) (qF10_0_4 : List Int), E 1 = .int .u8 at_1 ∧ E 4 = .pointer (some ⟨g3, 0, none⟩) ∧ E 8 = .bool false ∧ E 10 = .slice Al10_0 l10_0.length cl10_0 ∧ E 102 = .int .i64 (l10_0.length : Int) ∧ E 103 = .int .i64 v103_4 ∧ I64 v103_4 ∧ Cx (fun _ => False) O0 w wv [.box g3 24 [.int .i64 b_0_0, .slice Ab_0_1 b_0_1.length cb_0_1], .ro (.sl (.int .i64)) [.slice Ab_0_1 b_0_1.length cb_0_1] b_0_1, .own 3 (.int .i64) (.slice Al10_0 l10_0.length cl10_0) qF10_0_4] ∧ loopN m (F.law35_ArtinRelations_b4 n l10_0) (v103_4, qF10_0_4) = some o111) n ⟨0, l10_0, e1, e4, e8, e10, rfl, rfl, (show I64 0 from by unfold I64; omega), hC.sel [0, 1, 2] (by decide), hl4⟩ ?_
                    have hbK4 := hb
                    clear hb hC hl4
                    rintro m114 E116 w115 ⟨v103_4, qF10_0_4, e1, e4, e8, e10, e102, e103, hrv103_4, hC, hl4⟩ K113 hK113
                    obtain ⟨m114', o117, rfl, hb, hl4⟩ := loopN_some hl4
                    unfold F.law35_ArtinRelations_b4 at hb
                    refine Wc.seq fun K118 hK118 => ?_
                    refine Wc.region (by decide +kernel) ?_
                    refine lex.pure (v := .bool (decide (v103_4 < (l10_0.length : Int)))) (pu_lss (k := .i64) (a := v103_4) (b := (l10_0.length : Int)) e103 e102) ?_
                    refine lex.nil ?_
                    refine hK118 _ _ ?_
                    refine Wc.seq fun K119 hK119 => ?_
                    refine Wc.cond (t := (decide (v103_4 < (l10_0.length : Int)))) (rfl) (fun hq120 => ?_) (fun hq120 => ?_)
                    · replace hb := (cT hq120).symm.trans hb
                      refine Wc.skip ?_
                      refine hK119 _ _ ?_
                      refine Wc.seq fun K121 hK121 => ?_
                      refine Wc.block ?_
                      refine Wc.seq fun K122 hK122 => ?_
                      refine Wc.region (by decide +kernel) ?_
                      refine lex.pure (v := .int .i64 v103_4) (pu_move e103) ?_
                      refine lex.pure (v := .int .i64 v103_4) (pu_assign rfl) ?_
                      refine lex.nil ?_
                      refine hK122 _ _ ?_
                      refine Wc.region (by decide +kernel) ?_
                      refine lex.pure (v := .slice Al10_0 l10_0.length cl10_0) (pu_move e10) ?_
                      refine lex.pure (v := .int .i64 v103_4) (pu_move rfl) ?_
                      refine lex.pure (v := .slice Al10_0 l10_0.length cl10_0) (pu_move e10) ?_
                      refine lex.pure (v := .int .i64 v103_4) (pu_move rfl) ?_
                      obtain ⟨x123, h124, hb⟩ := bd hb
                      obtain ⟨ad125, cs126, hA, hc127, hr128⟩ := hC.elo (i := 2) rfl (get_some h124).2
                      subst hA
                      refine lex.pure (v := .pointer (some (ad125.add (v103_4.toNat * 1)))) (pu_index (a := v103_4) Try.underlying22 Try.sizeOf3 rfl rfl (by rw [(hC.ow (i := 2) rfl).sl_len.1]; exact (get_some h124).1)) ?_
                      obtain ⟨rfl, hr128'⟩ := hr128
                      refine lex.val (v := .int .i64 x123) (ld_one Try.isAgg3 rfl (hc127 0 _ rfl)) ?_
                      obtain ⟨z129, h130, hb⟩ := bd hb
                      refine lex.pure (v := .int .i64 z129) (pu_negc (a := x123) rfl h130) ?_
                      obtain ⟨x131, h132, hb⟩ := bd hb
                      obtain ⟨ad133, cs134, hA, hc135, hr136⟩ := hC.elo (i := 2) rfl (get_some h132).2
                      obtain rfl := Option.some.inj hA
                      refine lex.pure (v := .pointer (some (ad125.add (v103_4.toNat * 1)))) (pu_index (a := v103_4) Try.underlying22 Try.sizeOf3 rfl rfl (by rw [(hC.ow (i := 2) rfl).sl_len.1]; exact (get_some h132).1)) ?_
                      refine lex.sk (hC.put (i := 2) rfl rfl Try.sizeOf3 (k := v103_4.toNat) (a := z129) (by have := (get_some h132).1; simp at this ⊢; omega) (⟨rfl, I64.wr (chk_rng h130)⟩) rfl rfl rfl) ?_
                      rintro w137 ⟨hC, hF⟩
                      refine lex.nil ?_
                      refine hK121 _ _ ?_
                      refine Wc.region (by decide +kernel) ?_
                      obtain ⟨z138, h139, hb⟩ := bd hb
                      refine lex.pure (v := .int .i64 z138) (pu_addc (a := v103_4) (b := 1) e103 rfl h139) ?_
                      refine lex.pure (v := .int .i64 z138) (pu_move rfl) ?_
                      refine lex.nil ?_
                      obtain rfl := Option.some.inj hb
                      exact hK113 m114' _ _ (Nat.lt_succ_self _) ⟨z138, (qF10_0_4.set v103_4.toNat z129), e1, e4, e8, e10, e102, rfl, (chk_rng h139), hC.sel [0, 1, 2] (by decide), lN hl4⟩
                    · replace hb := (cF hq120).symm.trans hb
                      refine Wc.exit rfl ?_
                      obtain rfl := Option.some.inj hb
                      obtain rfl := (lX hl4).symm
                      exact hK112 _ _ ⟨v103_4, qF10_0_4, e1, e4, e8, e10, hrv103_4, hC.sel [0, 1, 2] (by decide), hbK4⟩
                  · clear hb hC hl4
                    rintro E141 w140 ⟨v103_4, qF10_0_4, e1, e4, e8, e10, hrv103_4, hC, hb⟩
                    exact hK105 _ _ ⟨qF10_0_4, e1, e4, e8, e10, hC.sel [0, 1, 2] (by decide), hb⟩
                · replace hb := (cF hq109).symm.trans hb
                  refine Wc.skip ?_
                  exact hK105 _ _ ⟨l10_0, e1, e4, e8, e10, hC.sel [0, 1, 2] (by decide), hb⟩
              · clear hb hC
                rintro E143 w142 ⟨qF10_0_3, e1, e4, e8, e10, hC, hb⟩
                unfold F.law35_ArtinRelations_j3 at hb
                refine Wc.seq fun K144 hK144 => ?_
                refine Wc.region (by decide +kernel) ?_
                refine lex.pure (v := .int .u8 at_1) (pu_move e1) ?_
                refine lex.pure (v := .int .i64 at_1) (pu_conv (k := .u8) (a := at_1) Try.underlying5 Try.underlying3 rfl (small_u8 hat_1).wr) ?_
                refine lex.pure (v := .pointer (some ((⟨g3, 0, none⟩ : Addr).add 1))) (pu_field (sz := 1) Try.underlying24 rfl Try.sizeOf22 (by decide) rfl e4) ?_
                refine lex.val (v := .slice Ab_0_1 b_0_1.length cb_0_1) (ld_fld (hC.bx (i := 0) rfl) Try.isAgg22 rfl rfl) ?_
                refine lex.pure (v := .int .i64 (b_0_1.length : Int)) (pu_len (A := Ab_0_1) (n := b_0_1.length) (m := cb_0_1) Try.underlying22 rfl) ?_
                obtain ⟨z145, h146, hb⟩ := bd hb
                refine lex.pure (v := .int .i64 z145) (pu_addc (a := (b_0_1.length : Int)) (b := 1) rfl rfl h146) ?_
                obtain ⟨u147, h148, hb⟩ := bd hb
                refine lex.pure (v := .int .i64 (Int.tmod at_1 z145)) (pu_remc (a := at_1) (b := z145) rfl rfl h148) ?_
                refine lex.pure (v := .int .i64 (Int.tmod at_1 z145)) (pu_assign rfl) ?_
                refine lex.nil ?_
                refine hK144 _ _ ?_
                refine Wc.seq fun K149 hK149 => ?_
                refine Wc.regionPlan [123, 126, 133] (frm [123, 126, 133] ([] : List Fact) ([] : List Fact)) (chainP [0, 1, 3, 4, 5, 6, 8, 10, 11, 12, 13] (.alt (chainP [2] (.alt (chainP [7] (.alt (chainP [9] (.alt (chainP [14] (chainP [15, 16, 17] .done)) (chainP [16] (chainP [14, 15, 17] .done)))) (chainP [16] (chainP [9, 14, 15, 17] .done)))) (chainP [16] (chainP [7, 9, 14, 15, 17] .done)))) (chainP [16] (chainP [2, 7, 9, 14, 15, 17] .done)))) (fun _ => rfl) mixed (by decide +kernel) (by decide +kernel) fun w151 hw150 => ?_
                replace hC := hC.step (Fr.of_drew hw150)
                have hM := Fr.refl (fun k => k ∈ blocks ([] : List Fact)) w151
                clear hw150
                have hS := hC
                have hD : Fr (fun k => k ∈ blocks (([] : List Fact) ++ ([] : List Fact))) w151 w151 := hM.wide
                refine mixPE_chain ?_
                refine mixE.pure (v := .pointer (some ((⟨g3, 0, none⟩ : Addr).add 0))) (pu_field (sz := 1) Try.underlying24 rfl Try.sizeOf3 (by decide) rfl e4) ?_
                refine mixE.steady hD (v := .int .i64 b_0_0) (fun _ hF => ld_fld (hS.bx2 (i := 0) rfl [] (by decide) hF) Try.isAgg3 rfl rfl) ?_
                refine mixE.pure (v := .pointer (some ((⟨g3, 0, none⟩ : Addr).add 1))) (pu_field (sz := 1) Try.underlying24 rfl Try.sizeOf22 (by decide) rfl e4) ?_
                refine mixE.steady hD (v := .slice Ab_0_1 b_0_1.length cb_0_1) (fun _ hF => ld_fld (hS.bx2 (i := 0) rfl [] (by decide) hF) Try.isAgg22 rfl rfl) ?_
                refine mixE.pure (v := .int .i64 (Int.tmod at_1 z145)) (pu_move rfl) ?_
                obtain ⟨u152, h153, hb⟩ := bd hb
                obtain ⟨A154, c155, hp158, hR159⟩ := pu_part_h (b := (Int.tmod at_1 z145)) Try.underlying22 Try.sizeOf3 (hC.rd (i := 1) rfl) rfl (cut_some h153)
                refine mixE.pure (v := .slice A154 (((b_0_1.drop (0 : Int).toNat).take ((Int.tmod at_1 z145).toNat - (0 : Int).toNat)).length) c155) (hp158 rfl  rfl) ?_
                replace hC := hC.ro hR159
                obtain ⟨-, hl156, hc157⟩ := (hC.rd (i := 0) rfl).sl_len
                refine mixE.pure (v := .slice Al10_0 l10_0.length cl10_0) (pu_move e10) ?_
                refine mixE.pure (v := .pointer (some ((⟨g3, 0, none⟩ : Addr).add 1))) (pu_field (sz := 1) Try.underlying24 rfl Try.sizeOf22 (by decide) rfl e4) ?_
                refine mixE.steady hD (v := .slice Ab_0_1 b_0_1.length cb_0_1) (fun _ hF => ld_fld (hS.bx2 (i := 0) rfl [] (by decide) hF) Try.isAgg22 rfl rfl) ?_
                refine mixE.pure (v := .int .i64 (Int.tmod at_1 z145)) (pu_move rfl) ?_
                obtain ⟨u161, h162, hb⟩ := bd hb
                obtain ⟨A163, c164, hp167, hR168⟩ := pu_part_l (a := (Int.tmod at_1 z145))  Try.underlying22 Try.sizeOf3 (hC.rd (i := 2) rfl) rfl (cut_some h162)
                refine mixE.pure (v := .slice A163 (((b_0_1.drop (Int.tmod at_1 z145).toNat).take ((b_0_1.length : Int).toNat - (Int.tmod at_1 z145).toNat)).length) c164) (hp167 rfl rfl ) ?_
                replace hC := hC.ro hR168
                obtain ⟨-, hl165, hc166⟩ := (hC.rd (i := 0) rfl).sl_len
                refine mixE.nil ?_
                refine mixPE_alt ?_ ?_
                ·
                  skip
                  refine mixPE_chain ?_
                  refine mixE.op hM (hC.lit (s := (.int .i64)) (vs := []) (xs := []) Try.underlying22 Try.type3 rfl rfl (Nat.le_of_ble_eq_true rfl) rfl rfl (by simp [Value.cells, Sh.n]) rfl (show Elems _ _ (.int .i64) ([]) ([] : List Int) from Elems.nil _ _ _)) ?_
                  rintro _ w174 ⟨A170, c171, rfl, hl172, hc173, hC, hF, hN⟩
                  have hBf175 := Beside.new hM hN
                  have hUf175 := Beside.new (hM.wide (H := ([] : List Fact))) hN
                  replace hM := hM.none hF
                  replace hD := hM.wide (H := ([] : List Fact))
                  refine ⟨hM, ?_⟩
                  clear hF hN
                  refine mixE.nil ?_
                  refine mixPE_alt ?_ ?_
                  ·
                    skip
                    refine mixPE_chain ?_
                    obtain ⟨u176, h177, hb⟩ := bd hb
                    refine mixE.op hM (hC.app (i := 0) (s := (.int .i64)) (xs := ([] : List Int)) (ys := ((b_0_1.drop (0 : Int).toNat).take ((Int.tmod at_1 z145).toNat - (0 : Int).toNat))) (m := (((b_0_1.drop (0 : Int).toNat).take ((Int.tmod at_1 z145).toNat - (0 : Int).toNat)).length)) rfl Try.underlying22 Try.underlying22 Try.type3 rfl rfl rfl (hC.srcr (i := 2) rfl) rfl rfl (by have := lim_some h177; simp at this ⊢ <;> omega) (by decide)) ?_
                    rintro _ w182 ⟨A178, c179, rfl, hl180, hc181, hC, hF, hN⟩
                    have hB := hBf175
                    replace hBf175 := hB.app hM hN
                    replace hM := hM.beside hB hF
                    clear hB
                    replace hD := hM.wide (H := ([] : List Fact))
                    refine ⟨hM, ?_⟩
                    clear hF hN
                    refine mixE.nil ?_
                    refine mixPE_alt ?_ ?_
                    ·
                      skip
                      refine mixPE_chain ?_
                      obtain ⟨u183, h184, hb⟩ := bd hb
                      refine mixE.op hM (hC.app (i := 0) (s := (.int .i64)) (xs := (([] : List Int) ++ ((b_0_1.drop (0 : Int).toNat).take ((Int.tmod at_1 z145).toNat - (0 : Int).toNat)))) (ys := qF10_0_3) (m := l10_0.length) rfl Try.underlying22 Try.underlying22 Try.type3 rfl rfl rfl (hC.srco (i := 5) rfl) rfl rfl (by have := lim_some h184; have hyl := (hC.ow (i := 5) rfl).sl_len.1; simp only [List.length_append] at this ⊢; rw [hyl]; first | exact this | omega) (by decide)) ?_
                      rintro _ w189 ⟨A185, c186, rfl, hl187, hc188, hC, hF, hN⟩
                      have hB := hBf175
                      replace hBf175 := hB.app hM hN
                      replace hM := hM.beside hB hF
                      clear hB
                      replace hD := hM.wide (H := ([] : List Fact))
                      refine ⟨hM, ?_⟩
                      clear hF hN
                      refine mixE.nil ?_
                      refine mixPE_alt ?_ ?_
                      ·
                        skip
                        refine mixPE_chain ?_
                        obtain ⟨u190, h191, hb⟩ := bd hb
                        refine mixE.op hM (hC.app (i := 0) (s := (.int .i64)) (xs := ((([] : List Int) ++ ((b_0_1.drop (0 : Int).toNat).take ((Int.tmod at_1 z145).toNat - (0 : Int).toNat))) ++ qF10_0_3)) (ys := ((b_0_1.drop (Int.tmod at_1 z145).toNat).take ((b_0_1.length : Int).toNat - (Int.tmod at_1 z145).toNat))) (m := (((b_0_1.drop (Int.tmod at_1 z145).toNat).take ((b_0_1.length : Int).toNat - (Int.tmod at_1 z145).toNat)).length)) rfl Try.underlying22 Try.underlying22 Try.type3 rfl rfl rfl (hC.srcr (i := 1) rfl) rfl rfl (by have := lim_some h191; simp at this ⊢ <;> omega) (by decide)) ?_
                        rintro _ w196 ⟨A192, c193, rfl, hl194, hc195, hC, hF, hN⟩
                        have hB := hBf175
                        replace hBf175 := hB.app hM hN
                        replace hM := hM.beside hB hF
                        clear hB
                        replace hD := hM.wide (H := ([] : List Fact))
                        refine ⟨hM, ?_⟩
                        clear hF hN
                        refine mixE.nil ?_
                        refine mixPE_chain ?_
                        refine mixE.pure (v := .agg #[.int .i64 b_0_0, .slice A192 ((((([] : List Int) ++ ((b_0_1.drop (0 : Int).toNat).take ((Int.tmod at_1 z145).toNat - (0 : Int).toNat))) ++ qF10_0_3) ++ ((b_0_1.drop (Int.tmod at_1 z145).toNat).take ((b_0_1.length : Int).toNat - (Int.tmod at_1 z145).toNat))).length) c193]) (pu_builds (places := [(0, 1), (1, 1)]) (pv := [(0, .int .i64 b_0_0), (1, .slice A192 ((((([] : List Int) ++ ((b_0_1.drop (0 : Int).toNat).take ((Int.tmod at_1 z145).toNat - (0 : Int).toNat))) ++ qF10_0_3) ++ ((b_0_1.drop (Int.tmod at_1 z145).toNat).take ((b_0_1.length : Int).toNat - (Int.tmod at_1 z145).toNat))).length) c193)]) Try.type24 Try.underlying24 rfl (mp_cons Try.type3 (mp_cons Try.type22 mp_nil rfl rfl) rfl rfl) rfl (by simp [Instr.fill, Value.cells])) ?_
                        refine mixE.op hM (hC.alloc (cs := [.int .i64 0, .slice none 0 0]) Try.zeroValue24 rfl) ?_
                        rintro _ w198 ⟨g197, rfl, hC, hF, hG⟩
                        have hUf199 : g197 < w151.heap.size → g197 ∈ blocks (([] : List Fact) ++ ([] : List Fact)) := fun h => absurd (Nat.lt_of_lt_of_le h (Nat.le_trans hM.size hG)) (Nat.lt_irrefl _)
                        clear hG
                        replace hM := hM.none hF
                        replace hD := hM.wide (H := ([] : List Fact))
                        refine ⟨hM, ?_⟩
                        refine mixE.sk hD (hC.seta (i := 0) (ds := [.int .i64 b_0_0, .slice A192 ((((([] : List Int) ++ ((b_0_1.drop (0 : Int).toNat).take ((Int.tmod at_1 z145).toNat - (0 : Int).toNat))) ++ qF10_0_3) ++ ((b_0_1.drop (Int.tmod at_1 z145).toNat).take ((b_0_1.length : Int).toNat - (Int.tmod at_1 z145).toNat))).length) c193]) rfl Try.type24 rfl rfl rfl rfl rfl) ?_
                        rintro w200 ⟨hC, hF⟩
                        replace hD := hD.besideG hUf199 hF
                        clear hF
                        refine ⟨hD, ?_⟩
                        refine mixE.nil ?_
                        clear hS hM
                        clear hD
                        refine hK149 _ _ ?_
                        refine Wc.fresh fun E201 hE => ?_
                        have e4 : E201 4 = .pointer (some ⟨g3, 0, none⟩) := (congrFun hE 4).trans e4
                        have e8 : E201 8 = .bool false := (congrFun hE 8).trans e8
                        have e13 : E201 13 = .pointer (some ⟨g197, 0, none⟩) := (congrFun hE 13).trans rfl
                        clear hE
                        refine Wc.seq fun K202 hK202 => ?_
                        refine Wc.region (by decide +kernel) ?_
                        refine lex.val (v := .agg #[.int .i64 b_0_0, .slice Ab_0_1 b_0_1.length cb_0_1]) (ld_blk (hC.bx (i := 4) rfl) Try.isAgg24 Try.sizeOf24 e4) ?_
                        obtain ⟨y203, h204, hb⟩ := bd hb
                        refine lex.cl (⟨_, _, op_call (vs := [.agg #[.int .i64 b_0_0, .slice Ab_0_1 b_0_1.length cb_0_1]]) Try.call17 rfl rfl rfl, artin_Images_ok n hC.lt hb_0_0 (hC.rd (i := 5) rfl) h204⟩) ?_
                        rintro _ w210 ⟨A205, m206, c207, rfl, hr209, hK⟩
                        replace hC := hC.merge hK
                        clear hK
                        obtain ⟨rfl, hl211, hc212⟩ := (hC.ow (i := 0) rfl).sl_len
                        refine lex.pure (v := .tuple #[.slice A205 y203.1.length c207, .int .i64 y203.2]) (pu_move rfl) ?_
                        refine lex.pure (v := .slice A205 y203.1.length c207) (pu_extract rfl rfl) ?_
                        refine lex.pure (v := .int .i64 y203.2) (pu_extract rfl rfl) ?_
                        refine lex.pure (v := .slice A205 y203.1.length c207) (pu_assign rfl) ?_
                        refine lex.pure (v := .int .i64 y203.2) (pu_assign rfl) ?_
                        refine lex.nil ?_
                        refine hK202 _ _ ?_
                        refine Wc.seq fun K213 hK213 => ?_
                        refine Wc.region (by decide +kernel) ?_
                        refine lex.val (v := .agg #[.int .i64 b_0_0, .slice A192 ((((([] : List Int) ++ ((b_0_1.drop (0 : Int).toNat).take ((Int.tmod at_1 z145).toNat - (0 : Int).toNat))) ++ qF10_0_3) ++ ((b_0_1.drop (Int.tmod at_1 z145).toNat).take ((b_0_1.length : Int).toNat - (Int.tmod at_1 z145).toNat))).length) c193]) (ld_blk (hC.bx (i := 1) rfl) Try.isAgg24 Try.sizeOf24 e13) ?_
                        replace hC := hC.freeze (i := 2) rfl (hC.own_new (i := 2) rfl)
                        obtain ⟨y214, h215, hb⟩ := bd hb
                        refine lex.cl (⟨_, _, op_call (vs := [.agg #[.int .i64 b_0_0, .slice A192 ((((([] : List Int) ++ ((b_0_1.drop (0 : Int).toNat).take ((Int.tmod at_1 z145).toNat - (0 : Int).toNat))) ++ qF10_0_3) ++ ((b_0_1.drop (Int.tmod at_1 z145).toNat).take ((b_0_1.length : Int).toNat - (Int.tmod at_1 z145).toNat))).length) c193]]) Try.call17 rfl rfl rfl, artin_Images_ok n hC.lt hb_0_0 (hC.rd (i := 2) rfl) h215⟩) ?_
                        rintro _ w221 ⟨A216, m217, c218, rfl, hr220, hK⟩
                        replace hC := hC.merge hK
                        clear hK
                        obtain ⟨rfl, hl222, hc223⟩ := (hC.ow (i := 0) rfl).sl_len
                        refine lex.pure (v := .tuple #[.slice A216 y214.1.length c218, .int .i64 y214.2]) (pu_move rfl) ?_
                        refine lex.pure (v := .slice A216 y214.1.length c218) (pu_extract rfl rfl) ?_
                        refine lex.pure (v := .int .i64 y214.2) (pu_extract rfl rfl) ?_
                        refine lex.pure (v := .slice A216 y214.1.length c218) (pu_assign rfl) ?_
                        refine lex.pure (v := .int .i64 y214.2) (pu_assign rfl) ?_
                        refine lex.nil ?_
                        refine hK213 _ _ ?_
                        refine Wc.fresh fun E224 hE => ?_
                        have e8 : E224 8 = .bool false := (congrFun hE 8).trans e8
                        have e14 : E224 14 = .slice A205 y203.1.length c207 := (congrFun hE 14).trans rfl
                        have e15 : E224 15 = .int .i64 y203.2 := (congrFun hE 15).trans rfl
                        have e16 : E224 16 = .slice A216 y214.1.length c218 := (congrFun hE 16).trans rfl
                        have e17 : E224 17 = .int .i64 y214.2 := (congrFun hE 17).trans rfl
                        clear hE
                        refine Wc.seq fun K225 hK225 => ?_
                        refine Wc.region (by decide +kernel) ?_
                        refine lex.pure (v := .int .i64 y203.2) (pu_move e15) ?_
                        refine lex.pure (v := .bool (decide (y203.2 = 0))) (pu_eql (k := .i64) (a := y203.2) (b := 0) rfl rfl) ?_
                        refine lex.pure (v := .bool (decide (y203.2 = 0))) (pu_move rfl) ?_
                        rcases bS (decide (y203.2 = 0)) with hq226 | hq226
                        · replace hb := (cT hq226).symm.trans hb
                          refine lex.gpure (want_t rfl rfl (show _ = Value.bool (decide (y203.2 = 0)) from rfl) hq226) (v := .int .i64 y214.2) (pu_move e17) ?_
                          refine lex.gpure (want_t rfl rfl (show _ = Value.bool (decide (y203.2 = 0)) from rfl) hq226) (v := .bool (decide (y214.2 = 0))) (pu_eql (k := .i64) (a := y214.2) (b := 0) rfl rfl) ?_
                          refine lex.pure (v := .bool (decide (y214.2 = 0))) (pu_pickT (q := (decide (y203.2 = 0))) rfl hq226 rfl) ?_
                          refine lex.pure (v := .bool (decide (y214.2 = 0))) (pu_move rfl) ?_
                          rcases bS (decide (y214.2 = 0)) with hq227 | hq227
                          · replace hb := (cT hq227).symm.trans hb
                            refine lex.gpure (want_t rfl rfl (show _ = Value.bool (decide (y214.2 = 0)) from rfl) hq227) (v := .slice A205 y203.1.length c207) (pu_move e14) ?_
                            replace hC := hC.freeze (i := 1) rfl (hC.own_new (i := 1) rfl)
                            obtain ⟨y228, h229, hb⟩ := bd hb
                            refine lex.gcl (want_t rfl rfl (show _ = Value.bool (decide (y214.2 = 0)) from rfl) hq227) (⟨_, _, op_call (vs := [.slice A205 y203.1.length c207]) Try.call19 rfl rfl rfl, law35_lists_ok n hC.lt (hC.rd (i := 1) rfl) h229⟩) ?_
                            rintro _ w234 ⟨A230, m231, c232, rfl, hK⟩
                            replace hC := hC.merge hK
                            clear hK
                            obtain ⟨rfl, hl235, hc236⟩ := (hC.ow (i := 0) rfl).sl_len
                            refine lex.gpure (want_t rfl rfl (show _ = Value.bool (decide (y214.2 = 0)) from rfl) hq227) (v := .slice A216 y214.1.length c218) (pu_move e16) ?_
                            replace hC := hC.freeze (i := 1) rfl (hC.own_new (i := 1) rfl)
                            obtain ⟨y237, h238, hb⟩ := bd hb
                            refine lex.gcl (want_t rfl rfl (show _ = Value.bool (decide (y214.2 = 0)) from rfl) hq227) (⟨_, _, op_call (vs := [.slice A216 y214.1.length c218]) Try.call19 rfl rfl rfl, law35_lists_ok n hC.lt (hC.rd (i := 1) rfl) h238⟩) ?_
                            rintro _ w243 ⟨A239, m240, c241, rfl, hK⟩
                            replace hC := hC.merge hK
                            clear hK
                            obtain ⟨rfl, hl244, hc245⟩ := (hC.ow (i := 0) rfl).sl_len
                            obtain ⟨y246, h247, hb⟩ := bd hb
                            refine lex.gcl (want_t rfl rfl (show _ = Value.bool (decide (y214.2 = 0)) from rfl) hq227) (⟨_, _, op_call (vs := [.slice A230 y228.length c232, .slice A239 y237.length c241]) Try.call18 rfl rfl rfl, ref01_Lists_ok n (hC.lentLt [.slice A230 y228.length c232, .slice A239 y237.length c241]) ((hC.ow (i := 1) rfl).lend (vs := [.slice A230 y228.length c232, .slice A239 y237.length c241]) (by simp)) ((hC.ow (i := 0) rfl).lend (vs := [.slice A230 y228.length c232, .slice A239 y237.length c241]) (by simp)) h247⟩) ?_
                            rintro _ w248 ⟨rfl, hK⟩
                            replace hC := hC.mergeF hK rfl
                            clear hK
                            refine lex.pure (v := .bool y246) (pu_pickT (q := (decide (y214.2 = 0))) rfl hq227 rfl) ?_
                            refine lex.pure (v := .bool y246) (pu_assign rfl) ?_
                            refine lex.nil ?_
                            refine hK225 _ _ ?_
                            obtain rfl := Option.some.inj hb
                            refine Wc.ret ?_
                            refine hKR _ _ ?_
                            refine ⟨_, res1 Try.results4 (show RV _ _ _ (.tmp _) (.bool y246) from rfl), _, rfl, rfl, hC.sel [] (by decide)⟩
                          · replace hb := (cF hq227).symm.trans hb
                            refine lex.gskip (want_f rfl rfl (show _ = Value.bool (decide (y214.2 = 0)) from rfl) hq227) ?_
                            refine lex.gskip (want_f rfl rfl (show _ = Value.bool (decide (y214.2 = 0)) from rfl) hq227) ?_
                            refine lex.gskip (want_f rfl rfl (show _ = Value.bool (decide (y214.2 = 0)) from rfl) hq227) ?_
                            refine lex.gskip (want_f rfl rfl (show _ = Value.bool (decide (y214.2 = 0)) from rfl) hq227) ?_
                            refine lex.gskip (want_f rfl rfl (show _ = Value.bool (decide (y214.2 = 0)) from rfl) hq227) ?_
                            refine lex.pure (v := .bool false) (pu_pickF (q := (decide (y214.2 = 0))) rfl hq227 rfl) ?_
                            refine lex.pure (v := .bool false) (pu_assign rfl) ?_
                            refine lex.nil ?_
                            refine hK225 _ _ ?_
                            obtain rfl := Option.some.inj hb
                            refine Wc.ret ?_
                            refine hKR _ _ ?_
                            refine ⟨_, res1 Try.results4 (show RV _ _ _ (.tmp _) (.bool false) from rfl), _, rfl, rfl, hC.sel [] (by decide)⟩
                        · replace hb := (cF hq226).symm.trans hb
                          refine lex.gskip (want_f rfl rfl (show _ = Value.bool (decide (y203.2 = 0)) from rfl) hq226) ?_
                          refine lex.gskip (want_f rfl rfl (show _ = Value.bool (decide (y203.2 = 0)) from rfl) hq226) ?_
                          refine lex.pure (v := .bool false) (pu_pickF (q := (decide (y203.2 = 0))) rfl hq226 rfl) ?_
                          refine lex.pure (v := .bool false) (pu_move rfl) ?_
                          refine lex.gskip (want_f rfl rfl (show _ = Value.bool false from rfl) rfl) ?_
                          refine lex.gskip (want_f rfl rfl (show _ = Value.bool false from rfl) rfl) ?_
                          refine lex.gskip (want_f rfl rfl (show _ = Value.bool false from rfl) rfl) ?_
                          refine lex.gskip (want_f rfl rfl (show _ = Value.bool false from rfl) rfl) ?_
                          refine lex.gskip (want_f rfl rfl (show _ = Value.bool false from rfl) rfl) ?_
                          refine lex.pure (v := .bool false) (pu_pickF (q := false) rfl rfl rfl) ?_
                          refine lex.pure (v := .bool false) (pu_assign rfl) ?_
                          refine lex.nil ?_
                          refine hK225 _ _ ?_
                          obtain rfl := Option.some.inj hb
                          refine Wc.ret ?_
                          refine hKR _ _ ?_
                          refine ⟨_, res1 Try.results4 (show RV _ _ _ (.tmp _) (.bool false) from rfl), _, rfl, rfl, hC.sel [] (by decide)⟩
                      ·
                        skip
                        refine mixPE_chain ?_
                        refine mixE.op hM (hC.alloc (cs := [.int .i64 0, .slice none 0 0]) Try.zeroValue24 rfl) ?_
                        rintro _ w250 ⟨g249, rfl, hC, hF, hG⟩
                        have hUf251 : g249 < w151.heap.size → g249 ∈ blocks (([] : List Fact) ++ ([] : List Fact)) := fun h => absurd (Nat.lt_of_lt_of_le h (Nat.le_trans hM.size hG)) (Nat.lt_irrefl _)
                        clear hG
                        replace hM := hM.none hF
                        replace hD := hM.wide (H := ([] : List Fact))
                        refine ⟨hM, ?_⟩
                        refine mixE.nil ?_
                        refine mixPE_chain ?_
                        obtain ⟨u190, h253, hb⟩ := bd hb
                        refine mixE.op hM (hC.app (i := 1) (s := (.int .i64)) (xs := ((([] : List Int) ++ ((b_0_1.drop (0 : Int).toNat).take ((Int.tmod at_1 z145).toNat - (0 : Int).toNat))) ++ qF10_0_3)) (ys := ((b_0_1.drop (Int.tmod at_1 z145).toNat).take ((b_0_1.length : Int).toNat - (Int.tmod at_1 z145).toNat))) (m := (((b_0_1.drop (Int.tmod at_1 z145).toNat).take ((b_0_1.length : Int).toNat - (Int.tmod at_1 z145).toNat)).length)) rfl Try.underlying22 Try.underlying22 Try.type3 rfl rfl rfl (hC.srcr (i := 2) rfl) rfl rfl (by have := lim_some h253; simp at this ⊢ <;> omega) (by decide)) ?_
                        rintro _ w258 ⟨A254, c255, rfl, hl256, hc257, hC, hF, hN⟩
                        have hB := hBf175
                        replace hBf175 := hB.app hM hN
                        replace hM := hM.beside hB hF
                        clear hB
                        replace hD := hM.wide (H := ([] : List Fact))
                        refine ⟨hM, ?_⟩
                        clear hF hN
                        refine mixE.pure (v := .agg #[.int .i64 b_0_0, .slice A254 ((((([] : List Int) ++ ((b_0_1.drop (0 : Int).toNat).take ((Int.tmod at_1 z145).toNat - (0 : Int).toNat))) ++ qF10_0_3) ++ ((b_0_1.drop (Int.tmod at_1 z145).toNat).take ((b_0_1.length : Int).toNat - (Int.tmod at_1 z145).toNat))).length) c255]) (pu_builds (places := [(0, 1), (1, 1)]) (pv := [(0, .int .i64 b_0_0), (1, .slice A254 ((((([] : List Int) ++ ((b_0_1.drop (0 : Int).toNat).take ((Int.tmod at_1 z145).toNat - (0 : Int).toNat))) ++ qF10_0_3) ++ ((b_0_1.drop (Int.tmod at_1 z145).toNat).take ((b_0_1.length : Int).toNat - (Int.tmod at_1 z145).toNat))).length) c255)]) Try.type24 Try.underlying24 rfl (mp_cons Try.type3 (mp_cons Try.type22 mp_nil rfl rfl) rfl rfl) rfl (by simp [Instr.fill, Value.cells])) ?_
                        refine mixE.sk hD (hC.seta (i := 0) (ds := [.int .i64 b_0_0, .slice A254 ((((([] : List Int) ++ ((b_0_1.drop (0 : Int).toNat).take ((Int.tmod at_1 z145).toNat - (0 : Int).toNat))) ++ qF10_0_3) ++ ((b_0_1.drop (Int.tmod at_1 z145).toNat).take ((b_0_1.length : Int).toNat - (Int.tmod at_1 z145).toNat))).length) c255]) rfl Try.type24 rfl rfl rfl rfl rfl) ?_
                        rintro w259 ⟨hC, hF⟩
                        replace hD := hD.besideG hUf251 hF
                        clear hF
                        refine ⟨hD, ?_⟩
                        refine mixE.nil ?_
                        clear hS hM
                        clear hD
                        refine hK149 _ _ ?_
                        refine Wc.fresh fun E260 hE => ?_
                        have e4 : E260 4 = .pointer (some ⟨g3, 0, none⟩) := (congrFun hE 4).trans e4
                        have e8 : E260 8 = .bool false := (congrFun hE 8).trans e8
                        have e13 : E260 13 = .pointer (some ⟨g249, 0, none⟩) := (congrFun hE 13).trans rfl
                        clear hE
                        refine Wc.seq fun K261 hK261 => ?_
                        refine Wc.region (by decide +kernel) ?_
                        refine lex.val (v := .agg #[.int .i64 b_0_0, .slice Ab_0_1 b_0_1.length cb_0_1]) (ld_blk (hC.bx (i := 4) rfl) Try.isAgg24 Try.sizeOf24 e4) ?_
                        obtain ⟨y203, h263, hb⟩ := bd hb
                        refine lex.cl (⟨_, _, op_call (vs := [.agg #[.int .i64 b_0_0, .slice Ab_0_1 b_0_1.length cb_0_1]]) Try.call17 rfl rfl rfl, artin_Images_ok n hC.lt hb_0_0 (hC.rd (i := 5) rfl) h263⟩) ?_
                        rintro _ w269 ⟨A264, m265, c266, rfl, hr268, hK⟩
                        replace hC := hC.merge hK
                        clear hK
                        obtain ⟨rfl, hl270, hc271⟩ := (hC.ow (i := 0) rfl).sl_len
                        refine lex.pure (v := .tuple #[.slice A264 y203.1.length c266, .int .i64 y203.2]) (pu_move rfl) ?_
                        refine lex.pure (v := .slice A264 y203.1.length c266) (pu_extract rfl rfl) ?_
                        refine lex.pure (v := .int .i64 y203.2) (pu_extract rfl rfl) ?_
                        refine lex.pure (v := .slice A264 y203.1.length c266) (pu_assign rfl) ?_
                        refine lex.pure (v := .int .i64 y203.2) (pu_assign rfl) ?_
                        refine lex.nil ?_
                        refine hK261 _ _ ?_
                        refine Wc.seq fun K272 hK272 => ?_
                        refine Wc.region (by decide +kernel) ?_
                        refine lex.val (v := .agg #[.int .i64 b_0_0, .slice A254 ((((([] : List Int) ++ ((b_0_1.drop (0 : Int).toNat).take ((Int.tmod at_1 z145).toNat - (0 : Int).toNat))) ++ qF10_0_3) ++ ((b_0_1.drop (Int.tmod at_1 z145).toNat).take ((b_0_1.length : Int).toNat - (Int.tmod at_1 z145).toNat))).length) c255]) (ld_blk (hC.bx (i := 1) rfl) Try.isAgg24 Try.sizeOf24 e13) ?_
                        replace hC := hC.freeze (i := 2) rfl (hC.own_new (i := 2) rfl)
                        obtain ⟨y214, h274, hb⟩ := bd hb
                        refine lex.cl (⟨_, _, op_call (vs := [.agg #[.int .i64 b_0_0, .slice A254 ((((([] : List Int) ++ ((b_0_1.drop (0 : Int).toNat).take ((Int.tmod at_1 z145).toNat - (0 : Int).toNat))) ++ qF10_0_3) ++ ((b_0_1.drop (Int.tmod at_1 z145).toNat).take ((b_0_1.length : Int).toNat - (Int.tmod at_1 z145).toNat))).length) c255]]) Try.call17 rfl rfl rfl, artin_Images_ok n hC.lt hb_0_0 (hC.rd (i := 2) rfl) h274⟩) ?_
                        rintro _ w280 ⟨A275, m276, c277, rfl, hr279, hK⟩
                        replace hC := hC.merge hK
                        clear hK
                        obtain ⟨rfl, hl281, hc282⟩ := (hC.ow (i := 0) rfl).sl_len
                        refine lex.pure (v := .tuple #[.slice A275 y214.1.length c277, .int .i64 y214.2]) (pu_move rfl) ?_
                        refine lex.pure (v := .slice A275 y214.1.length c277) (pu_extract rfl rfl) ?_
                        refine lex.pure (v := .int .i64 y214.2) (pu_extract rfl rfl) ?_
                        refine lex.pure (v := .slice A275 y214.1.length c277) (pu_assign rfl) ?_
                        refine lex.pure (v := .int .i64 y214.2) (pu_assign rfl) ?_
                        refine lex.nil ?_
                        refine hK272 _ _ ?_
                        refine Wc.fresh fun E283 hE => ?_
                        have e8 : E283 8 = .bool false := (congrFun hE 8).trans e8
                        have e14 : E283 14 = .slice A264 y203.1.length c266 := (congrFun hE 14).trans rfl
                        have e15 : E283 15 = .int .i64 y203.2 := (congrFun hE 15).trans rfl
                        have e16 : E283 16 = .slice A275 y214.1.length c277 := (congrFun hE 16).trans rfl
                        have e17 : E283 17 = .int .i64 y214.2 := (congrFun hE 17).trans rfl
                        clear hE
                        refine Wc.seq fun K284 hK284 => ?_
                        refine Wc.region (by decide +kernel) ?_
                        refine lex.pure (v := .int .i64 y203.2) (pu_move e15) ?_
                        refine lex.pure (v := .bool (decide (y203.2 = 0))) (pu_eql (k := .i64) (a := y203.2) (b := 0) rfl rfl) ?_
                        refine lex.pure (v := .bool (decide (y203.2 = 0))) (pu_move rfl) ?_
                        rcases bS (decide (y203.2 = 0)) with hq285 | hq285
                        · replace hb := (cT hq285).symm.trans hb
                          refine lex.gpure (want_t rfl rfl (show _ = Value.bool (decide (y203.2 = 0)) from rfl) hq285) (v := .int .i64 y214.2) (pu_move e17) ?_
                          refine lex.gpure (want_t rfl rfl (show _ = Value.bool (decide (y203.2 = 0)) from rfl) hq285) (v := .bool (decide (y214.2 = 0))) (pu_eql (k := .i64) (a := y214.2) (b := 0) rfl rfl) ?_
                          refine lex.pure (v := .bool (decide (y214.2 = 0))) (pu_pickT (q := (decide (y203.2 = 0))) rfl hq285 rfl) ?_
                          refine lex.pure (v := .bool (decide (y214.2 = 0))) (pu_move rfl) ?_
                          rcases bS (decide (y214.2 = 0)) with hq286 | hq286
                          · replace hb := (cT hq286).symm.trans hb
                            refine lex.gpure (want_t rfl rfl (show _ = Value.bool (decide (y214.2 = 0)) from rfl) hq286) (v := .slice A264 y203.1.length c266) (pu_move e14) ?_
                            replace hC := hC.freeze (i := 1) rfl (hC.own_new (i := 1) rfl)
                            obtain ⟨y228, h288, hb⟩ := bd hb
                            refine lex.gcl (want_t rfl rfl (show _ = Value.bool (decide (y214.2 = 0)) from rfl) hq286) (⟨_, _, op_call (vs := [.slice A264 y203.1.length c266]) Try.call19 rfl rfl rfl, law35_lists_ok n hC.lt (hC.rd (i := 1) rfl) h288⟩) ?_
                            rintro _ w293 ⟨A289, m290, c291, rfl, hK⟩
                            replace hC := hC.merge hK
                            clear hK
                            obtain ⟨rfl, hl294, hc295⟩ := (hC.ow (i := 0) rfl).sl_len
                            refine lex.gpure (want_t rfl rfl (show _ = Value.bool (decide (y214.2 = 0)) from rfl) hq286) (v := .slice A275 y214.1.length c277) (pu_move e16) ?_
                            replace hC := hC.freeze (i := 1) rfl (hC.own_new (i := 1) rfl)
                            obtain ⟨y237, h297, hb⟩ := bd hb
                            refine lex.gcl (want_t rfl rfl (show _ = Value.bool (decide (y214.2 = 0)) from rfl) hq286) (⟨_, _, op_call (vs := [.slice A275 y214.1.length c277]) Try.call19 rfl rfl rfl, law35_lists_ok n hC.lt (hC.rd (i := 1) rfl) h297⟩) ?_
                            rintro _ w302 ⟨A298, m299, c300, rfl, hK⟩
                            replace hC := hC.merge hK
                            clear hK
                            obtain ⟨rfl, hl303, hc304⟩ := (hC.ow (i := 0) rfl).sl_len
                            obtain ⟨y246, h306, hb⟩ := bd hb
                            refine lex.gcl (want_t rfl rfl (show _ = Value.bool (decide (y214.2 = 0)) from rfl) hq286) (⟨_, _, op_call (vs := [.slice A289 y228.length c291, .slice A298 y237.length c300]) Try.call18 rfl rfl rfl, ref01_Lists_ok n (hC.lentLt [.slice A289 y228.length c291, .slice A298 y237.length c300]) ((hC.ow (i := 1) rfl).lend (vs := [.slice A289 y228.length c291, .slice A298 y237.length c300]) (by simp)) ((hC.ow (i := 0) rfl).lend (vs := [.slice A289 y228.length c291, .slice A298 y237.length c300]) (by simp)) h306⟩) ?_
                            rintro _ w307 ⟨rfl, hK⟩
                            replace hC := hC.mergeF hK rfl
                            clear hK
                            refine lex.pure (v := .bool y246) (pu_pickT (q := (decide (y214.2 = 0))) rfl hq286 rfl) ?_
                            refine lex.pure (v := .bool y246) (pu_assign rfl) ?_
                            refine lex.nil ?_
                            refine hK284 _ _ ?_
                            obtain rfl := Option.some.inj hb
                            refine Wc.ret ?_
                            refine hKR _ _ ?_
                            refine ⟨_, res1 Try.results4 (show RV _ _ _ (.tmp _) (.bool y246) from rfl), _, rfl, rfl, hC.sel [] (by decide)⟩
                          · replace hb := (cF hq286).symm.trans hb
                            refine lex.gskip (want_f rfl rfl (show _ = Value.bool (decide (y214.2 = 0)) from rfl) hq286) ?_
                            refine lex.gskip (want_f rfl rfl (show _ = Value.bool (decide (y214.2 = 0)) from rfl) hq286) ?_
                            refine lex.gskip (want_f rfl rfl (show _ = Value.bool (decide (y214.2 = 0)) from rfl) hq286) ?_
                            refine lex.gskip (want_f rfl rfl (show _ = Value.bool (decide (y214.2 = 0)) from rfl) hq286) ?_
                            refine lex.gskip (want_f rfl rfl (show _ = Value.bool (decide (y214.2 = 0)) from rfl) hq286) ?_
                            refine lex.pure (v := .bool false) (pu_pickF (q := (decide (y214.2 = 0))) rfl hq286 rfl) ?_
                            refine lex.pure (v := .bool false) (pu_assign rfl) ?_
                            refine lex.nil ?_
                            refine hK284 _ _ ?_
                            obtain rfl := Option.some.inj hb
                            refine Wc.ret ?_
                            refine hKR _ _ ?_
                            refine ⟨_, res1 Try.results4 (show RV _ _ _ (.tmp _) (.bool false) from rfl), _, rfl, rfl, hC.sel [] (by decide)⟩
                        · replace hb := (cF hq285).symm.trans hb
                          refine lex.gskip (want_f rfl rfl (show _ = Value.bool (decide (y203.2 = 0)) from rfl) hq285) ?_
                          refine lex.gskip (want_f rfl rfl (show _ = Value.bool (decide (y203.2 = 0)) from rfl) hq285) ?_
                          refine lex.pure (v := .bool false) (pu_pickF (q := (decide (y203.2 = 0))) rfl hq285 rfl) ?_
                          refine lex.pure (v := .bool false) (pu_move rfl) ?_
                          refine lex.gskip (want_f rfl rfl (show _ = Value.bool false from rfl) rfl) ?_
                          refine lex.gskip (want_f rfl rfl (show _ = Value.bool false from rfl) rfl) ?_
                          refine lex.gskip (want_f rfl rfl (show _ = Value.bool false from rfl) rfl) ?_
                          refine lex.gskip (want_f rfl rfl (show _ = Value.bool false from rfl) rfl) ?_
                          refine lex.gskip (want_f rfl rfl (show _ = Value.bool false from rfl) rfl) ?_
                          refine lex.pure (v := .bool false) (pu_pickF (q := false) rfl rfl rfl) ?_
                          refine lex.pure (v := .bool false) (pu_assign rfl) ?_
                          refine lex.nil ?_
                          refine hK284 _ _ ?_
                          obtain rfl := Option.some.inj hb
                          refine Wc.ret ?_
                          refine hKR _ _ ?_
                          refine ⟨_, res1 Try.results4 (show RV _ _ _ (.tmp _) (.bool false) from rfl), _, rfl, rfl, hC.sel [] (by decide)⟩
                    ·
                      skip
                      refine mixPE_chain ?_
                      refine mixE.op hM (hC.alloc (cs := [.int .i64 0, .slice none 0 0]) Try.zeroValue24 rfl) ?_
                      rintro _ w309 ⟨g308, rfl, hC, hF, hG⟩
                      have hUf310 : g308 < w151.heap.size → g308 ∈ blocks (([] : List Fact) ++ ([] : List Fact)) := fun h => absurd (Nat.lt_of_lt_of_le h (Nat.le_trans hM.size hG)) (Nat.lt_irrefl _)
                      clear hG
                      replace hM := hM.none hF
                      replace hD := hM.wide (H := ([] : List Fact))
                      refine ⟨hM, ?_⟩
                      refine mixE.nil ?_
                      refine mixPE_chain ?_
                      obtain ⟨u183, h312, hb⟩ := bd hb
                      refine mixE.op hM (hC.app (i := 1) (s := (.int .i64)) (xs := (([] : List Int) ++ ((b_0_1.drop (0 : Int).toNat).take ((Int.tmod at_1 z145).toNat - (0 : Int).toNat)))) (ys := qF10_0_3) (m := l10_0.length) rfl Try.underlying22 Try.underlying22 Try.type3 rfl rfl rfl (hC.srco (i := 6) rfl) rfl rfl (by have := lim_some h312; have hyl := (hC.ow (i := 6) rfl).sl_len.1; simp only [List.length_append] at this ⊢; rw [hyl]; first | exact this | omega) (by decide)) ?_
                      rintro _ w317 ⟨A313, c314, rfl, hl315, hc316, hC, hF, hN⟩
                      have hB := hBf175
                      replace hBf175 := hB.app hM hN
                      replace hM := hM.beside hB hF
                      clear hB
                      replace hD := hM.wide (H := ([] : List Fact))
                      refine ⟨hM, ?_⟩
                      clear hF hN
                      obtain ⟨u190, h319, hb⟩ := bd hb
                      refine mixE.op hM (hC.app (i := 1) (s := (.int .i64)) (xs := ((([] : List Int) ++ ((b_0_1.drop (0 : Int).toNat).take ((Int.tmod at_1 z145).toNat - (0 : Int).toNat))) ++ qF10_0_3)) (ys := ((b_0_1.drop (Int.tmod at_1 z145).toNat).take ((b_0_1.length : Int).toNat - (Int.tmod at_1 z145).toNat))) (m := (((b_0_1.drop (Int.tmod at_1 z145).toNat).take ((b_0_1.length : Int).toNat - (Int.tmod at_1 z145).toNat)).length)) rfl Try.underlying22 Try.underlying22 Try.type3 rfl rfl rfl (hC.srcr (i := 2) rfl) rfl rfl (by have := lim_some h319; simp at this ⊢ <;> omega) (by decide)) ?_
                      rintro _ w324 ⟨A320, c321, rfl, hl322, hc323, hC, hF, hN⟩
                      have hB := hBf175
                      replace hBf175 := hB.app hM hN
                      replace hM := hM.beside hB hF
                      clear hB
                      replace hD := hM.wide (H := ([] : List Fact))
                      refine ⟨hM, ?_⟩
                      clear hF hN
                      refine mixE.pure (v := .agg #[.int .i64 b_0_0, .slice A320 ((((([] : List Int) ++ ((b_0_1.drop (0 : Int).toNat).take ((Int.tmod at_1 z145).toNat - (0 : Int).toNat))) ++ qF10_0_3) ++ ((b_0_1.drop (Int.tmod at_1 z145).toNat).take ((b_0_1.length : Int).toNat - (Int.tmod at_1 z145).toNat))).length) c321]) (pu_builds (places := [(0, 1), (1, 1)]) (pv := [(0, .int .i64 b_0_0), (1, .slice A320 ((((([] : List Int) ++ ((b_0_1.drop (0 : Int).toNat).take ((Int.tmod at_1 z145).toNat - (0 : Int).toNat))) ++ qF10_0_3) ++ ((b_0_1.drop (Int.tmod at_1 z145).toNat).take ((b_0_1.length : Int).toNat - (Int.tmod at_1 z145).toNat))).length) c321)]) Try.type24 Try.underlying24 rfl (mp_cons Try.type3 (mp_cons Try.type22 mp_nil rfl rfl) rfl rfl) rfl (by simp [Instr.fill, Value.cells])) ?_
                      refine mixE.sk hD (hC.seta (i := 0) (ds := [.int .i64 b_0_0, .slice A320 ((((([] : List Int) ++ ((b_0_1.drop (0 : Int).toNat).take ((Int.tmod at_1 z145).toNat - (0 : Int).toNat))) ++ qF10_0_3) ++ ((b_0_1.drop (Int.tmod at_1 z145).toNat).take ((b_0_1.length : Int).toNat - (Int.tmod at_1 z145).toNat))).length) c321]) rfl Try.type24 rfl rfl rfl rfl rfl) ?_
                      rintro w325 ⟨hC, hF⟩
                      replace hD := hD.besideG hUf310 hF
                      clear hF
                      refine ⟨hD, ?_⟩
                      refine mixE.nil ?_
                      clear hS hM
                      clear hD
                      refine hK149 _ _ ?_
                      refine Wc.fresh fun E326 hE => ?_
                      have e4 : E326 4 = .pointer (some ⟨g3, 0, none⟩) := (congrFun hE 4).trans e4
                      have e8 : E326 8 = .bool false := (congrFun hE 8).trans e8
                      have e13 : E326 13 = .pointer (some ⟨g308, 0, none⟩) := (congrFun hE 13).trans rfl
                      clear hE
                      refine Wc.seq fun K327 hK327 => ?_
                      refine Wc.region (by decide +kernel) ?_
                      refine lex.val (v := .agg #[.int .i64 b_0_0, .slice Ab_0_1 b_0_1.length cb_0_1]) (ld_blk (hC.bx (i := 4) rfl) Try.isAgg24 Try.sizeOf24 e4) ?_
                      obtain ⟨y203, h329, hb⟩ := bd hb
                      refine lex.cl (⟨_, _, op_call (vs := [.agg #[.int .i64 b_0_0, .slice Ab_0_1 b_0_1.length cb_0_1]]) Try.call17 rfl rfl rfl, artin_Images_ok n hC.lt hb_0_0 (hC.rd (i := 5) rfl) h329⟩) ?_
                      rintro _ w335 ⟨A330, m331, c332, rfl, hr334, hK⟩
                      replace hC := hC.merge hK
                      clear hK
                      obtain ⟨rfl, hl336, hc337⟩ := (hC.ow (i := 0) rfl).sl_len
                      refine lex.pure (v := .tuple #[.slice A330 y203.1.length c332, .int .i64 y203.2]) (pu_move rfl) ?_
                      refine lex.pure (v := .slice A330 y203.1.length c332) (pu_extract rfl rfl) ?_
                      refine lex.pure (v := .int .i64 y203.2) (pu_extract rfl rfl) ?_
                      refine lex.pure (v := .slice A330 y203.1.length c332) (pu_assign rfl) ?_
                      refine lex.pure (v := .int .i64 y203.2) (pu_assign rfl) ?_
                      refine lex.nil ?_
                      refine hK327 _ _ ?_
                      refine Wc.seq fun K338 hK338 => ?_
                      refine Wc.region (by decide +kernel) ?_
                      refine lex.val (v := .agg #[.int .i64 b_0_0, .slice A320 ((((([] : List Int) ++ ((b_0_1.drop (0 : Int).toNat).take ((Int.tmod at_1 z145).toNat - (0 : Int).toNat))) ++ qF10_0_3) ++ ((b_0_1.drop (Int.tmod at_1 z145).toNat).take ((b_0_1.length : Int).toNat - (Int.tmod at_1 z145).toNat))).length) c321]) (ld_blk (hC.bx (i := 1) rfl) Try.isAgg24 Try.sizeOf24 e13) ?_
                      replace hC := hC.freeze (i := 2) rfl (hC.own_new (i := 2) rfl)
                      obtain ⟨y214, h340, hb⟩ := bd hb
                      refine lex.cl (⟨_, _, op_call (vs := [.agg #[.int .i64 b_0_0, .slice A320 ((((([] : List Int) ++ ((b_0_1.drop (0 : Int).toNat).take ((Int.tmod at_1 z145).toNat - (0 : Int).toNat))) ++ qF10_0_3) ++ ((b_0_1.drop (Int.tmod at_1 z145).toNat).take ((b_0_1.length : Int).toNat - (Int.tmod at_1 z145).toNat))).length) c321]]) Try.call17 rfl rfl rfl, artin_Images_ok n hC.lt hb_0_0 (hC.rd (i := 2) rfl) h340⟩) ?_
                      rintro _ w346 ⟨A341, m342, c343, rfl, hr345, hK⟩
                      replace hC := hC.merge hK
                      clear hK
                      obtain ⟨rfl, hl347, hc348⟩ := (hC.ow (i := 0) rfl).sl_len
                      refine lex.pure (v := .tuple #[.slice A341 y214.1.length c343, .int .i64 y214.2]) (pu_move rfl) ?_
                      refine lex.pure (v := .slice A341 y214.1.length c343) (pu_extract rfl rfl) ?_
                      refine lex.pure (v := .int .i64 y214.2) (pu_extract rfl rfl) ?_
                      refine lex.pure (v := .slice A341 y214.1.length c343) (pu_assign rfl) ?_
                      refine lex.pure (v := .int .i64 y214.2) (pu_assign rfl) ?_
                      refine lex.nil ?_
                      refine hK338 _ _ ?_
                      refine Wc.fresh fun E349 hE => ?_
                      have e8 : E349 8 = .bool false := (congrFun hE 8).trans e8
                      have e14 : E349 14 = .slice A330 y203.1.length c332 := (congrFun hE 14).trans rfl
                      have e15 : E349 15 = .int .i64 y203.2 := (congrFun hE 15).trans rfl
                      have e16 : E349 16 = .slice A341 y214.1.length c343 := (congrFun hE 16).trans rfl
                      have e17 : E349 17 = .int .i64 y214.2 := (congrFun hE 17).trans rfl
                      clear hE
                      refine Wc.seq fun K350 hK350 => ?_
                      refine Wc.region (by decide +kernel) ?_
                      refine lex.pure (v := .int .i64 y203.2) (pu_move e15) ?_
                      refine lex.pure (v := .bool (decide (y203.2 = 0))) (pu_eql (k := .i64) (a := y203.2) (b := 0) rfl rfl) ?_
                      refine lex.pure (v := .bool (decide (y203.2 = 0))) (pu_move rfl) ?_
                      rcases bS (decide (y203.2 = 0)) with hq351 | hq351
                      · replace hb := (cT hq351).symm.trans hb
                        refine lex.gpure (want_t rfl rfl (show _ = Value.bool (decide (y203.2 = 0)) from rfl) hq351) (v := .int .i64 y214.2) (pu_move e17) ?_
                        refine lex.gpure (want_t rfl rfl (show _ = Value.bool (decide (y203.2 = 0)) from rfl) hq351) (v := .bool (decide (y214.2 = 0))) (pu_eql (k := .i64) (a := y214.2) (b := 0) rfl rfl) ?_
                        refine lex.pure (v := .bool (decide (y214.2 = 0))) (pu_pickT (q := (decide (y203.2 = 0))) rfl hq351 rfl) ?_
                        refine lex.pure (v := .bool (decide (y214.2 = 0))) (pu_move rfl) ?_
                        rcases bS (decide (y214.2 = 0)) with hq352 | hq352
                        · replace hb := (cT hq352).symm.trans hb
                          refine lex.gpure (want_t rfl rfl (show _ = Value.bool (decide (y214.2 = 0)) from rfl) hq352) (v := .slice A330 y203.1.length c332) (pu_move e14) ?_
                          replace hC := hC.freeze (i := 1) rfl (hC.own_new (i := 1) rfl)
                          obtain ⟨y228, h354, hb⟩ := bd hb
                          refine lex.gcl (want_t rfl rfl (show _ = Value.bool (decide (y214.2 = 0)) from rfl) hq352) (⟨_, _, op_call (vs := [.slice A330 y203.1.length c332]) Try.call19 rfl rfl rfl, law35_lists_ok n hC.lt (hC.rd (i := 1) rfl) h354⟩) ?_
                          rintro _ w359 ⟨A355, m356, c357, rfl, hK⟩
                          replace hC := hC.merge hK
                          clear hK
                          obtain ⟨rfl, hl360, hc361⟩ := (hC.ow (i := 0) rfl).sl_len
                          refine lex.gpure (want_t rfl rfl (show _ = Value.bool (decide (y214.2 = 0)) from rfl) hq352) (v := .slice A341 y214.1.length c343) (pu_move e16) ?_
                          replace hC := hC.freeze (i := 1) rfl (hC.own_new (i := 1) rfl)
                          obtain ⟨y237, h363, hb⟩ := bd hb
                          refine lex.gcl (want_t rfl rfl (show _ = Value.bool (decide (y214.2 = 0)) from rfl) hq352) (⟨_, _, op_call (vs := [.slice A341 y214.1.length c343]) Try.call19 rfl rfl rfl, law35_lists_ok n hC.lt (hC.rd (i := 1) rfl) h363⟩) ?_
                          rintro _ w368 ⟨A364, m365, c366, rfl, hK⟩
                          replace hC := hC.merge hK
                          clear hK
                          obtain ⟨rfl, hl369, hc370⟩ := (hC.ow (i := 0) rfl).sl_len
                          obtain ⟨y246, h372, hb⟩ := bd hb
                          refine lex.gcl (want_t rfl rfl (show _ = Value.bool (decide (y214.2 = 0)) from rfl) hq352) (⟨_, _, op_call (vs := [.slice A355 y228.length c357, .slice A364 y237.length c366]) Try.call18 rfl rfl rfl, ref01_Lists_ok n (hC.lentLt [.slice A355 y228.length c357, .slice A364 y237.length c366]) ((hC.ow (i := 1) rfl).lend (vs := [.slice A355 y228.length c357, .slice A364 y237.length c366]) (by simp)) ((hC.ow (i := 0) rfl).lend (vs := [.slice A355 y228.length c357, .slice A364 y237.length c366]) (by simp)) h372⟩) ?_
                          rintro _ w373 ⟨rfl, hK⟩
                          replace hC := hC.mergeF hK rfl
                          clear hK
                          refine lex.pure (v := .bool y246) (pu_pickT (q := (decide (y214.2 = 0))) rfl hq352 rfl) ?_
                          refine lex.pure (v := .bool y246) (pu_assign rfl) ?_
                          refine lex.nil ?_
                          refine hK350 _ _ ?_
                          obtain rfl := Option.some.inj hb
                          refine Wc.ret ?_
                          refine hKR _ _ ?_
                          refine ⟨_, res1 Try.results4 (show RV _ _ _ (.tmp _) (.bool y246) from rfl), _, rfl, rfl, hC.sel [] (by decide)⟩
                        · replace hb := (cF hq352).symm.trans hb
                          refine lex.gskip (want_f rfl rfl (show _ = Value.bool (decide (y214.2 = 0)) from rfl) hq352) ?_
                          refine lex.gskip (want_f rfl rfl (show _ = Value.bool (decide (y214.2 = 0)) from rfl) hq352) ?_
                          refine lex.gskip (want_f rfl rfl (show _ = Value.bool (decide (y214.2 = 0)) from rfl) hq352) ?_
                          refine lex.gskip (want_f rfl rfl (show _ = Value.bool (decide (y214.2 = 0)) from rfl) hq352) ?_
                          refine lex.gskip (want_f rfl rfl (show _ = Value.bool (decide (y214.2 = 0)) from rfl) hq352) ?_
                          refine lex.pure (v := .bool false) (pu_pickF (q := (decide (y214.2 = 0))) rfl hq352 rfl) ?_
                          refine lex.pure (v := .bool false) (pu_assign rfl) ?_
                          refine lex.nil ?_
                          refine hK350 _ _ ?_
                          obtain rfl := Option.some.inj hb
                          refine Wc.ret ?_
                          refine hKR _ _ ?_
                          refine ⟨_, res1 Try.results4 (show RV _ _ _ (.tmp _) (.bool false) from rfl), _, rfl, rfl, hC.sel [] (by decide)⟩
                      · replace hb := (cF hq351).symm.trans hb
                        refine lex.gskip (want_f rfl rfl (show _ = Value.bool (decide (y203.2 = 0)) from rfl) hq351) ?_
                        refine lex.gskip (want_f rfl rfl (show _ = Value.bool (decide (y203.2 = 0)) from rfl) hq351) ?_
                        refine lex.pure (v := .bool false) (pu_pickF (q := (decide (y203.2 = 0))) rfl hq351 rfl) ?_
                        refine lex.pure (v := .bool false) (pu_move rfl) ?_
                        refine lex.gskip (want_f rfl rfl (show _ = Value.bool false from rfl) rfl) ?_
                        refine lex.gskip (want_f rfl rfl (show _ = Value.bool false from rfl) rfl) ?_
                        refine lex.gskip (want_f rfl rfl (show _ = Value.bool false from rfl) rfl) ?_
                        refine lex.gskip (want_f rfl rfl (show _ = Value.bool false from rfl) rfl) ?_
                        refine lex.gskip (want_f rfl rfl (show _ = Value.bool false from rfl) rfl) ?_
                        refine lex.pure (v := .bool false) (pu_pickF (q := false) rfl rfl rfl) ?_
                        refine lex.pure (v := .bool false) (pu_assign rfl) ?_
                        refine lex.nil ?_
                        refine hK350 _ _ ?_
                        obtain rfl := Option.some.inj hb
                        refine Wc.ret ?_
                        refine hKR _ _ ?_
                        refine ⟨_, res1 Try.results4 (show RV _ _ _ (.tmp _) (.bool false) from rfl), _, rfl, rfl, hC.sel [] (by decide)⟩
                  ·
                    skip
                    refine mixPE_chain ?_
                    refine mixE.op hM (hC.alloc (cs := [.int .i64 0, .slice none 0 0]) Try.zeroValue24 rfl) ?_
                    rintro _ w375 ⟨g374, rfl, hC, hF, hG⟩
                    have hUf376 : g374 < w151.heap.size → g374 ∈ blocks (([] : List Fact) ++ ([] : List Fact)) := fun h => absurd (Nat.lt_of_lt_of_le h (Nat.le_trans hM.size hG)) (Nat.lt_irrefl _)
                    clear hG
                    replace hM := hM.none hF
                    replace hD := hM.wide (H := ([] : List Fact))
                    refine ⟨hM, ?_⟩
                    refine mixE.nil ?_
                    refine mixPE_chain ?_
                    obtain ⟨u176, h378, hb⟩ := bd hb
                    refine mixE.op hM (hC.app (i := 1) (s := (.int .i64)) (xs := ([] : List Int)) (ys := ((b_0_1.drop (0 : Int).toNat).take ((Int.tmod at_1 z145).toNat - (0 : Int).toNat))) (m := (((b_0_1.drop (0 : Int).toNat).take ((Int.tmod at_1 z145).toNat - (0 : Int).toNat)).length)) rfl Try.underlying22 Try.underlying22 Try.type3 rfl rfl rfl (hC.srcr (i := 3) rfl) rfl rfl (by have := lim_some h378; simp at this ⊢ <;> omega) (by decide)) ?_
                    rintro _ w383 ⟨A379, c380, rfl, hl381, hc382, hC, hF, hN⟩
                    have hB := hBf175
                    replace hBf175 := hB.app hM hN
                    replace hM := hM.beside hB hF
                    clear hB
                    replace hD := hM.wide (H := ([] : List Fact))
                    refine ⟨hM, ?_⟩
                    clear hF hN
                    obtain ⟨u183, h385, hb⟩ := bd hb
                    refine mixE.op hM (hC.app (i := 1) (s := (.int .i64)) (xs := (([] : List Int) ++ ((b_0_1.drop (0 : Int).toNat).take ((Int.tmod at_1 z145).toNat - (0 : Int).toNat)))) (ys := qF10_0_3) (m := l10_0.length) rfl Try.underlying22 Try.underlying22 Try.type3 rfl rfl rfl (hC.srco (i := 6) rfl) rfl rfl (by have := lim_some h385; have hyl := (hC.ow (i := 6) rfl).sl_len.1; simp only [List.length_append] at this ⊢; rw [hyl]; first | exact this | omega) (by decide)) ?_
                    rintro _ w390 ⟨A386, c387, rfl, hl388, hc389, hC, hF, hN⟩
                    have hB := hBf175
                    replace hBf175 := hB.app hM hN
                    replace hM := hM.beside hB hF
                    clear hB
                    replace hD := hM.wide (H := ([] : List Fact))
                    refine ⟨hM, ?_⟩
                    clear hF hN
                    obtain ⟨u190, h392, hb⟩ := bd hb
                    refine mixE.op hM (hC.app (i := 1) (s := (.int .i64)) (xs := ((([] : List Int) ++ ((b_0_1.drop (0 : Int).toNat).take ((Int.tmod at_1 z145).toNat - (0 : Int).toNat))) ++ qF10_0_3)) (ys := ((b_0_1.drop (Int.tmod at_1 z145).toNat).take ((b_0_1.length : Int).toNat - (Int.tmod at_1 z145).toNat))) (m := (((b_0_1.drop (Int.tmod at_1 z145).toNat).take ((b_0_1.length : Int).toNat - (Int.tmod at_1 z145).toNat)).length)) rfl Try.underlying22 Try.underlying22 Try.type3 rfl rfl rfl (hC.srcr (i := 2) rfl) rfl rfl (by have := lim_some h392; simp at this ⊢ <;> omega) (by decide)) ?_
                    rintro _ w397 ⟨A393, c394, rfl, hl395, hc396, hC, hF, hN⟩
                    have hB := hBf175
                    replace hBf175 := hB.app hM hN
                    replace hM := hM.beside hB hF
                    clear hB
                    replace hD := hM.wide (H := ([] : List Fact))
                    refine ⟨hM, ?_⟩
                    clear hF hN
                    refine mixE.pure (v := .agg #[.int .i64 b_0_0, .slice A393 ((((([] : List Int) ++ ((b_0_1.drop (0 : Int).toNat).take ((Int.tmod at_1 z145).toNat - (0 : Int).toNat))) ++ qF10_0_3) ++ ((b_0_1.drop (Int.tmod at_1 z145).toNat).take ((b_0_1.length : Int).toNat - (Int.tmod at_1 z145).toNat))).length) c394]) (pu_builds (places := [(0, 1), (1, 1)]) (pv := [(0, .int .i64 b_0_0), (1, .slice A393 ((((([] : List Int) ++ ((b_0_1.drop (0 : Int).toNat).take ((Int.tmod at_1 z145).toNat - (0 : Int).toNat))) ++ qF10_0_3) ++ ((b_0_1.drop (Int.tmod at_1 z145).toNat).take ((b_0_1.length : Int).toNat - (Int.tmod at_1 z145).toNat))).length) c394)]) Try.type24 Try.underlying24 rfl (mp_cons Try.type3 (mp_cons Try.type22 mp_nil rfl rfl) rfl rfl) rfl (by simp [Instr.fill, Value.cells])) ?_
                    refine mixE.sk hD (hC.seta (i := 0) (ds := [.int .i64 b_0_0, .slice A393 ((((([] : List Int) ++ ((b_0_1.drop (0 : Int).toNat).take ((Int.tmod at_1 z145).toNat - (0 : Int).toNat))) ++ qF10_0_3) ++ ((b_0_1.drop (Int.tmod at_1 z145).toNat).take ((b_0_1.length : Int).toNat - (Int.tmod at_1 z145).toNat))).length) c394]) rfl Try.type24 rfl rfl rfl rfl rfl) ?_
                    rintro w398 ⟨hC, hF⟩
                    replace hD := hD.besideG hUf376 hF
                    clear hF
                    refine ⟨hD, ?_⟩
                    refine mixE.nil ?_
                    clear hS hM
                    clear hD
                    refine hK149 _ _ ?_
                    refine Wc.fresh fun E399 hE => ?_
                    have e4 : E399 4 = .pointer (some ⟨g3, 0, none⟩) := (congrFun hE 4).trans e4
                    have e8 : E399 8 = .bool false := (congrFun hE 8).trans e8
                    have e13 : E399 13 = .pointer (some ⟨g374, 0, none⟩) := (congrFun hE 13).trans rfl
                    clear hE
                    refine Wc.seq fun K400 hK400 => ?_
                    refine Wc.region (by decide +kernel) ?_
                    refine lex.val (v := .agg #[.int .i64 b_0_0, .slice Ab_0_1 b_0_1.length cb_0_1]) (ld_blk (hC.bx (i := 4) rfl) Try.isAgg24 Try.sizeOf24 e4) ?_
                    obtain ⟨y203, h402, hb⟩ := bd hb
                    refine lex.cl (⟨_, _, op_call (vs := [.agg #[.int .i64 b_0_0, .slice Ab_0_1 b_0_1.length cb_0_1]]) Try.call17 rfl rfl rfl, artin_Images_ok n hC.lt hb_0_0 (hC.rd (i := 5) rfl) h402⟩) ?_
                    rintro _ w408 ⟨A403, m404, c405, rfl, hr407, hK⟩
                    replace hC := hC.merge hK
                    clear hK
                    obtain ⟨rfl, hl409, hc410⟩ := (hC.ow (i := 0) rfl).sl_len
                    refine lex.pure (v := .tuple #[.slice A403 y203.1.length c405, .int .i64 y203.2]) (pu_move rfl) ?_
                    refine lex.pure (v := .slice A403 y203.1.length c405) (pu_extract rfl rfl) ?_
                    refine lex.pure (v := .int .i64 y203.2) (pu_extract rfl rfl) ?_
                    refine lex.pure (v := .slice A403 y203.1.length c405) (pu_assign rfl) ?_
                    refine lex.pure (v := .int .i64 y203.2) (pu_assign rfl) ?_
                    refine lex.nil ?_
                    refine hK400 _ _ ?_
                    refine Wc.seq fun K411 hK411 => ?_
                    refine Wc.region (by decide +kernel) ?_
                    refine lex.val (v := .agg #[.int .i64 b_0_0, .slice A393 ((((([] : List Int) ++ ((b_0_1.drop (0 : Int).toNat).take ((Int.tmod at_1 z145).toNat - (0 : Int).toNat))) ++ qF10_0_3) ++ ((b_0_1.drop (Int.tmod at_1 z145).toNat).take ((b_0_1.length : Int).toNat - (Int.tmod at_1 z145).toNat))).length) c394]) (ld_blk (hC.bx (i := 1) rfl) Try.isAgg24 Try.sizeOf24 e13) ?_
                    replace hC := hC.freeze (i := 2) rfl (hC.own_new (i := 2) rfl)
                    obtain ⟨y214, h413, hb⟩ := bd hb
                    refine lex.cl (⟨_, _, op_call (vs := [.agg #[.int .i64 b_0_0, .slice A393 ((((([] : List Int) ++ ((b_0_1.drop (0 : Int).toNat).take ((Int.tmod at_1 z145).toNat - (0 : Int).toNat))) ++ qF10_0_3) ++ ((b_0_1.drop (Int.tmod at_1 z145).toNat).take ((b_0_1.length : Int).toNat - (Int.tmod at_1 z145).toNat))).length) c394]]) Try.call17 rfl rfl rfl, artin_Images_ok n hC.lt hb_0_0 (hC.rd (i := 2) rfl) h413⟩) ?_
                    rintro _ w419 ⟨A414, m415, c416, rfl, hr418, hK⟩
                    replace hC := hC.merge hK
                    clear hK
                    obtain ⟨rfl, hl420, hc421⟩ := (hC.ow (i := 0) rfl).sl_len
                    refine lex.pure (v := .tuple #[.slice A414 y214.1.length c416, .int .i64 y214.2]) (pu_move rfl) ?_
                    refine lex.pure (v := .slice A414 y214.1.length c416) (pu_extract rfl rfl) ?_
                    refine lex.pure (v := .int .i64 y214.2) (pu_extract rfl rfl) ?_
                    refine lex.pure (v := .slice A414 y214.1.length c416) (pu_assign rfl) ?_
                    refine lex.pure (v := .int .i64 y214.2) (pu_assign rfl) ?_
                    refine lex.nil ?_
                    refine hK411 _ _ ?_
                    refine Wc.fresh fun E422 hE => ?_
                    have e8 : E422 8 = .bool false := (congrFun hE 8).trans e8
                    have e14 : E422 14 = .slice A403 y203.1.length c405 := (congrFun hE 14).trans rfl
                    have e15 : E422 15 = .int .i64 y203.2 := (congrFun hE 15).trans rfl
                    have e16 : E422 16 = .slice A414 y214.1.length c416 := (congrFun hE 16).trans rfl
                    have e17 : E422 17 = .int .i64 y214.2 := (congrFun hE 17).trans rfl
                    clear hE
                    refine Wc.seq fun K423 hK423 => ?_
                    refine Wc.region (by decide +kernel) ?_
                    refine lex.pure (v := .int .i64 y203.2) (pu_move e15) ?_
                    refine lex.pure (v := .bool (decide (y203.2 = 0))) (pu_eql (k := .i64) (a := y203.2) (b := 0) rfl rfl) ?_
                    refine lex.pure (v := .bool (decide (y203.2 = 0))) (pu_move rfl) ?_
                    rcases bS (decide (y203.2 = 0)) with hq424 | hq424
                    · replace hb := (cT hq424).symm.trans hb
                      refine lex.gpure (want_t rfl rfl (show _ = Value.bool (decide (y203.2 = 0)) from rfl) hq424) (v := .int .i64 y214.2) (pu_move e17) ?_
                      refine lex.gpure (want_t rfl rfl (show _ = Value.bool (decide (y203.2 = 0)) from rfl) hq424) (v := .bool (decide (y214.2 = 0))) (pu_eql (k := .i64) (a := y214.2) (b := 0) rfl rfl) ?_
                      refine lex.pure (v := .bool (decide (y214.2 = 0))) (pu_pickT (q := (decide (y203.2 = 0))) rfl hq424 rfl) ?_
                      refine lex.pure (v := .bool (decide (y214.2 = 0))) (pu_move rfl) ?_
                      rcases bS (decide (y214.2 = 0)) with hq425 | hq425
                      · replace hb := (cT hq425).symm.trans hb
                        refine lex.gpure (want_t rfl rfl (show _ = Value.bool (decide (y214.2 = 0)) from rfl) hq425) (v := .slice A403 y203.1.length c405) (pu_move e14) ?_
                        replace hC := hC.freeze (i := 1) rfl (hC.own_new (i := 1) rfl)
                        obtain ⟨y228, h427, hb⟩ := bd hb
                        refine lex.gcl (want_t rfl rfl (show _ = Value.bool (decide (y214.2 = 0)) from rfl) hq425) (⟨_, _, op_call (vs := [.slice A403 y203.1.length c405]) Try.call19 rfl rfl rfl, law35_lists_ok n hC.lt (hC.rd (i := 1) rfl) h427⟩) ?_
                        rintro _ w432 ⟨A428, m429, c430, rfl, hK⟩
                        replace hC := hC.merge hK
                        clear hK
                        obtain ⟨rfl, hl433, hc434⟩ := (hC.ow (i := 0) rfl).sl_len
                        refine lex.gpure (want_t rfl rfl (show _ = Value.bool (decide (y214.2 = 0)) from rfl) hq425) (v := .slice A414 y214.1.length c416) (pu_move e16) ?_
                        replace hC := hC.freeze (i := 1) rfl (hC.own_new (i := 1) rfl)
                        obtain ⟨y237, h436, hb⟩ := bd hb
                        refine lex.gcl (want_t rfl rfl (show _ = Value.bool (decide (y214.2 = 0)) from rfl) hq425) (⟨_, _, op_call (vs := [.slice A414 y214.1.length c416]) Try.call19 rfl rfl rfl, law35_lists_ok n hC.lt (hC.rd (i := 1) rfl) h436⟩) ?_
                        rintro _ w441 ⟨A437, m438, c439, rfl, hK⟩
                        replace hC := hC.merge hK
                        clear hK
                        obtain ⟨rfl, hl442, hc443⟩ := (hC.ow (i := 0) rfl).sl_len
                        obtain ⟨y246, h445, hb⟩ := bd hb
                        refine lex.gcl (want_t rfl rfl (show _ = Value.bool (decide (y214.2 = 0)) from rfl) hq425) (⟨_, _, op_call (vs := [.slice A428 y228.length c430, .slice A437 y237.length c439]) Try.call18 rfl rfl rfl, ref01_Lists_ok n (hC.lentLt [.slice A428 y228.length c430, .slice A437 y237.length c439]) ((hC.ow (i := 1) rfl).lend (vs := [.slice A428 y228.length c430, .slice A437 y237.length c439]) (by simp)) ((hC.ow (i := 0) rfl).lend (vs := [.slice A428 y228.length c430, .slice A437 y237.length c439]) (by simp)) h445⟩) ?_
                        rintro _ w446 ⟨rfl, hK⟩
                        replace hC := hC.mergeF hK rfl
                        clear hK
                        refine lex.pure (v := .bool y246) (pu_pickT (q := (decide (y214.2 = 0))) rfl hq425 rfl) ?_
                        refine lex.pure (v := .bool y246) (pu_assign rfl) ?_
                        refine lex.nil ?_
                        refine hK423 _ _ ?_
                        obtain rfl := Option.some.inj hb
                        refine Wc.ret ?_
                        refine hKR _ _ ?_
                        refine ⟨_, res1 Try.results4 (show RV _ _ _ (.tmp _) (.bool y246) from rfl), _, rfl, rfl, hC.sel [] (by decide)⟩
                      · replace hb := (cF hq425).symm.trans hb
                        refine lex.gskip (want_f rfl rfl (show _ = Value.bool (decide (y214.2 = 0)) from rfl) hq425) ?_
                        refine lex.gskip (want_f rfl rfl (show _ = Value.bool (decide (y214.2 = 0)) from rfl) hq425) ?_
                        refine lex.gskip (want_f rfl rfl (show _ = Value.bool (decide (y214.2 = 0)) from rfl) hq425) ?_
                        refine lex.gskip (want_f rfl rfl (show _ = Value.bool (decide (y214.2 = 0)) from rfl) hq425) ?_
                        refine lex.gskip (want_f rfl rfl (show _ = Value.bool (decide (y214.2 = 0)) from rfl) hq425) ?_
                        refine lex.pure (v := .bool false) (pu_pickF (q := (decide (y214.2 = 0))) rfl hq425 rfl) ?_
                        refine lex.pure (v := .bool false) (pu_assign rfl) ?_
                        refine lex.nil ?_
                        refine hK423 _ _ ?_
                        obtain rfl := Option.some.inj hb
                        refine Wc.ret ?_
                        refine hKR _ _ ?_
                        refine ⟨_, res1 Try.results4 (show RV _ _ _ (.tmp _) (.bool false) from rfl), _, rfl, rfl, hC.sel [] (by decide)⟩
                    · replace hb := (cF hq424).symm.trans hb
                      refine lex.gskip (want_f rfl rfl (show _ = Value.bool (decide (y203.2 = 0)) from rfl) hq424) ?_
                      refine lex.gskip (want_f rfl rfl (show _ = Value.bool (decide (y203.2 = 0)) from rfl) hq424) ?_
                      refine lex.pure (v := .bool false) (pu_pickF (q := (decide (y203.2 = 0))) rfl hq424 rfl) ?_
                      refine lex.pure (v := .bool false) (pu_move rfl) ?_
                      refine lex.gskip (want_f rfl rfl (show _ = Value.bool false from rfl) rfl) ?_
                      refine lex.gskip (want_f rfl rfl (show _ = Value.bool false from rfl) rfl) ?_
                      refine lex.gskip (want_f rfl rfl (show _ = Value.bool false from rfl) rfl) ?_
                      refine lex.gskip (want_f rfl rfl (show _ = Value.bool false from rfl) rfl) ?_
                      refine lex.gskip (want_f rfl rfl (show _ = Value.bool false from rfl) rfl) ?_
                      refine lex.pure (v := .bool false) (pu_pickF (q := false) rfl rfl rfl) ?_
                      refine lex.pure (v := .bool false) (pu_assign rfl) ?_
                      refine lex.nil ?_
                      refine hK423 _ _ ?_
                      obtain rfl := Option.some.inj hb
                      refine Wc.ret ?_
                      refine hKR _ _ ?_
                      refine ⟨_, res1 Try.results4 (show RV _ _ _ (.tmp _) (.bool false) from rfl), _, rfl, rfl, hC.sel [] (by decide)⟩
                ·
                  skip
                  refine mixPE_chain ?_
                  refine mixE.op hM (hC.alloc (cs := [.int .i64 0, .slice none 0 0]) Try.zeroValue24 rfl) ?_
                  rintro _ w448 ⟨g447, rfl, hC, hF, hG⟩
                  have hUf449 : g447 < w151.heap.size → g447 ∈ blocks (([] : List Fact) ++ ([] : List Fact)) := fun h => absurd (Nat.lt_of_lt_of_le h (Nat.le_trans hM.size hG)) (Nat.lt_irrefl _)
                  clear hG
                  replace hM := hM.none hF
                  replace hD := hM.wide (H := ([] : List Fact))
                  refine ⟨hM, ?_⟩
                  refine mixE.nil ?_
                  refine mixPE_chain ?_
                  refine mixE.op hM (hC.lit (s := (.int .i64)) (vs := []) (xs := []) Try.underlying22 Try.type3 rfl rfl (Nat.le_of_ble_eq_true rfl) rfl rfl (by simp [Value.cells, Sh.n]) rfl (show Elems _ _ (.int .i64) ([]) ([] : List Int) from Elems.nil _ _ _)) ?_
                  rintro _ w454 ⟨A450, c451, rfl, hl452, hc453, hC, hF, hN⟩
                  have hBf455 := Beside.new hM hN
                  have hUf455 := Beside.new (hM.wide (H := ([] : List Fact))) hN
                  replace hM := hM.none hF
                  replace hD := hM.wide (H := ([] : List Fact))
                  refine ⟨hM, ?_⟩
                  clear hF hN
                  obtain ⟨u176, h457, hb⟩ := bd hb
                  refine mixE.op hM (hC.app (i := 0) (s := (.int .i64)) (xs := ([] : List Int)) (ys := ((b_0_1.drop (0 : Int).toNat).take ((Int.tmod at_1 z145).toNat - (0 : Int).toNat))) (m := (((b_0_1.drop (0 : Int).toNat).take ((Int.tmod at_1 z145).toNat - (0 : Int).toNat)).length)) rfl Try.underlying22 Try.underlying22 Try.type3 rfl rfl rfl (hC.srcr (i := 3) rfl) rfl rfl (by have := lim_some h457; simp at this ⊢ <;> omega) (by decide)) ?_
                  rintro _ w462 ⟨A458, c459, rfl, hl460, hc461, hC, hF, hN⟩
                  have hB := hBf455
                  replace hBf455 := hB.app hM hN
                  replace hM := hM.beside hB hF
                  clear hB
                  replace hD := hM.wide (H := ([] : List Fact))
                  refine ⟨hM, ?_⟩
                  clear hF hN
                  obtain ⟨u183, h464, hb⟩ := bd hb
                  refine mixE.op hM (hC.app (i := 0) (s := (.int .i64)) (xs := (([] : List Int) ++ ((b_0_1.drop (0 : Int).toNat).take ((Int.tmod at_1 z145).toNat - (0 : Int).toNat)))) (ys := qF10_0_3) (m := l10_0.length) rfl Try.underlying22 Try.underlying22 Try.type3 rfl rfl rfl (hC.srco (i := 6) rfl) rfl rfl (by have := lim_some h464; have hyl := (hC.ow (i := 6) rfl).sl_len.1; simp only [List.length_append] at this ⊢; rw [hyl]; first | exact this | omega) (by decide)) ?_
                  rintro _ w469 ⟨A465, c466, rfl, hl467, hc468, hC, hF, hN⟩
                  have hB := hBf455
                  replace hBf455 := hB.app hM hN
                  replace hM := hM.beside hB hF
                  clear hB
                  replace hD := hM.wide (H := ([] : List Fact))
                  refine ⟨hM, ?_⟩
                  clear hF hN
                  obtain ⟨u190, h471, hb⟩ := bd hb
                  refine mixE.op hM (hC.app (i := 0) (s := (.int .i64)) (xs := ((([] : List Int) ++ ((b_0_1.drop (0 : Int).toNat).take ((Int.tmod at_1 z145).toNat - (0 : Int).toNat))) ++ qF10_0_3)) (ys := ((b_0_1.drop (Int.tmod at_1 z145).toNat).take ((b_0_1.length : Int).toNat - (Int.tmod at_1 z145).toNat))) (m := (((b_0_1.drop (Int.tmod at_1 z145).toNat).take ((b_0_1.length : Int).toNat - (Int.tmod at_1 z145).toNat)).length)) rfl Try.underlying22 Try.underlying22 Try.type3 rfl rfl rfl (hC.srcr (i := 2) rfl) rfl rfl (by have := lim_some h471; simp at this ⊢ <;> omega) (by decide)) ?_
                  rintro _ w476 ⟨A472, c473, rfl, hl474, hc475, hC, hF, hN⟩
                  have hB := hBf455
                  replace hBf455 := hB.app hM hN
                  replace hM := hM.beside hB hF
                  clear hB
                  replace hD := hM.wide (H := ([] : List Fact))
                  refine ⟨hM, ?_⟩
                  clear hF hN
                  refine mixE.pure (v := .agg #[.int .i64 b_0_0, .slice A472 ((((([] : List Int) ++ ((b_0_1.drop (0 : Int).toNat).take ((Int.tmod at_1 z145).toNat - (0 : Int).toNat))) ++ qF10_0_3) ++ ((b_0_1.drop (Int.tmod at_1 z145).toNat).take ((b_0_1.length : Int).toNat - (Int.tmod at_1 z145).toNat))).length) c473]) (pu_builds (places := [(0, 1), (1, 1)]) (pv := [(0, .int .i64 b_0_0), (1, .slice A472 ((((([] : List Int) ++ ((b_0_1.drop (0 : Int).toNat).take ((Int.tmod at_1 z145).toNat - (0 : Int).toNat))) ++ qF10_0_3) ++ ((b_0_1.drop (Int.tmod at_1 z145).toNat).take ((b_0_1.length : Int).toNat - (Int.tmod at_1 z145).toNat))).length) c473)]) Try.type24 Try.underlying24 rfl (mp_cons Try.type3 (mp_cons Try.type22 mp_nil rfl rfl) rfl rfl) rfl (by simp [Instr.fill, Value.cells])) ?_
                  refine mixE.sk hD (hC.seta (i := 1) (ds := [.int .i64 b_0_0, .slice A472 ((((([] : List Int) ++ ((b_0_1.drop (0 : Int).toNat).take ((Int.tmod at_1 z145).toNat - (0 : Int).toNat))) ++ qF10_0_3) ++ ((b_0_1.drop (Int.tmod at_1 z145).toNat).take ((b_0_1.length : Int).toNat - (Int.tmod at_1 z145).toNat))).length) c473]) rfl Try.type24 rfl rfl rfl rfl rfl) ?_
                  rintro w477 ⟨hC, hF⟩
                  replace hD := hD.besideG hUf449 hF
                  clear hF
                  refine ⟨hD, ?_⟩
                  refine mixE.nil ?_
                  clear hS hM
                  clear hD
                  refine hK149 _ _ ?_
                  refine Wc.fresh fun E478 hE => ?_
                  have e4 : E478 4 = .pointer (some ⟨g3, 0, none⟩) := (congrFun hE 4).trans e4
                  have e8 : E478 8 = .bool false := (congrFun hE 8).trans e8
                  have e13 : E478 13 = .pointer (some ⟨g447, 0, none⟩) := (congrFun hE 13).trans rfl
                  clear hE
                  refine Wc.seq fun K479 hK479 => ?_
                  refine Wc.region (by decide +kernel) ?_
                  refine lex.val (v := .agg #[.int .i64 b_0_0, .slice Ab_0_1 b_0_1.length cb_0_1]) (ld_blk (hC.bx (i := 4) rfl) Try.isAgg24 Try.sizeOf24 e4) ?_
                  obtain ⟨y203, h481, hb⟩ := bd hb
                  refine lex.cl (⟨_, _, op_call (vs := [.agg #[.int .i64 b_0_0, .slice Ab_0_1 b_0_1.length cb_0_1]]) Try.call17 rfl rfl rfl, artin_Images_ok n hC.lt hb_0_0 (hC.rd (i := 5) rfl) h481⟩) ?_
                  rintro _ w487 ⟨A482, m483, c484, rfl, hr486, hK⟩
                  replace hC := hC.merge hK
                  clear hK
                  obtain ⟨rfl, hl488, hc489⟩ := (hC.ow (i := 0) rfl).sl_len
                  refine lex.pure (v := .tuple #[.slice A482 y203.1.length c484, .int .i64 y203.2]) (pu_move rfl) ?_
                  refine lex.pure (v := .slice A482 y203.1.length c484) (pu_extract rfl rfl) ?_
                  refine lex.pure (v := .int .i64 y203.2) (pu_extract rfl rfl) ?_
                  refine lex.pure (v := .slice A482 y203.1.length c484) (pu_assign rfl) ?_
                  refine lex.pure (v := .int .i64 y203.2) (pu_assign rfl) ?_
                  refine lex.nil ?_
                  refine hK479 _ _ ?_
                  refine Wc.seq fun K490 hK490 => ?_
                  refine Wc.region (by decide +kernel) ?_
                  refine lex.val (v := .agg #[.int .i64 b_0_0, .slice A472 ((((([] : List Int) ++ ((b_0_1.drop (0 : Int).toNat).take ((Int.tmod at_1 z145).toNat - (0 : Int).toNat))) ++ qF10_0_3) ++ ((b_0_1.drop (Int.tmod at_1 z145).toNat).take ((b_0_1.length : Int).toNat - (Int.tmod at_1 z145).toNat))).length) c473]) (ld_blk (hC.bx (i := 2) rfl) Try.isAgg24 Try.sizeOf24 e13) ?_
                  replace hC := hC.freeze (i := 1) rfl (hC.own_new (i := 1) rfl)
                  obtain ⟨y214, h492, hb⟩ := bd hb
                  refine lex.cl (⟨_, _, op_call (vs := [.agg #[.int .i64 b_0_0, .slice A472 ((((([] : List Int) ++ ((b_0_1.drop (0 : Int).toNat).take ((Int.tmod at_1 z145).toNat - (0 : Int).toNat))) ++ qF10_0_3) ++ ((b_0_1.drop (Int.tmod at_1 z145).toNat).take ((b_0_1.length : Int).toNat - (Int.tmod at_1 z145).toNat))).length) c473]]) Try.call17 rfl rfl rfl, artin_Images_ok n hC.lt hb_0_0 (hC.rd (i := 1) rfl) h492⟩) ?_
                  rintro _ w498 ⟨A493, m494, c495, rfl, hr497, hK⟩
                  replace hC := hC.merge hK
                  clear hK
                  obtain ⟨rfl, hl499, hc500⟩ := (hC.ow (i := 0) rfl).sl_len
                  refine lex.pure (v := .tuple #[.slice A493 y214.1.length c495, .int .i64 y214.2]) (pu_move rfl) ?_
                  refine lex.pure (v := .slice A493 y214.1.length c495) (pu_extract rfl rfl) ?_
                  refine lex.pure (v := .int .i64 y214.2) (pu_extract rfl rfl) ?_
                  refine lex.pure (v := .slice A493 y214.1.length c495) (pu_assign rfl) ?_
                  refine lex.pure (v := .int .i64 y214.2) (pu_assign rfl) ?_
                  refine lex.nil ?_
                  refine hK490 _ _ ?_
                  refine Wc.fresh fun E501 hE => ?_
                  have e8 : E501 8 = .bool false := (congrFun hE 8).trans e8
                  have e14 : E501 14 = .slice A482 y203.1.length c484 := (congrFun hE 14).trans rfl
                  have e15 : E501 15 = .int .i64 y203.2 := (congrFun hE 15).trans rfl
                  have e16 : E501 16 = .slice A493 y214.1.length c495 := (congrFun hE 16).trans rfl
                  have e17 : E501 17 = .int .i64 y214.2 := (congrFun hE 17).trans rfl
                  clear hE
                  refine Wc.seq fun K502 hK502 => ?_
                  refine Wc.region (by decide +kernel) ?_
                  refine lex.pure (v := .int .i64 y203.2) (pu_move e15) ?_
                  refine lex.pure (v := .bool (decide (y203.2 = 0))) (pu_eql (k := .i64) (a := y203.2) (b := 0) rfl rfl) ?_
                  refine lex.pure (v := .bool (decide (y203.2 = 0))) (pu_move rfl) ?_
                  rcases bS (decide (y203.2 = 0)) with hq503 | hq503
                  · replace hb := (cT hq503).symm.trans hb
                    refine lex.gpure (want_t rfl rfl (show _ = Value.bool (decide (y203.2 = 0)) from rfl) hq503) (v := .int .i64 y214.2) (pu_move e17) ?_
                    refine lex.gpure (want_t rfl rfl (show _ = Value.bool (decide (y203.2 = 0)) from rfl) hq503) (v := .bool (decide (y214.2 = 0))) (pu_eql (k := .i64) (a := y214.2) (b := 0) rfl rfl) ?_
                    refine lex.pure (v := .bool (decide (y214.2 = 0))) (pu_pickT (q := (decide (y203.2 = 0))) rfl hq503 rfl) ?_
                    refine lex.pure (v := .bool (decide (y214.2 = 0))) (pu_move rfl) ?_
                    rcases bS (decide (y214.2 = 0)) with hq504 | hq504
                    · replace hb := (cT hq504).symm.trans hb
                      refine lex.gpure (want_t rfl rfl (show _ = Value.bool (decide (y214.2 = 0)) from rfl) hq504) (v := .slice A482 y203.1.length c484) (pu_move e14) ?_
                      replace hC := hC.freeze (i := 1) rfl (hC.own_new (i := 1) rfl)
                      obtain ⟨y228, h506, hb⟩ := bd hb
                      refine lex.gcl (want_t rfl rfl (show _ = Value.bool (decide (y214.2 = 0)) from rfl) hq504) (⟨_, _, op_call (vs := [.slice A482 y203.1.length c484]) Try.call19 rfl rfl rfl, law35_lists_ok n hC.lt (hC.rd (i := 1) rfl) h506⟩) ?_
                      rintro _ w511 ⟨A507, m508, c509, rfl, hK⟩
                      replace hC := hC.merge hK
                      clear hK
                      obtain ⟨rfl, hl512, hc513⟩ := (hC.ow (i := 0) rfl).sl_len
                      refine lex.gpure (want_t rfl rfl (show _ = Value.bool (decide (y214.2 = 0)) from rfl) hq504) (v := .slice A493 y214.1.length c495) (pu_move e16) ?_
                      replace hC := hC.freeze (i := 1) rfl (hC.own_new (i := 1) rfl)
                      obtain ⟨y237, h515, hb⟩ := bd hb
                      refine lex.gcl (want_t rfl rfl (show _ = Value.bool (decide (y214.2 = 0)) from rfl) hq504) (⟨_, _, op_call (vs := [.slice A493 y214.1.length c495]) Try.call19 rfl rfl rfl, law35_lists_ok n hC.lt (hC.rd (i := 1) rfl) h515⟩) ?_
                      rintro _ w520 ⟨A516, m517, c518, rfl, hK⟩
                      replace hC := hC.merge hK
                      clear hK
                      obtain ⟨rfl, hl521, hc522⟩ := (hC.ow (i := 0) rfl).sl_len
                      obtain ⟨y246, h524, hb⟩ := bd hb
                      refine lex.gcl (want_t rfl rfl (show _ = Value.bool (decide (y214.2 = 0)) from rfl) hq504) (⟨_, _, op_call (vs := [.slice A507 y228.length c509, .slice A516 y237.length c518]) Try.call18 rfl rfl rfl, ref01_Lists_ok n (hC.lentLt [.slice A507 y228.length c509, .slice A516 y237.length c518]) ((hC.ow (i := 1) rfl).lend (vs := [.slice A507 y228.length c509, .slice A516 y237.length c518]) (by simp)) ((hC.ow (i := 0) rfl).lend (vs := [.slice A507 y228.length c509, .slice A516 y237.length c518]) (by simp)) h524⟩) ?_
                      rintro _ w525 ⟨rfl, hK⟩
                      replace hC := hC.mergeF hK rfl
                      clear hK
                      refine lex.pure (v := .bool y246) (pu_pickT (q := (decide (y214.2 = 0))) rfl hq504 rfl) ?_
                      refine lex.pure (v := .bool y246) (pu_assign rfl) ?_
                      refine lex.nil ?_
                      refine hK502 _ _ ?_
                      obtain rfl := Option.some.inj hb
                      refine Wc.ret ?_
                      refine hKR _ _ ?_
                      refine ⟨_, res1 Try.results4 (show RV _ _ _ (.tmp _) (.bool y246) from rfl), _, rfl, rfl, hC.sel [] (by decide)⟩
                    · replace hb := (cF hq504).symm.trans hb
                      refine lex.gskip (want_f rfl rfl (show _ = Value.bool (decide (y214.2 = 0)) from rfl) hq504) ?_
                      refine lex.gskip (want_f rfl rfl (show _ = Value.bool (decide (y214.2 = 0)) from rfl) hq504) ?_
                      refine lex.gskip (want_f rfl rfl (show _ = Value.bool (decide (y214.2 = 0)) from rfl) hq504) ?_
                      refine lex.gskip (want_f rfl rfl (show _ = Value.bool (decide (y214.2 = 0)) from rfl) hq504) ?_
                      refine lex.gskip (want_f rfl rfl (show _ = Value.bool (decide (y214.2 = 0)) from rfl) hq504) ?_
                      refine lex.pure (v := .bool false) (pu_pickF (q := (decide (y214.2 = 0))) rfl hq504 rfl) ?_
                      refine lex.pure (v := .bool false) (pu_assign rfl) ?_
                      refine lex.nil ?_
                      refine hK502 _ _ ?_
                      obtain rfl := Option.some.inj hb
                      refine Wc.ret ?_
                      refine hKR _ _ ?_
                      refine ⟨_, res1 Try.results4 (show RV _ _ _ (.tmp _) (.bool false) from rfl), _, rfl, rfl, hC.sel [] (by decide)⟩
                  · replace hb := (cF hq503).symm.trans hb
                    refine lex.gskip (want_f rfl rfl (show _ = Value.bool (decide (y203.2 = 0)) from rfl) hq503) ?_
                    refine lex.gskip (want_f rfl rfl (show _ = Value.bool (decide (y203.2 = 0)) from rfl) hq503) ?_
                    refine lex.pure (v := .bool false) (pu_pickF (q := (decide (y203.2 = 0))) rfl hq503 rfl) ?_
                    refine lex.pure (v := .bool false) (pu_move rfl) ?_
                    refine lex.gskip (want_f rfl rfl (show _ = Value.bool false from rfl) rfl) ?_
                    refine lex.gskip (want_f rfl rfl (show _ = Value.bool false from rfl) rfl) ?_
                    refine lex.gskip (want_f rfl rfl (show _ = Value.bool false from rfl) rfl) ?_
                    refine lex.gskip (want_f rfl rfl (show _ = Value.bool false from rfl) rfl) ?_
                    refine lex.gskip (want_f rfl rfl (show _ = Value.bool false from rfl) rfl) ?_
                    refine lex.pure (v := .bool false) (pu_pickF (q := false) rfl rfl rfl) ?_
                    refine lex.pure (v := .bool false) (pu_assign rfl) ?_
                    refine lex.nil ?_
                    refine hK502 _ _ ?_
                    obtain rfl := Option.some.inj hb
                    refine Wc.ret ?_
                    refine hKR _ _ ?_
                    refine ⟨_, res1 Try.results4 (show RV _ _ _ (.tmp _) (.bool false) from rfl), _, rfl, rfl, hC.sel [] (by decide)⟩
end Go.Proofs.Ytlkmcbgkohpmiaa
