/- The walks: part 7. -/
import Derived.Test.YtkjpldmelafooaaS
import Derived.Test.YtkjpldmelafooaaG3
import Derived.Test.YtkjpldmelafooaaG6
set_option linter.unusedVariables false
set_option linter.unusedSimpArgs false
namespace Go.Proofs.Ytkjpldmelafooaa
open Ev
set_option maxRecDepth 100000 in
set_option maxHeartbeats 4000000 in
theorem law36_MarkovApply_ok (n : Nat) {w : World} {O0 : List Nat} (hO : ∀ k ∈ O0, k < w.heap.size) {strands_0 : Int} (hstrands_0 : I64 strands_0) {Aword_1 : Option Addr} {mword_1 cword_1 : Nat} {word_1 : List Int} (hword_1 : Rep O0 w (.sl (.int .i64)) [.slice Aword_1 mword_1 cword_1] word_1) {s_2_0 : Int} (hs_2_0 : I64 s_2_0) {s_2_1 : Int} (hs_2_1 : I64 s_2_1) {s_2_2 : Int} (hs_2_2 : I64 s_2_2) {r : Bool} (hb : F.law36_MarkovApply n strands_0 word_1 s_2_0 s_2_1 s_2_2 = some r) :
    Calls Try.prog 3 #[.int .i64 strands_0, .slice Aword_1 mword_1 cword_1, .agg #[.int .i64 s_2_0, .int .i64 s_2_1, .int .i64 s_2_2]] w fun e w' => ∃ v, e = .returned v ∧ v = .bool r ∧ Cx (fun _ => False) O0 w w' [] := by
  unfold F.law36_MarkovApply at hb
  have hC := Cx.start hO
  replace hC := hC.arg rfl hword_1
  clear hO
  obtain ⟨rfl, hlword_1, hcword_1⟩ := hword_1.sl_len
  refine calls_of_Wc Try.func3 rfl (by rw [Try.ntmps3]; exact Nat.le_of_ble_eq_true rfl) fun KR hKR => ?_
  refine Wc.seq fun K2 hK2 => ?_
  refine Wc.region (by decide +kernel) ?_
  refine lex.op (hC.box (cs := [.int .i64 s_2_0, .int .i64 s_2_1, .int .i64 s_2_2]) rfl rfl) ?_
  rintro _ w4 ⟨g3, rfl, hC, hF, hG⟩
  clear hG
  refine lex.pure (v := .bool false) (pu_assign rfl) ?_
  refine lex.nil ?_
  refine hK2 _ _ ?_
  refine Wc.seq fun K6 hK6 => ?_
  refine Wc.seq fun K7 hK7 => ?_
  refine Wc.region (by decide +kernel) ?_
  obtain ⟨y8, h9, hb⟩ := bd hb
  refine lex.cl (⟨_, _, op_call (vs := []) Try.call11 rfl rfl rfl, law36_awake_ok n hC.lt  h9⟩) ?_
  rintro _ w10 ⟨rfl, hK⟩
  replace hC := hC.merge hK
  clear hK
  refine lex.pure (v := .bool (!y8)) (pu_not (q := y8) rfl) ?_
  refine lex.nil ?_
  refine hK7 _ _ ?_
  refine Wc.cond (t := (!y8)) (rfl) (fun hq11 => ?_) (fun hq11 => ?_)
  · replace hb := (cT hq11).symm.trans hb
    refine Wc.seq fun K12 hK12 => ?_
    refine Wc.region (by decide +kernel) ?_
    refine lex.pure (v := .bool false) (pu_assign rfl) ?_
    refine lex.nil ?_
    refine hK12 _ _ ?_
    obtain rfl := Option.some.inj hb
    refine Wc.ret ?_
    refine hKR _ _ ?_
    refine ⟨_, res1 Try.results3 (show RV _ _ _ (.tmp _) (.bool false) from rfl), _, rfl, rfl, hC.sel [] (by decide)⟩
  · replace hb := (cF hq11).symm.trans hb
    refine Wc.skip ?_
    refine hK6 _ _ ?_
    refine Wc.seq fun K13 hK13 => ?_
    refine Wc.seq fun K14 hK14 => ?_
    refine Wc.region (by decide +kernel) ?_
    refine lex.pure (v := .slice Aword_1 word_1.length cword_1) (pu_move rfl) ?_
    refine lex.pure (v := .int .i64 (word_1.length : Int)) (pu_len (A := Aword_1) (n := word_1.length) (m := cword_1) Try.underlying22 rfl) ?_
    refine lex.pure (v := .bool (decide (210 < (word_1.length : Int)))) (pu_gtr (k := .i64) (a := (word_1.length : Int)) (b := 210) rfl rfl) ?_
    refine lex.nil ?_
    refine hK14 _ _ ?_
    refine Wc.cond (t := (decide (210 < (word_1.length : Int)))) (rfl) (fun hq15 => ?_) (fun hq15 => ?_)
    · replace hb := (cT hq15).symm.trans hb
      refine Wc.seq fun K16 hK16 => ?_
      refine Wc.region (by decide +kernel) ?_
      refine lex.pure (v := .bool true) (pu_assign rfl) ?_
      refine lex.nil ?_
      refine hK16 _ _ ?_
      obtain rfl := Option.some.inj hb
      refine Wc.ret ?_
      refine hKR _ _ ?_
      refine ⟨_, res1 Try.results3 (show RV _ _ _ (.tmp _) (.bool true) from rfl), _, rfl, rfl, hC.sel [] (by decide)⟩
    · replace hb := (cF hq15).symm.trans hb
      refine Wc.skip ?_
      refine hK13 _ _ ?_
      refine Wc.seq fun K17 hK17 => ?_
      refine Wc.region (by decide +kernel) ?_
      refine lex.op (hC.lit (s := (.int .i64)) (vs := []) (xs := []) Try.underlying22 Try.type3 rfl rfl (Nat.le_of_ble_eq_true rfl) rfl rfl (by simp [Value.cells, Sh.n]) rfl (show Elems _ _ (.int .i64) ([]) ([] : List Int) from Elems.nil _ _ _)) ?_
      rintro _ w22 ⟨A18, c19, rfl, hl20, hc21, hC, hF, hN⟩
      clear hF hN
      refine lex.pure (v := .slice Aword_1 word_1.length cword_1) (pu_move rfl) ?_
      obtain ⟨u24, h25, hb⟩ := bd hb
      refine lex.op (hC.app (i := 0) (s := (.int .i64)) (xs := ([] : List Int)) (ys := word_1) (m := word_1.length) rfl Try.underlying22 Try.underlying22 Try.type3 rfl rfl rfl (hC.srcr (i := 2) rfl) rfl rfl (by have := lim_some h25; simp at this ⊢; omega) (by decide)) ?_
      rintro _ w30 ⟨A26, c27, rfl, hl28, hc29, hC, hF, hN⟩
      clear hF hN
      refine lex.pure (v := .slice A26 ((([] : List Int) ++ word_1).length) c27) (pu_assign rfl) ?_
      refine lex.nil ?_
      refine hK17 _ _ ?_
      refine Wc.fresh fun E31 hE => ?_
      have e0 : E31 0 = .int .i64 strands_0 := (congrFun hE 0).trans rfl
      have e1 : E31 1 = .slice Aword_1 word_1.length cword_1 := (congrFun hE 1).trans rfl
      have e5 : E31 5 = .pointer (some ⟨g3, 0, none⟩) := (congrFun hE 5).trans rfl
      have e6 : E31 6 = .bool false := (congrFun hE 6).trans rfl
      have e7 : E31 7 = .slice A26 ((([] : List Int) ++ word_1).length) c27 := (congrFun hE 7).trans rfl
      clear hE
      refine Wc.seq fun K32 hK32 => ?_
      refine Wc.region (by decide +kernel) ?_
      refine lex.pure (v := .int .i64 strands_0) (pu_move e0) ?_
      refine lex.pure (v := .slice Aword_1 word_1.length cword_1) (pu_move e1) ?_
      refine lex.pure (v := .agg #[.int .i64 strands_0, .slice Aword_1 word_1.length cword_1]) (pu_builds (places := [(0, 1), (1, 1)]) (pv := [(0, .int .i64 strands_0), (1, .slice Aword_1 word_1.length cword_1)]) Try.type27 Try.underlying27 rfl (mp_cons Try.type3 (mp_cons Try.type22 mp_nil rfl rfl) rfl rfl) rfl (by simp [Instr.fill, Value.cells])) ?_
      refine lex.val (v := .agg #[.int .i64 s_2_0, .int .i64 s_2_1, .int .i64 s_2_2]) (ld_blk (hC.bx (i := 1) rfl) Try.isAgg24 Try.sizeOf24 e5) ?_
      obtain ⟨y33, h34, hb⟩ := bd hb
      refine lex.cl (⟨_, _, op_call (vs := [.agg #[.int .i64 strands_0, .slice Aword_1 word_1.length cword_1], .agg #[.int .i64 s_2_0, .int .i64 s_2_1, .int .i64 s_2_2]]) Try.call12 rfl rfl rfl, markov_Apply_ok n hC.lt hstrands_0 (hC.rd (i := 2) rfl) hs_2_0 hs_2_1 hs_2_2 h34⟩) ?_
      rintro _ w44 ⟨A36, m37, c38, rfl, hr35, hr40, hr41, hr42, hr43, hK⟩
      replace hC := hC.merge hK
      clear hK
      obtain ⟨rfl, hl45, hc46⟩ := (hC.rd (i := 0) rfl).sl_len
      refine lex.pure (v := .tuple #[.agg #[.int .i64 y33.1, .slice A36 y33.2.1.length c38], .agg #[.int .i64 y33.2.2.1, .int .i64 y33.2.2.2.1, .int .i64 y33.2.2.2.2.1], .int .i64 y33.2.2.2.2.2]) (pu_move rfl) ?_
      refine lex.pure (v := .agg #[.int .i64 y33.1, .slice A36 y33.2.1.length c38]) (pu_extract rfl rfl) ?_
      refine lex.pure (v := .agg #[.int .i64 y33.2.2.1, .int .i64 y33.2.2.2.1, .int .i64 y33.2.2.2.2.1]) (pu_extract rfl rfl) ?_
      refine lex.pure (v := .int .i64 y33.2.2.2.2.2) (pu_extract rfl rfl) ?_
      refine lex.op (hC.alloc (cs := [.int .i64 0, .slice none 0 0]) Try.zeroValue27 rfl) ?_
      rintro _ w48 ⟨g47, rfl, hC, hF, hG⟩
      clear hG
      refine lex.op (hC.alloc (cs := [.int .i64 0, .int .i64 0, .int .i64 0]) Try.zeroValue28 rfl) ?_
      rintro _ w51 ⟨g50, rfl, hC, hF, hG⟩
      clear hG
      refine lex.sk (hC.seta (i := 1) (ds := [.int .i64 y33.1, .slice A36 y33.2.1.length c38]) rfl Try.type27 rfl rfl rfl rfl rfl) ?_
      rintro w53 ⟨hC, hF⟩
      refine lex.sk (hC.seta (i := 0) (ds := [.int .i64 y33.2.2.1, .int .i64 y33.2.2.2.1, .int .i64 y33.2.2.2.2.1]) rfl Try.type28 rfl rfl rfl rfl rfl) ?_
      rintro w54 ⟨hC, hF⟩
      refine lex.pure (v := .int .i64 y33.2.2.2.2.2) (pu_assign rfl) ?_
      refine lex.nil ?_
      refine hK32 _ _ ?_
      refine Wc.fresh fun E55 hE => ?_
      have e0 : E55 0 = .int .i64 strands_0 := (congrFun hE 0).trans e0
      have e1 : E55 1 = .slice Aword_1 word_1.length cword_1 := (congrFun hE 1).trans e1
      have e5 : E55 5 = .pointer (some ⟨g3, 0, none⟩) := (congrFun hE 5).trans e5
      have e6 : E55 6 = .bool false := (congrFun hE 6).trans e6
      have e7 : E55 7 = .slice A26 ((([] : List Int) ++ word_1).length) c27 := (congrFun hE 7).trans e7
      have e8 : E55 8 = .pointer (some ⟨g47, 0, none⟩) := (congrFun hE 8).trans rfl
      have e9 : E55 9 = .pointer (some ⟨g50, 0, none⟩) := (congrFun hE 9).trans rfl
      have e10 : E55 10 = .int .i64 y33.2.2.2.2.2 := (congrFun hE 10).trans rfl
      clear hE
      refine Wc.seq fun K56 hK56 => ?_
      refine Wc.region (by decide +kernel) ?_
      refine lex.pure (v := .int .i64 strands_0) (pu_move e0) ?_
      refine lex.pure (v := .slice A26 ((([] : List Int) ++ word_1).length) c27) (pu_move e7) ?_
      refine lex.pure (v := .agg #[.int .i64 strands_0, .slice A26 ((([] : List Int) ++ word_1).length) c27]) (pu_builds (places := [(0, 1), (1, 1)]) (pv := [(0, .int .i64 strands_0), (1, .slice A26 ((([] : List Int) ++ word_1).length) c27)]) Try.type32 Try.underlying32 rfl (mp_cons Try.type3 (mp_cons Try.type22 mp_nil rfl rfl) rfl rfl) rfl (by simp [Instr.fill, Value.cells])) ?_
      refine lex.val (v := .agg #[.int .i64 s_2_0, .int .i64 s_2_1, .int .i64 s_2_2]) (ld_blk (hC.bx (i := 4) rfl) Try.isAgg24 Try.sizeOf24 e5) ?_
      replace hC := hC.freeze (i := 3) rfl (hC.own_new (i := 3) rfl)
      obtain ⟨y57, h58, hb⟩ := bd hb
      refine lex.cl (⟨_, _, op_call (vs := [.agg #[.int .i64 strands_0, .slice A26 ((([] : List Int) ++ word_1).length) c27], .agg #[.int .i64 s_2_0, .int .i64 s_2_1, .int .i64 s_2_2]]) Try.call13 rfl rfl rfl, ref36_Apply_ok n hC.lt hstrands_0 (hC.rd (i := 3) rfl) hs_2_0 hs_2_1 hs_2_2 h58⟩) ?_
      rintro _ w68 ⟨A60, m61, c62, rfl, hr59, hr64, hr65, hr66, hr67, hK⟩
      replace hC := hC.merge hK
      clear hK
      obtain ⟨rfl, hl69, hc70⟩ := (hC.rd (i := 0) rfl).sl_len
      refine lex.pure (v := .tuple #[.agg #[.int .i64 y57.1, .slice A60 y57.2.1.length c62], .agg #[.int .i64 y57.2.2.1, .int .i64 y57.2.2.2.1, .int .i64 y57.2.2.2.2.1], .int .i64 y57.2.2.2.2.2]) (pu_move rfl) ?_
      refine lex.pure (v := .agg #[.int .i64 y57.1, .slice A60 y57.2.1.length c62]) (pu_extract rfl rfl) ?_
      refine lex.pure (v := .agg #[.int .i64 y57.2.2.1, .int .i64 y57.2.2.2.1, .int .i64 y57.2.2.2.2.1]) (pu_extract rfl rfl) ?_
      refine lex.pure (v := .int .i64 y57.2.2.2.2.2) (pu_extract rfl rfl) ?_
      refine lex.op (hC.alloc (cs := [.int .i64 0, .slice none 0 0]) Try.zeroValue32 rfl) ?_
      rintro _ w72 ⟨g71, rfl, hC, hF, hG⟩
      clear hG
      refine lex.op (hC.alloc (cs := [.int .i64 0, .int .i64 0, .int .i64 0]) Try.zeroValue33 rfl) ?_
      rintro _ w75 ⟨g74, rfl, hC, hF, hG⟩
      clear hG
      refine lex.sk (hC.seta (i := 1) (ds := [.int .i64 y57.1, .slice A60 y57.2.1.length c62]) rfl Try.type32 rfl rfl rfl rfl rfl) ?_
      rintro w77 ⟨hC, hF⟩
      refine lex.sk (hC.seta (i := 0) (ds := [.int .i64 y57.2.2.1, .int .i64 y57.2.2.2.1, .int .i64 y57.2.2.2.2.1]) rfl Try.type33 rfl rfl rfl rfl rfl) ?_
      rintro w78 ⟨hC, hF⟩
      refine lex.pure (v := .int .i64 y57.2.2.2.2.2) (pu_assign rfl) ?_
      refine lex.nil ?_
      refine hK56 _ _ ?_
      refine Wc.fresh fun E79 hE => ?_
      have e1 : E79 1 = .slice Aword_1 word_1.length cword_1 := (congrFun hE 1).trans e1
      have e6 : E79 6 = .bool false := (congrFun hE 6).trans e6
      have e7 : E79 7 = .slice A26 ((([] : List Int) ++ word_1).length) c27 := (congrFun hE 7).trans e7
      have e8 : E79 8 = .pointer (some ⟨g47, 0, none⟩) := (congrFun hE 8).trans e8
      have e9 : E79 9 = .pointer (some ⟨g50, 0, none⟩) := (congrFun hE 9).trans e9
      have e10 : E79 10 = .int .i64 y33.2.2.2.2.2 := (congrFun hE 10).trans e10
      have e11 : E79 11 = .pointer (some ⟨g71, 0, none⟩) := (congrFun hE 11).trans rfl
      have e12 : E79 12 = .pointer (some ⟨g74, 0, none⟩) := (congrFun hE 12).trans rfl
      have e13 : E79 13 = .int .i64 y57.2.2.2.2.2 := (congrFun hE 13).trans rfl
      clear hE
      refine Wc.seq fun K80 hK80 => ?_
      refine Wc.region (by decide +kernel) ?_
      refine lex.pure (v := .int .i64 y33.2.2.2.2.2) (pu_move e10) ?_
      refine lex.pure (v := .int .i64 y57.2.2.2.2.2) (pu_move e13) ?_
      refine lex.pure (v := .bool (decide (y33.2.2.2.2.2 = y57.2.2.2.2.2))) (pu_eql (k := .i64) (a := y33.2.2.2.2.2) (b := y57.2.2.2.2.2) rfl rfl) ?_
      refine lex.pure (v := .bool (decide (y33.2.2.2.2.2 = y57.2.2.2.2.2))) (pu_move rfl) ?_
      rcases bS (decide (y33.2.2.2.2.2 = y57.2.2.2.2.2)) with hq81 | hq81
      · replace hb := (cT hq81).symm.trans hb
        refine lex.gpure (want_t rfl rfl (show _ = Value.bool (decide (y33.2.2.2.2.2 = y57.2.2.2.2.2)) from rfl) hq81) (v := .pointer (some ((⟨g47, 0, none⟩ : Addr).add 0))) (pu_field (sz := 1) Try.underlying27 rfl Try.sizeOf3 (by decide) rfl e8) ?_
        refine lex.gval (want_t rfl rfl (show _ = Value.bool (decide (y33.2.2.2.2.2 = y57.2.2.2.2.2)) from rfl) hq81) (v := .int .i64 y33.1) (ld_fld (hC.bx (i := 4) rfl) Try.isAgg3 rfl rfl) ?_
        refine lex.gpure (want_t rfl rfl (show _ = Value.bool (decide (y33.2.2.2.2.2 = y57.2.2.2.2.2)) from rfl) hq81) (v := .pointer (some ((⟨g47, 0, none⟩ : Addr).add 1))) (pu_field (sz := 1) Try.underlying27 rfl Try.sizeOf22 (by decide) rfl e8) ?_
        refine lex.gval (want_t rfl rfl (show _ = Value.bool (decide (y33.2.2.2.2.2 = y57.2.2.2.2.2)) from rfl) hq81) (v := .slice A36 y33.2.1.length c38) (ld_fld (hC.bx (i := 4) rfl) Try.isAgg22 rfl rfl) ?_
        refine lex.gpure (want_t rfl rfl (show _ = Value.bool (decide (y33.2.2.2.2.2 = y57.2.2.2.2.2)) from rfl) hq81) (v := .agg #[.int .i64 y33.1, .slice A36 y33.2.1.length c38]) (pu_builds (places := [(0, 1), (1, 1)]) (pv := [(0, .int .i64 y33.1), (1, .slice A36 y33.2.1.length c38)]) Try.type32 Try.underlying32 rfl (mp_cons Try.type3 (mp_cons Try.type22 mp_nil rfl rfl) rfl rfl) rfl (by simp [Instr.fill, Value.cells])) ?_
        refine lex.gval (want_t rfl rfl (show _ = Value.bool (decide (y33.2.2.2.2.2 = y57.2.2.2.2.2)) from rfl) hq81) (v := .agg #[.int .i64 y57.1, .slice A60 y57.2.1.length c62]) (ld_blk (hC.bx (i := 1) rfl) Try.isAgg32 Try.sizeOf32 e11) ?_
        obtain ⟨y82, h83, hb⟩ := bd hb
        refine lex.gcl (want_t rfl rfl (show _ = Value.bool (decide (y33.2.2.2.2.2 = y57.2.2.2.2.2)) from rfl) hq81) (⟨_, _, op_call (vs := [.agg #[.int .i64 y33.1, .slice A36 y33.2.1.length c38], .agg #[.int .i64 y57.1, .slice A60 y57.2.1.length c62]]) Try.call14 rfl rfl rfl, ref36_Equal_ok n hC.lt hr35 (hC.rd (i := 5) rfl) hr59 (hC.rd (i := 2) rfl) h83⟩) ?_
        rintro _ w84 ⟨rfl, hK⟩
        replace hC := hC.merge hK
        clear hK
        refine lex.pure (v := .bool y82) (pu_pickT (q := (decide (y33.2.2.2.2.2 = y57.2.2.2.2.2))) rfl hq81 rfl) ?_
        refine lex.pure (v := .bool y82) (pu_move rfl) ?_
        rcases bS y82 with hq85 | hq85
        · replace hb := (cT hq85).symm.trans hb
          refine lex.gval (want_t rfl rfl (show _ = Value.bool y82 from rfl) hq85) (v := .agg #[.int .i64 y33.2.2.1, .int .i64 y33.2.2.2.1, .int .i64 y33.2.2.2.2.1]) (ld_blk (hC.bx (i := 3) rfl) Try.isAgg28 Try.sizeOf28 e9) ?_
          refine lex.gval (want_t rfl rfl (show _ = Value.bool y82 from rfl) hq85) (v := .agg #[.int .i64 y57.2.2.1, .int .i64 y57.2.2.2.1, .int .i64 y57.2.2.2.2.1]) (ld_blk (hC.bx (i := 0) rfl) Try.isAgg33 Try.sizeOf33 e12) ?_
          refine lex.gpure (want_t rfl rfl (show _ = Value.bool y82 from rfl) hq85) (v := .bool (decide (y33.2.2.1 = y57.2.2.1) && (decide (y33.2.2.2.1 = y57.2.2.2.1) && (decide (y33.2.2.2.2.1 = y57.2.2.2.2.1) && true)))) (pu_eqls Try.underlying33 (by kernel_rfl) (by kernel_rfl) rfl rfl (eqF_cons (by decide) Try.underlying3 Try.isAgg3 rfl rfl (eqF_cons (by decide) Try.underlying3 Try.isAgg3 rfl rfl (eqF_cons (by decide) Try.underlying3 Try.isAgg3 rfl rfl eqF_nil)))) ?_
          refine lex.pure (v := .bool (decide (y33.2.2.1 = y57.2.2.1) && (decide (y33.2.2.2.1 = y57.2.2.2.1) && (decide (y33.2.2.2.2.1 = y57.2.2.2.2.1) && true)))) (pu_pickT (q := y82) rfl hq85 rfl) ?_
          refine lex.pure (v := .bool (decide (y33.2.2.1 = y57.2.2.1) && (decide (y33.2.2.2.1 = y57.2.2.2.1) && (decide (y33.2.2.2.2.1 = y57.2.2.2.2.1) && true)))) (pu_move rfl) ?_
          rcases bS (decide (y33.2.2.1 = y57.2.2.1) && (decide (y33.2.2.2.1 = y57.2.2.2.1) && (decide (y33.2.2.2.2.1 = y57.2.2.2.2.1) && true))) with hq86 | hq86
          · replace hb := (cT hq86).symm.trans hb
            refine lex.gpure (want_t rfl rfl (show _ = Value.bool (decide (y33.2.2.1 = y57.2.2.1) && (decide (y33.2.2.2.1 = y57.2.2.2.1) && (decide (y33.2.2.2.2.1 = y57.2.2.2.2.1) && true))) from rfl) hq86) (v := .slice Aword_1 word_1.length cword_1) (pu_move e1) ?_
            refine lex.gpure (want_t rfl rfl (show _ = Value.bool (decide (y33.2.2.1 = y57.2.2.1) && (decide (y33.2.2.2.1 = y57.2.2.2.1) && (decide (y33.2.2.2.2.1 = y57.2.2.2.2.1) && true))) from rfl) hq86) (v := .agg #[.int .i64 0, .slice Aword_1 word_1.length cword_1]) (pu_builds (places := [(0, 1), (1, 1)]) (pv := [(1, .slice Aword_1 word_1.length cword_1)]) Try.type32 Try.underlying32 rfl (mp_cons Try.type3 (mp_cons Try.type22 mp_nil rfl rfl) rfl rfl) rfl (by simp [Instr.fill, Value.cells])) ?_
            refine lex.gpure (want_t rfl rfl (show _ = Value.bool (decide (y33.2.2.1 = y57.2.2.1) && (decide (y33.2.2.2.1 = y57.2.2.2.1) && (decide (y33.2.2.2.2.1 = y57.2.2.2.2.1) && true))) from rfl) hq86) (v := .slice A26 ((([] : List Int) ++ word_1).length) c27) (pu_move e7) ?_
            refine lex.gpure (want_t rfl rfl (show _ = Value.bool (decide (y33.2.2.1 = y57.2.2.1) && (decide (y33.2.2.2.1 = y57.2.2.2.1) && (decide (y33.2.2.2.2.1 = y57.2.2.2.2.1) && true))) from rfl) hq86) (v := .agg #[.int .i64 0, .slice A26 ((([] : List Int) ++ word_1).length) c27]) (pu_builds (places := [(0, 1), (1, 1)]) (pv := [(1, .slice A26 ((([] : List Int) ++ word_1).length) c27)]) Try.type32 Try.underlying32 rfl (mp_cons Try.type3 (mp_cons Try.type22 mp_nil rfl rfl) rfl rfl) rfl (by simp [Instr.fill, Value.cells])) ?_
            obtain ⟨y87, h88, hb⟩ := bd hb
            refine lex.gcl (want_t rfl rfl (show _ = Value.bool (decide (y33.2.2.1 = y57.2.2.1) && (decide (y33.2.2.2.1 = y57.2.2.2.1) && (decide (y33.2.2.2.2.1 = y57.2.2.2.2.1) && true))) from rfl) hq86) (⟨_, _, op_call (vs := [.agg #[.int .i64 0, .slice Aword_1 word_1.length cword_1], .agg #[.int .i64 0, .slice A26 ((([] : List Int) ++ word_1).length) c27]]) Try.call14 rfl rfl rfl, ref36_Equal_ok n hC.lt (show I64 0 from by unfold I64; omega) (hC.rd (i := 8) rfl) (show I64 0 from by unfold I64; omega) (hC.rd (i := 6) rfl) h88⟩) ?_
            rintro _ w89 ⟨rfl, hK⟩
            replace hC := hC.merge hK
            clear hK
            refine lex.pure (v := .bool y87) (pu_pickT (q := (decide (y33.2.2.1 = y57.2.2.1) && (decide (y33.2.2.2.1 = y57.2.2.2.1) && (decide (y33.2.2.2.2.1 = y57.2.2.2.2.1) && true)))) rfl hq86 rfl) ?_
            refine lex.pure (v := .bool y87) (pu_assign rfl) ?_
            refine lex.nil ?_
            refine hK80 _ _ ?_
            obtain rfl := Option.some.inj hb
            refine Wc.ret ?_
            refine hKR _ _ ?_
            refine ⟨_, res1 Try.results3 (show RV _ _ _ (.tmp _) (.bool y87) from rfl), _, rfl, rfl, hC.sel [] (by decide)⟩
          · replace hb := (cF hq86).symm.trans hb
            refine lex.gskip (want_f rfl rfl (show _ = Value.bool (decide (y33.2.2.1 = y57.2.2.1) && (decide (y33.2.2.2.1 = y57.2.2.2.1) && (decide (y33.2.2.2.2.1 = y57.2.2.2.2.1) && true))) from rfl) hq86) ?_
            refine lex.gskip (want_f rfl rfl (show _ = Value.bool (decide (y33.2.2.1 = y57.2.2.1) && (decide (y33.2.2.2.1 = y57.2.2.2.1) && (decide (y33.2.2.2.2.1 = y57.2.2.2.2.1) && true))) from rfl) hq86) ?_
            refine lex.gskip (want_f rfl rfl (show _ = Value.bool (decide (y33.2.2.1 = y57.2.2.1) && (decide (y33.2.2.2.1 = y57.2.2.2.1) && (decide (y33.2.2.2.2.1 = y57.2.2.2.2.1) && true))) from rfl) hq86) ?_
            refine lex.gskip (want_f rfl rfl (show _ = Value.bool (decide (y33.2.2.1 = y57.2.2.1) && (decide (y33.2.2.2.1 = y57.2.2.2.1) && (decide (y33.2.2.2.2.1 = y57.2.2.2.2.1) && true))) from rfl) hq86) ?_
            refine lex.gskip (want_f rfl rfl (show _ = Value.bool (decide (y33.2.2.1 = y57.2.2.1) && (decide (y33.2.2.2.1 = y57.2.2.2.1) && (decide (y33.2.2.2.2.1 = y57.2.2.2.2.1) && true))) from rfl) hq86) ?_
            refine lex.pure (v := .bool false) (pu_pickF (q := (decide (y33.2.2.1 = y57.2.2.1) && (decide (y33.2.2.2.1 = y57.2.2.2.1) && (decide (y33.2.2.2.2.1 = y57.2.2.2.2.1) && true)))) rfl hq86 rfl) ?_
            refine lex.pure (v := .bool false) (pu_assign rfl) ?_
            refine lex.nil ?_
            refine hK80 _ _ ?_
            obtain rfl := Option.some.inj hb
            refine Wc.ret ?_
            refine hKR _ _ ?_
            refine ⟨_, res1 Try.results3 (show RV _ _ _ (.tmp _) (.bool false) from rfl), _, rfl, rfl, hC.sel [] (by decide)⟩
        · replace hb := (cF hq85).symm.trans hb
          refine lex.gskip (want_f rfl rfl (show _ = Value.bool y82 from rfl) hq85) ?_
          refine lex.gskip (want_f rfl rfl (show _ = Value.bool y82 from rfl) hq85) ?_
          refine lex.gskip (want_f rfl rfl (show _ = Value.bool y82 from rfl) hq85) ?_
          refine lex.pure (v := .bool false) (pu_pickF (q := y82) rfl hq85 rfl) ?_
          refine lex.pure (v := .bool false) (pu_move rfl) ?_
          refine lex.gskip (want_f rfl rfl (show _ = Value.bool false from rfl) rfl) ?_
          refine lex.gskip (want_f rfl rfl (show _ = Value.bool false from rfl) rfl) ?_
          refine lex.gskip (want_f rfl rfl (show _ = Value.bool false from rfl) rfl) ?_
          refine lex.gskip (want_f rfl rfl (show _ = Value.bool false from rfl) rfl) ?_
          refine lex.gskip (want_f rfl rfl (show _ = Value.bool false from rfl) rfl) ?_
          refine lex.pure (v := .bool false) (pu_pickF (q := false) rfl rfl rfl) ?_
          refine lex.pure (v := .bool false) (pu_assign rfl) ?_
          refine lex.nil ?_
          refine hK80 _ _ ?_
          obtain rfl := Option.some.inj hb
          refine Wc.ret ?_
          refine hKR _ _ ?_
          refine ⟨_, res1 Try.results3 (show RV _ _ _ (.tmp _) (.bool false) from rfl), _, rfl, rfl, hC.sel [] (by decide)⟩
      · replace hb := (cF hq81).symm.trans hb
        refine lex.gskip (want_f rfl rfl (show _ = Value.bool (decide (y33.2.2.2.2.2 = y57.2.2.2.2.2)) from rfl) hq81) ?_
        refine lex.gskip (want_f rfl rfl (show _ = Value.bool (decide (y33.2.2.2.2.2 = y57.2.2.2.2.2)) from rfl) hq81) ?_
        refine lex.gskip (want_f rfl rfl (show _ = Value.bool (decide (y33.2.2.2.2.2 = y57.2.2.2.2.2)) from rfl) hq81) ?_
        refine lex.gskip (want_f rfl rfl (show _ = Value.bool (decide (y33.2.2.2.2.2 = y57.2.2.2.2.2)) from rfl) hq81) ?_
        refine lex.gskip (want_f rfl rfl (show _ = Value.bool (decide (y33.2.2.2.2.2 = y57.2.2.2.2.2)) from rfl) hq81) ?_
        refine lex.gskip (want_f rfl rfl (show _ = Value.bool (decide (y33.2.2.2.2.2 = y57.2.2.2.2.2)) from rfl) hq81) ?_
        refine lex.gskip (want_f rfl rfl (show _ = Value.bool (decide (y33.2.2.2.2.2 = y57.2.2.2.2.2)) from rfl) hq81) ?_
        refine lex.pure (v := .bool false) (pu_pickF (q := (decide (y33.2.2.2.2.2 = y57.2.2.2.2.2))) rfl hq81 rfl) ?_
        refine lex.pure (v := .bool false) (pu_move rfl) ?_
        refine lex.gskip (want_f rfl rfl (show _ = Value.bool false from rfl) rfl) ?_
        refine lex.gskip (want_f rfl rfl (show _ = Value.bool false from rfl) rfl) ?_
        refine lex.gskip (want_f rfl rfl (show _ = Value.bool false from rfl) rfl) ?_
        refine lex.pure (v := .bool false) (pu_pickF (q := false) rfl rfl rfl) ?_
        refine lex.pure (v := .bool false) (pu_move rfl) ?_
        refine lex.gskip (want_f rfl rfl (show _ = Value.bool false from rfl) rfl) ?_
        refine lex.gskip (want_f rfl rfl (show _ = Value.bool false from rfl) rfl) ?_
        refine lex.gskip (want_f rfl rfl (show _ = Value.bool false from rfl) rfl) ?_
        refine lex.gskip (want_f rfl rfl (show _ = Value.bool false from rfl) rfl) ?_
        refine lex.gskip (want_f rfl rfl (show _ = Value.bool false from rfl) rfl) ?_
        refine lex.pure (v := .bool false) (pu_pickF (q := false) rfl rfl rfl) ?_
        refine lex.pure (v := .bool false) (pu_assign rfl) ?_
        refine lex.nil ?_
        refine hK80 _ _ ?_
        obtain rfl := Option.some.inj hb
        refine Wc.ret ?_
        refine hKR _ _ ?_
        refine ⟨_, res1 Try.results3 (show RV _ _ _ (.tmp _) (.bool false) from rfl), _, rfl, rfl, hC.sel [] (by decide)⟩
end Go.Proofs.Ytkjpldmelafooaa
