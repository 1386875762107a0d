/- The walks: part 8. -/
import Derived.Test.YtkjpldmelafooaaS
import Derived.Test.YtkjpldmelafooaaG0
import Derived.Test.YtkjpldmelafooaaG3
set_option linter.unusedVariables false
set_option linter.unusedSimpArgs false
namespace Go.Proofs.Ytkjpldmelafooaa
open Ev
set_option maxRecDepth 100000 in
set_option maxHeartbeats 4000000 in
theorem law36_MarkovInverse_ok (n : Nat) {w : World} {O0 : List Nat} (hO : ∀ k ∈ O0, k < w.heap.size) {strands_0 : Int} (hstrands_0 : I64 strands_0) {Aword_1 : Option Addr} {mword_1 cword_1 : Nat} {word_1 : List Int} (hword_1 : Rep O0 w (.sl (.int .i64)) [.slice Aword_1 mword_1 cword_1] word_1) {s_2_0 : Int} (hs_2_0 : I64 s_2_0) {s_2_1 : Int} (hs_2_1 : I64 s_2_1) {s_2_2 : Int} (hs_2_2 : I64 s_2_2) {r : Bool} (hb : F.law36_MarkovInverse n strands_0 word_1 s_2_0 s_2_1 s_2_2 = some r) :
    Calls Try.prog 4 #[.int .i64 strands_0, .slice Aword_1 mword_1 cword_1, .agg #[.int .i64 s_2_0, .int .i64 s_2_1, .int .i64 s_2_2]] w fun e w' => ∃ v, e = .returned v ∧ v = .bool r ∧ Cx (fun _ => False) O0 w w' [] := by
  unfold F.law36_MarkovInverse at hb
  have hC := Cx.start hO
  replace hC := hC.arg rfl hword_1
  clear hO
  obtain ⟨rfl, hlword_1, hcword_1⟩ := hword_1.sl_len
  refine calls_of_Wc Try.func4 rfl (by rw [Try.ntmps4]; exact Nat.le_of_ble_eq_true rfl) fun KR hKR => ?_
  refine Wc.seq fun K2 hK2 => ?_
  refine Wc.region (by decide +kernel) ?_
  refine lex.op (hC.box (cs := [.int .i64 s_2_0, .int .i64 s_2_1, .int .i64 s_2_2]) rfl rfl) ?_
  rintro _ w4 ⟨g3, rfl, hC, hF, hG⟩
  clear hG
  refine lex.pure (v := .bool false) (pu_assign rfl) ?_
  refine lex.nil ?_
  refine hK2 _ _ ?_
  refine Wc.seq fun K6 hK6 => ?_
  refine Wc.seq fun K7 hK7 => ?_
  refine Wc.region (by decide +kernel) ?_
  obtain ⟨y8, h9, hb⟩ := bd hb
  refine lex.cl (⟨_, _, op_call (vs := []) Try.call11 rfl rfl rfl, law36_awake_ok n hC.lt  h9⟩) ?_
  rintro _ w10 ⟨rfl, hK⟩
  replace hC := hC.merge hK
  clear hK
  refine lex.pure (v := .bool (!y8)) (pu_not (q := y8) rfl) ?_
  refine lex.nil ?_
  refine hK7 _ _ ?_
  refine Wc.cond (t := (!y8)) (rfl) (fun hq11 => ?_) (fun hq11 => ?_)
  · replace hb := (cT hq11).symm.trans hb
    refine Wc.seq fun K12 hK12 => ?_
    refine Wc.region (by decide +kernel) ?_
    refine lex.pure (v := .bool false) (pu_assign rfl) ?_
    refine lex.nil ?_
    refine hK12 _ _ ?_
    obtain rfl := Option.some.inj hb
    refine Wc.ret ?_
    refine hKR _ _ ?_
    refine ⟨_, res1 Try.results4 (show RV _ _ _ (.tmp _) (.bool false) from rfl), _, rfl, rfl, hC.sel [] (by decide)⟩
  · replace hb := (cF hq11).symm.trans hb
    refine Wc.skip ?_
    refine hK6 _ _ ?_
    refine Wc.seq fun K13 hK13 => ?_
    refine Wc.seq fun K14 hK14 => ?_
    refine Wc.region (by decide +kernel) ?_
    refine lex.pure (v := .slice Aword_1 word_1.length cword_1) (pu_move rfl) ?_
    refine lex.pure (v := .int .i64 (word_1.length : Int)) (pu_len (A := Aword_1) (n := word_1.length) (m := cword_1) Try.underlying22 rfl) ?_
    refine lex.pure (v := .bool (decide (210 < (word_1.length : Int)))) (pu_gtr (k := .i64) (a := (word_1.length : Int)) (b := 210) rfl rfl) ?_
    refine lex.nil ?_
    refine hK14 _ _ ?_
    refine Wc.cond (t := (decide (210 < (word_1.length : Int)))) (rfl) (fun hq15 => ?_) (fun hq15 => ?_)
    · replace hb := (cT hq15).symm.trans hb
      refine Wc.seq fun K16 hK16 => ?_
      refine Wc.region (by decide +kernel) ?_
      refine lex.pure (v := .bool true) (pu_assign rfl) ?_
      refine lex.nil ?_
      refine hK16 _ _ ?_
      obtain rfl := Option.some.inj hb
      refine Wc.ret ?_
      refine hKR _ _ ?_
      refine ⟨_, res1 Try.results4 (show RV _ _ _ (.tmp _) (.bool true) from rfl), _, rfl, rfl, hC.sel [] (by decide)⟩
    · replace hb := (cF hq15).symm.trans hb
      refine Wc.skip ?_
      refine hK13 _ _ ?_
      refine Wc.seq fun K17 hK17 => ?_
      refine Wc.region (by decide +kernel) ?_
      refine lex.pure (v := .int .i64 strands_0) (pu_move rfl) ?_
      refine lex.pure (v := .slice Aword_1 word_1.length cword_1) (pu_move rfl) ?_
      refine lex.pure (v := .agg #[.int .i64 strands_0, .slice Aword_1 word_1.length cword_1]) (pu_builds (places := [(0, 1), (1, 1)]) (pv := [(0, .int .i64 strands_0), (1, .slice Aword_1 word_1.length cword_1)]) Try.type27 Try.underlying27 rfl (mp_cons Try.type3 (mp_cons Try.type22 mp_nil rfl rfl) rfl rfl) rfl (by simp [Instr.fill, Value.cells])) ?_
      refine lex.op (hC.alloc (cs := [.int .i64 0, .slice none 0 0]) Try.zeroValue27 rfl) ?_
      rintro _ w19 ⟨g18, rfl, hC, hF, hG⟩
      clear hG
      refine lex.sk (hC.seta (i := 0) (ds := [.int .i64 strands_0, .slice Aword_1 word_1.length cword_1]) rfl Try.type27 rfl rfl rfl rfl rfl) ?_
      rintro w21 ⟨hC, hF⟩
      refine lex.nil ?_
      refine hK17 _ _ ?_
      refine Wc.fresh fun E22 hE => ?_
      have e5 : E22 5 = .pointer (some ⟨g3, 0, none⟩) := (congrFun hE 5).trans rfl
      have e6 : E22 6 = .bool false := (congrFun hE 6).trans rfl
      have e7 : E22 7 = .pointer (some ⟨g18, 0, none⟩) := (congrFun hE 7).trans rfl
      clear hE
      refine Wc.seq fun K23 hK23 => ?_
      refine Wc.region (by decide +kernel) ?_
      refine lex.val (v := .agg #[.int .i64 strands_0, .slice Aword_1 word_1.length cword_1]) (ld_blk (hC.bx (i := 0) rfl) Try.isAgg27 Try.sizeOf27 e7) ?_
      refine lex.val (v := .agg #[.int .i64 s_2_0, .int .i64 s_2_1, .int .i64 s_2_2]) (ld_blk (hC.bx (i := 1) rfl) Try.isAgg24 Try.sizeOf24 e5) ?_
      obtain ⟨y24, h25, hb⟩ := bd hb
      refine lex.cl (⟨_, _, op_call (vs := [.agg #[.int .i64 strands_0, .slice Aword_1 word_1.length cword_1], .agg #[.int .i64 s_2_0, .int .i64 s_2_1, .int .i64 s_2_2]]) Try.call12 rfl rfl rfl, markov_Apply_ok n hC.lt hstrands_0 (hC.rd (i := 2) rfl) hs_2_0 hs_2_1 hs_2_2 h25⟩) ?_
      rintro _ w35 ⟨A27, m28, c29, rfl, hr26, hr31, hr32, hr33, hr34, hK⟩
      replace hC := hC.merge hK
      clear hK
      obtain ⟨rfl, hl36, hc37⟩ := (hC.rd (i := 0) rfl).sl_len
      refine lex.pure (v := .tuple #[.agg #[.int .i64 y24.1, .slice A27 y24.2.1.length c29], .agg #[.int .i64 y24.2.2.1, .int .i64 y24.2.2.2.1, .int .i64 y24.2.2.2.2.1], .int .i64 y24.2.2.2.2.2]) (pu_move rfl) ?_
      refine lex.pure (v := .agg #[.int .i64 y24.1, .slice A27 y24.2.1.length c29]) (pu_extract rfl rfl) ?_
      refine lex.pure (v := .agg #[.int .i64 y24.2.2.1, .int .i64 y24.2.2.2.1, .int .i64 y24.2.2.2.2.1]) (pu_extract rfl rfl) ?_
      refine lex.pure (v := .int .i64 y24.2.2.2.2.2) (pu_extract rfl rfl) ?_
      refine lex.op (hC.alloc (cs := [.int .i64 0, .slice none 0 0]) Try.zeroValue27 rfl) ?_
      rintro _ w39 ⟨g38, rfl, hC, hF, hG⟩
      clear hG
      refine lex.op (hC.alloc (cs := [.int .i64 0, .int .i64 0, .int .i64 0]) Try.zeroValue28 rfl) ?_
      rintro _ w42 ⟨g41, rfl, hC, hF, hG⟩
      clear hG
      refine lex.sk (hC.seta (i := 1) (ds := [.int .i64 y24.1, .slice A27 y24.2.1.length c29]) rfl Try.type27 rfl rfl rfl rfl rfl) ?_
      rintro w44 ⟨hC, hF⟩
      refine lex.sk (hC.seta (i := 0) (ds := [.int .i64 y24.2.2.1, .int .i64 y24.2.2.2.1, .int .i64 y24.2.2.2.2.1]) rfl Try.type28 rfl rfl rfl rfl rfl) ?_
      rintro w45 ⟨hC, hF⟩
      refine lex.pure (v := .int .i64 y24.2.2.2.2.2) (pu_assign rfl) ?_
      refine lex.nil ?_
      refine hK23 _ _ ?_
      refine Wc.fresh fun E46 hE => ?_
      have e5 : E46 5 = .pointer (some ⟨g3, 0, none⟩) := (congrFun hE 5).trans e5
      have e6 : E46 6 = .bool false := (congrFun hE 6).trans e6
      have e7 : E46 7 = .pointer (some ⟨g18, 0, none⟩) := (congrFun hE 7).trans e7
      have e8 : E46 8 = .pointer (some ⟨g38, 0, none⟩) := (congrFun hE 8).trans rfl
      have e9 : E46 9 = .pointer (some ⟨g41, 0, none⟩) := (congrFun hE 9).trans rfl
      have e10 : E46 10 = .int .i64 y24.2.2.2.2.2 := (congrFun hE 10).trans rfl
      clear hE
      refine Wc.seq fun K47 hK47 => ?_
      refine Wc.seq fun K48 hK48 => ?_
      refine Wc.region (by decide +kernel) ?_
      refine lex.pure (v := .int .i64 y24.2.2.2.2.2) (pu_move e10) ?_
      refine lex.pure (v := .bool (!(decide (y24.2.2.2.2.2 = 0)))) (pu_neq (k := .i64) (a := y24.2.2.2.2.2) (b := 0) rfl rfl) ?_
      refine lex.nil ?_
      refine hK48 _ _ ?_
      refine Wc.cond (t := (!(decide (y24.2.2.2.2.2 = 0)))) (rfl) (fun hq49 => ?_) (fun hq49 => ?_)
      · replace hb := (cT hq49).symm.trans hb
        refine Wc.seq fun K50 hK50 => ?_
        refine Wc.region (by decide +kernel) ?_
        refine lex.pure (v := .pointer (some ((⟨g38, 0, none⟩ : Addr).add 0))) (pu_field (sz := 1) Try.underlying27 rfl Try.sizeOf3 (by decide) rfl e8) ?_
        refine lex.val (v := .int .i64 y24.1) (ld_fld (hC.bx (i := 1) rfl) Try.isAgg3 rfl rfl) ?_
        refine lex.pure (v := .bool (decide (y24.1 = 0))) (pu_eql (k := .i64) (a := y24.1) (b := 0) rfl rfl) ?_
        refine lex.pure (v := .bool (decide (y24.1 = 0))) (pu_move rfl) ?_
        rcases bS (decide (y24.1 = 0)) with hq51 | hq51
        · replace hb := (cT hq51).symm.trans hb
          refine lex.gpure (want_t rfl rfl (show _ = Value.bool (decide (y24.1 = 0)) from rfl) hq51) (v := .pointer (some ((⟨g38, 0, none⟩ : Addr).add 1))) (pu_field (sz := 1) Try.underlying27 rfl Try.sizeOf22 (by decide) rfl e8) ?_
          refine lex.gval (want_t rfl rfl (show _ = Value.bool (decide (y24.1 = 0)) from rfl) hq51) (v := .slice A27 y24.2.1.length c29) (ld_fld (hC.bx (i := 1) rfl) Try.isAgg22 rfl rfl) ?_
          refine lex.gpure (want_t rfl rfl (show _ = Value.bool (decide (y24.1 = 0)) from rfl) hq51) (v := .int .i64 (y24.2.1.length : Int)) (pu_len (A := A27) (n := y24.2.1.length) (m := c29) Try.underlying22 rfl) ?_
          refine lex.gpure (want_t rfl rfl (show _ = Value.bool (decide (y24.1 = 0)) from rfl) hq51) (v := .bool (decide ((y24.2.1.length : Int) = 0))) (pu_eql (k := .i64) (a := (y24.2.1.length : Int)) (b := 0) rfl rfl) ?_
          refine lex.pure (v := .bool (decide ((y24.2.1.length : Int) = 0))) (pu_pickT (q := (decide (y24.1 = 0))) rfl hq51 rfl) ?_
          refine lex.pure (v := .bool (decide ((y24.2.1.length : Int) = 0))) (pu_move rfl) ?_
          rcases bS (decide ((y24.2.1.length : Int) = 0)) with hq52 | hq52
          · replace hb := (cT hq52).symm.trans hb
            refine lex.gval (want_t rfl rfl (show _ = Value.bool (decide ((y24.2.1.length : Int) = 0)) from rfl) hq52) (v := .agg #[.int .i64 y24.2.2.1, .int .i64 y24.2.2.2.1, .int .i64 y24.2.2.2.2.1]) (ld_blk (hC.bx (i := 0) rfl) Try.isAgg28 Try.sizeOf28 e9) ?_
            refine lex.gpure (want_t rfl rfl (show _ = Value.bool (decide ((y24.2.1.length : Int) = 0)) from rfl) hq52) (v := .agg #[.int .i64 0, .int .i64 0, .int .i64 0]) (pu_builds (places := [(0, 1), (1, 1), (2, 1)]) (pv := []) Try.type28 Try.underlying28 rfl (mp_cons Try.type3 (mp_cons Try.type3 (mp_cons Try.type3 mp_nil rfl rfl) rfl rfl) rfl rfl) rfl (by simp [Instr.fill, Value.cells])) ?_
            refine lex.gpure (want_t rfl rfl (show _ = Value.bool (decide ((y24.2.1.length : Int) = 0)) from rfl) hq52) (v := .bool (decide (y24.2.2.1 = 0) && (decide (y24.2.2.2.1 = 0) && (decide (y24.2.2.2.2.1 = 0) && true)))) (pu_eqls Try.underlying28 (by kernel_rfl) (by kernel_rfl) rfl rfl (eqF_cons (by decide) Try.underlying3 Try.isAgg3 rfl rfl (eqF_cons (by decide) Try.underlying3 Try.isAgg3 rfl rfl (eqF_cons (by decide) Try.underlying3 Try.isAgg3 rfl rfl eqF_nil)))) ?_
            refine lex.pure (v := .bool (decide (y24.2.2.1 = 0) && (decide (y24.2.2.2.1 = 0) && (decide (y24.2.2.2.2.1 = 0) && true)))) (pu_pickT (q := (decide ((y24.2.1.length : Int) = 0))) rfl hq52 rfl) ?_
            refine lex.pure (v := .bool (decide (y24.2.2.1 = 0) && (decide (y24.2.2.2.1 = 0) && (decide (y24.2.2.2.2.1 = 0) && true)))) (pu_assign rfl) ?_
            refine lex.nil ?_
            refine hK50 _ _ ?_
            obtain rfl := Option.some.inj hb
            refine Wc.ret ?_
            refine hKR _ _ ?_
            refine ⟨_, res1 Try.results4 (show RV _ _ _ (.tmp _) (.bool (decide (y24.2.2.1 = 0) && (decide (y24.2.2.2.1 = 0) && (decide (y24.2.2.2.2.1 = 0) && true)))) from rfl), _, rfl, rfl, hC.sel [] (by decide)⟩
          · replace hb := (cF hq52).symm.trans hb
            refine lex.gskip (want_f rfl rfl (show _ = Value.bool (decide ((y24.2.1.length : Int) = 0)) from rfl) hq52) ?_
            refine lex.gskip (want_f rfl rfl (show _ = Value.bool (decide ((y24.2.1.length : Int) = 0)) from rfl) hq52) ?_
            refine lex.gskip (want_f rfl rfl (show _ = Value.bool (decide ((y24.2.1.length : Int) = 0)) from rfl) hq52) ?_
            refine lex.pure (v := .bool false) (pu_pickF (q := (decide ((y24.2.1.length : Int) = 0))) rfl hq52 rfl) ?_
            refine lex.pure (v := .bool false) (pu_assign rfl) ?_
            refine lex.nil ?_
            refine hK50 _ _ ?_
            obtain rfl := Option.some.inj hb
            refine Wc.ret ?_
            refine hKR _ _ ?_
            refine ⟨_, res1 Try.results4 (show RV _ _ _ (.tmp _) (.bool false) from rfl), _, rfl, rfl, hC.sel [] (by decide)⟩
        · replace hb := (cF hq51).symm.trans hb
          refine lex.gskip (want_f rfl rfl (show _ = Value.bool (decide (y24.1 = 0)) from rfl) hq51) ?_
          refine lex.gskip (want_f rfl rfl (show _ = Value.bool (decide (y24.1 = 0)) from rfl) hq51) ?_
          refine lex.gskip (want_f rfl rfl (show _ = Value.bool (decide (y24.1 = 0)) from rfl) hq51) ?_
          refine lex.gskip (want_f rfl rfl (show _ = Value.bool (decide (y24.1 = 0)) from rfl) hq51) ?_
          refine lex.pure (v := .bool false) (pu_pickF (q := (decide (y24.1 = 0))) rfl hq51 rfl) ?_
          refine lex.pure (v := .bool false) (pu_move rfl) ?_
          refine lex.gskip (want_f rfl rfl (show _ = Value.bool false from rfl) rfl) ?_
          refine lex.gskip (want_f rfl rfl (show _ = Value.bool false from rfl) rfl) ?_
          refine lex.gskip (want_f rfl rfl (show _ = Value.bool false from rfl) rfl) ?_
          refine lex.pure (v := .bool false) (pu_pickF (q := false) rfl rfl rfl) ?_
          refine lex.pure (v := .bool false) (pu_assign rfl) ?_
          refine lex.nil ?_
          refine hK50 _ _ ?_
          obtain rfl := Option.some.inj hb
          refine Wc.ret ?_
          refine hKR _ _ ?_
          refine ⟨_, res1 Try.results4 (show RV _ _ _ (.tmp _) (.bool false) from rfl), _, rfl, rfl, hC.sel [] (by decide)⟩
      · replace hb := (cF hq49).symm.trans hb
        refine Wc.skip ?_
        refine hK47 _ _ ?_
        refine Wc.seq fun K53 hK53 => ?_
        refine Wc.region (by decide +kernel) ?_
        refine lex.val (v := .agg #[.int .i64 y24.1, .slice A27 y24.2.1.length c29]) (ld_blk (hC.bx (i := 1) rfl) Try.isAgg27 Try.sizeOf27 e8) ?_
        refine lex.val (v := .agg #[.int .i64 y24.2.2.1, .int .i64 y24.2.2.2.1, .int .i64 y24.2.2.2.2.1]) (ld_blk (hC.bx (i := 0) rfl) Try.isAgg28 Try.sizeOf28 e9) ?_
        obtain ⟨y54, h55, hb⟩ := bd hb
        refine lex.cl (⟨_, _, op_call (vs := [.agg #[.int .i64 y24.1, .slice A27 y24.2.1.length c29], .agg #[.int .i64 y24.2.2.1, .int .i64 y24.2.2.2.1, .int .i64 y24.2.2.2.2.1]]) Try.call12 rfl rfl rfl, markov_Apply_ok n hC.lt hr26 (hC.rd (i := 2) rfl) hr31 hr32 hr33 h55⟩) ?_
        rintro _ w65 ⟨A57, m58, c59, rfl, hr56, hr61, hr62, hr63, hr64, hK⟩
        replace hC := hC.merge hK
        clear hK
        obtain ⟨rfl, hl66, hc67⟩ := (hC.rd (i := 0) rfl).sl_len
        refine lex.pure (v := .tuple #[.agg #[.int .i64 y54.1, .slice A57 y54.2.1.length c59], .agg #[.int .i64 y54.2.2.1, .int .i64 y54.2.2.2.1, .int .i64 y54.2.2.2.2.1], .int .i64 y54.2.2.2.2.2]) (pu_move rfl) ?_
        refine lex.pure (v := .agg #[.int .i64 y54.1, .slice A57 y54.2.1.length c59]) (pu_extract rfl rfl) ?_
        refine lex.pure (v := .agg #[.int .i64 y54.2.2.1, .int .i64 y54.2.2.2.1, .int .i64 y54.2.2.2.2.1]) (pu_extract rfl rfl) ?_
        refine lex.pure (v := .int .i64 y54.2.2.2.2.2) (pu_extract rfl rfl) ?_
        refine lex.op (hC.alloc (cs := [.int .i64 0, .slice none 0 0]) Try.zeroValue27 rfl) ?_
        rintro _ w69 ⟨g68, rfl, hC, hF, hG⟩
        clear hG
        refine lex.op (hC.alloc (cs := [.int .i64 0, .int .i64 0, .int .i64 0]) Try.zeroValue28 rfl) ?_
        rintro _ w72 ⟨g71, rfl, hC, hF, hG⟩
        clear hG
        refine lex.sk (hC.seta (i := 1) (ds := [.int .i64 y54.1, .slice A57 y54.2.1.length c59]) rfl Try.type27 rfl rfl rfl rfl rfl) ?_
        rintro w74 ⟨hC, hF⟩
        refine lex.sk (hC.seta (i := 0) (ds := [.int .i64 y54.2.2.1, .int .i64 y54.2.2.2.1, .int .i64 y54.2.2.2.2.1]) rfl Try.type28 rfl rfl rfl rfl rfl) ?_
        rintro w75 ⟨hC, hF⟩
        refine lex.pure (v := .int .i64 y54.2.2.2.2.2) (pu_assign rfl) ?_
        refine lex.nil ?_
        refine hK53 _ _ ?_
        refine Wc.fresh fun E76 hE => ?_
        have e5 : E76 5 = .pointer (some ⟨g3, 0, none⟩) := (congrFun hE 5).trans e5
        have e6 : E76 6 = .bool false := (congrFun hE 6).trans e6
        have e7 : E76 7 = .pointer (some ⟨g18, 0, none⟩) := (congrFun hE 7).trans e7
        have e8 : E76 8 = .pointer (some ⟨g38, 0, none⟩) := (congrFun hE 8).trans e8
        have e11 : E76 11 = .pointer (some ⟨g68, 0, none⟩) := (congrFun hE 11).trans rfl
        have e12 : E76 12 = .pointer (some ⟨g71, 0, none⟩) := (congrFun hE 12).trans rfl
        have e13 : E76 13 = .int .i64 y54.2.2.2.2.2 := (congrFun hE 13).trans rfl
        clear hE
        refine Wc.seq fun K77 hK77 => ?_
        refine Wc.region (by decide +kernel) ?_
        refine lex.val (v := .agg #[.int .i64 y24.1, .slice A27 y24.2.1.length c29]) (ld_blk (hC.bx (i := 4) rfl) Try.isAgg27 Try.sizeOf27 e8) ?_
        obtain ⟨y78, h79, hb⟩ := bd hb
        refine lex.cl (⟨_, _, op_call (vs := [.agg #[.int .i64 y24.1, .slice A27 y24.2.1.length c29]]) Try.call15 rfl rfl rfl, braid_Valid_ok n hC.lt hr26 (hC.rd (i := 5) rfl) h79⟩) ?_
        rintro _ w80 ⟨rfl, hK⟩
        replace hC := hC.merge hK
        clear hK
        refine lex.pure (v := .bool y78) (pu_move rfl) ?_
        rcases bS y78 with hq81 | hq81
        · replace hb := (cT hq81).symm.trans hb
          refine lex.gpure (want_t rfl rfl (show _ = Value.bool y78 from rfl) hq81) (v := .int .i64 y54.2.2.2.2.2) (pu_move e13) ?_
          refine lex.gpure (want_t rfl rfl (show _ = Value.bool y78 from rfl) hq81) (v := .bool (decide (y54.2.2.2.2.2 = 0))) (pu_eql (k := .i64) (a := y54.2.2.2.2.2) (b := 0) rfl rfl) ?_
          refine lex.pure (v := .bool (decide (y54.2.2.2.2.2 = 0))) (pu_pickT (q := y78) rfl hq81 rfl) ?_
          refine lex.pure (v := .bool (decide (y54.2.2.2.2.2 = 0))) (pu_move rfl) ?_
          rcases bS (decide (y54.2.2.2.2.2 = 0)) with hq82 | hq82
          · replace hb := (cT hq82).symm.trans hb
            refine lex.gval (want_t rfl rfl (show _ = Value.bool (decide (y54.2.2.2.2.2 = 0)) from rfl) hq82) (v := .agg #[.int .i64 y54.1, .slice A57 y54.2.1.length c59]) (ld_blk (hC.bx (i := 1) rfl) Try.isAgg27 Try.sizeOf27 e11) ?_
            refine lex.gval (want_t rfl rfl (show _ = Value.bool (decide (y54.2.2.2.2.2 = 0)) from rfl) hq82) (v := .agg #[.int .i64 strands_0, .slice Aword_1 word_1.length cword_1]) (ld_blk (hC.bx (i := 6) rfl) Try.isAgg27 Try.sizeOf27 e7) ?_
            obtain ⟨y83, h84, hb⟩ := bd hb
            refine lex.gcl (want_t rfl rfl (show _ = Value.bool (decide (y54.2.2.2.2.2 = 0)) from rfl) hq82) (⟨_, _, op_call (vs := [.agg #[.int .i64 y54.1, .slice A57 y54.2.1.length c59], .agg #[.int .i64 strands_0, .slice Aword_1 word_1.length cword_1]]) Try.call16 rfl rfl rfl, law36_equal_ok n hC.lt hr56 (hC.rd (i := 2) rfl) hstrands_0 (hC.rd (i := 8) rfl) h84⟩) ?_
            rintro _ w85 ⟨rfl, hK⟩
            replace hC := hC.merge hK
            clear hK
            refine lex.pure (v := .bool y83) (pu_pickT (q := (decide (y54.2.2.2.2.2 = 0))) rfl hq82 rfl) ?_
            refine lex.pure (v := .bool y83) (pu_move rfl) ?_
            rcases bS y83 with hq86 | hq86
            · replace hb := (cT hq86).symm.trans hb
              refine lex.gval (want_t rfl rfl (show _ = Value.bool y83 from rfl) hq86) (v := .agg #[.int .i64 y54.2.2.1, .int .i64 y54.2.2.2.1, .int .i64 y54.2.2.2.2.1]) (ld_blk (hC.bx (i := 0) rfl) Try.isAgg28 Try.sizeOf28 e12) ?_
              refine lex.gval (want_t rfl rfl (show _ = Value.bool y83 from rfl) hq86) (v := .agg #[.int .i64 s_2_0, .int .i64 s_2_1, .int .i64 s_2_2]) (ld_blk (hC.bx (i := 7) rfl) Try.isAgg24 Try.sizeOf24 e5) ?_
              refine lex.gpure (want_t rfl rfl (show _ = Value.bool y83 from rfl) hq86) (v := .bool (decide (y54.2.2.1 = s_2_0) && (decide (y54.2.2.2.1 = s_2_1) && (decide (y54.2.2.2.2.1 = s_2_2) && true)))) (pu_eqls Try.underlying28 (by kernel_rfl) (by kernel_rfl) rfl rfl (eqF_cons (by decide) Try.underlying3 Try.isAgg3 rfl rfl (eqF_cons (by decide) Try.underlying3 Try.isAgg3 rfl rfl (eqF_cons (by decide) Try.underlying3 Try.isAgg3 rfl rfl eqF_nil)))) ?_
              refine lex.pure (v := .bool (decide (y54.2.2.1 = s_2_0) && (decide (y54.2.2.2.1 = s_2_1) && (decide (y54.2.2.2.2.1 = s_2_2) && true)))) (pu_pickT (q := y83) rfl hq86 rfl) ?_
              refine lex.pure (v := .bool (decide (y54.2.2.1 = s_2_0) && (decide (y54.2.2.2.1 = s_2_1) && (decide (y54.2.2.2.2.1 = s_2_2) && true)))) (pu_assign rfl) ?_
              refine lex.nil ?_
              refine hK77 _ _ ?_
              obtain rfl := Option.some.inj hb
              refine Wc.ret ?_
              refine hKR _ _ ?_
              refine ⟨_, res1 Try.results4 (show RV _ _ _ (.tmp _) (.bool (decide (y54.2.2.1 = s_2_0) && (decide (y54.2.2.2.1 = s_2_1) && (decide (y54.2.2.2.2.1 = s_2_2) && true)))) from rfl), _, rfl, rfl, hC.sel [] (by decide)⟩
            · replace hb := (cF hq86).symm.trans hb
              refine lex.gskip (want_f rfl rfl (show _ = Value.bool y83 from rfl) hq86) ?_
              refine lex.gskip (want_f rfl rfl (show _ = Value.bool y83 from rfl) hq86) ?_
              refine lex.gskip (want_f rfl rfl (show _ = Value.bool y83 from rfl) hq86) ?_
              refine lex.pure (v := .bool false) (pu_pickF (q := y83) rfl hq86 rfl) ?_
              refine lex.pure (v := .bool false) (pu_assign rfl) ?_
              refine lex.nil ?_
              refine hK77 _ _ ?_
              obtain rfl := Option.some.inj hb
              refine Wc.ret ?_
              refine hKR _ _ ?_
              refine ⟨_, res1 Try.results4 (show RV _ _ _ (.tmp _) (.bool false) from rfl), _, rfl, rfl, hC.sel [] (by decide)⟩
          · replace hb := (cF hq82).symm.trans hb
            refine lex.gskip (want_f rfl rfl (show _ = Value.bool (decide (y54.2.2.2.2.2 = 0)) from rfl) hq82) ?_
            refine lex.gskip (want_f rfl rfl (show _ = Value.bool (decide (y54.2.2.2.2.2 = 0)) from rfl) hq82) ?_
            refine lex.gskip (want_f rfl rfl (show _ = Value.bool (decide (y54.2.2.2.2.2 = 0)) from rfl) hq82) ?_
            refine lex.pure (v := .bool false) (pu_pickF (q := (decide (y54.2.2.2.2.2 = 0))) rfl hq82 rfl) ?_
            refine lex.pure (v := .bool false) (pu_move rfl) ?_
            refine lex.gskip (want_f rfl rfl (show _ = Value.bool false from rfl) rfl) ?_
            refine lex.gskip (want_f rfl rfl (show _ = Value.bool false from rfl) rfl) ?_
            refine lex.gskip (want_f rfl rfl (show _ = Value.bool false from rfl) rfl) ?_
            refine lex.pure (v := .bool false) (pu_pickF (q := false) rfl rfl rfl) ?_
            refine lex.pure (v := .bool false) (pu_assign rfl) ?_
            refine lex.nil ?_
            refine hK77 _ _ ?_
            obtain rfl := Option.some.inj hb
            refine Wc.ret ?_
            refine hKR _ _ ?_
            refine ⟨_, res1 Try.results4 (show RV _ _ _ (.tmp _) (.bool false) from rfl), _, rfl, rfl, hC.sel [] (by decide)⟩
        · replace hb := (cF hq81).symm.trans hb
          refine lex.gskip (want_f rfl rfl (show _ = Value.bool y78 from rfl) hq81) ?_
          refine lex.gskip (want_f rfl rfl (show _ = Value.bool y78 from rfl) hq81) ?_
          refine lex.pure (v := .bool false) (pu_pickF (q := y78) rfl hq81 rfl) ?_
          refine lex.pure (v := .bool false) (pu_move rfl) ?_
          refine lex.gskip (want_f rfl rfl (show _ = Value.bool false from rfl) rfl) ?_
          refine lex.gskip (want_f rfl rfl (show _ = Value.bool false from rfl) rfl) ?_
          refine lex.gskip (want_f rfl rfl (show _ = Value.bool false from rfl) rfl) ?_
          refine lex.pure (v := .bool false) (pu_pickF (q := false) rfl rfl rfl) ?_
          refine lex.pure (v := .bool false) (pu_move rfl) ?_
          refine lex.gskip (want_f rfl rfl (show _ = Value.bool false from rfl) rfl) ?_
          refine lex.gskip (want_f rfl rfl (show _ = Value.bool false from rfl) rfl) ?_
          refine lex.gskip (want_f rfl rfl (show _ = Value.bool false from rfl) rfl) ?_
          refine lex.pure (v := .bool false) (pu_pickF (q := false) rfl rfl rfl) ?_
          refine lex.pure (v := .bool false) (pu_assign rfl) ?_
          refine lex.nil ?_
          refine hK77 _ _ ?_
          obtain rfl := Option.some.inj hb
          refine Wc.ret ?_
          refine hKR _ _ ?_
          refine ⟨_, res1 Try.results4 (show RV _ _ _ (.tmp _) (.bool false) from rfl), _, rfl, rfl, hC.sel [] (by decide)⟩
end Go.Proofs.Ytkjpldmelafooaa
