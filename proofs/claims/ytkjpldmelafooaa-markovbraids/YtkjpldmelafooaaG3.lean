/- The walks: part 3. -/
import Derived.Test.YtkjpldmelafooaaS
import Derived.Test.YtkjpldmelafooaaG0
import Derived.Test.YtkjpldmelafooaaG1
import Derived.Test.YtkjpldmelafooaaG2
set_option linter.unusedVariables false
set_option linter.unusedSimpArgs false
namespace Go.Proofs.Ytkjpldmelafooaa
open Ev
set_option maxRecDepth 100000 in
set_option maxHeartbeats 4000000 in
theorem markov_Apply_ok (n : Nat) {w : World} {O0 : List Nat} (hO : ∀ k ∈ O0, k < w.heap.size) {b_0_0 : Int} (hb_0_0 : I64 b_0_0) {Ab_0_1 : Option Addr} {mb_0_1 cb_0_1 : Nat} {b_0_1 : List Int} (hb_0_1 : Rep O0 w (.sl (.int .i64)) [.slice Ab_0_1 mb_0_1 cb_0_1] b_0_1) {s_1_0 : Int} (hs_1_0 : I64 s_1_0) {s_1_1 : Int} (hs_1_1 : I64 s_1_1) {s_1_2 : Int} (hs_1_2 : I64 s_1_2) {r : Int × (List Int) × Int × Int × Int × Int} (hb : F.markov_Apply n b_0_0 b_0_1 s_1_0 s_1_1 s_1_2 = some r) :
    Calls Try.prog 12 #[.agg #[.int .i64 b_0_0, .slice Ab_0_1 mb_0_1 cb_0_1], .agg #[.int .i64 s_1_0, .int .i64 s_1_1, .int .i64 s_1_2]] w fun e w' => ∃ v, e = .returned v ∧ ∃ (A1 : Option Addr) (m1 c1 : Nat), v = .tuple #[.agg #[.int .i64 r.1, .slice A1 m1 c1], .agg #[.int .i64 r.2.2.1, .int .i64 r.2.2.2.1, .int .i64 r.2.2.2.2.1], .int .i64 r.2.2.2.2.2] ∧ I64 r.1 ∧ I64 r.2.2.1 ∧ I64 r.2.2.2.1 ∧ I64 r.2.2.2.2.1 ∧ I64 r.2.2.2.2.2 ∧ Cx (fun _ => False) O0 w w' [.ro (.sl (.int .i64)) [.slice A1 m1 c1] r.2.1] := by
  unfold F.markov_Apply at hb
  have hC := Cx.start hO
  replace hC := hC.arg rfl hb_0_1
  clear hO
  obtain ⟨rfl, hlb_0_1, hcb_0_1⟩ := hb_0_1.sl_len
  refine calls_of_Wc Try.func12 rfl (by rw [Try.ntmps12]; exact Nat.le_of_ble_eq_true rfl) fun KR hKR => ?_
  refine Wc.seq fun K2 hK2 => ?_
  refine Wc.region (by decide +kernel) ?_
  refine lex.op (hC.box (cs := [.int .i64 b_0_0, .slice Ab_0_1 b_0_1.length cb_0_1]) rfl rfl) ?_
  rintro _ w4 ⟨g3, rfl, hC, hF, hG⟩
  clear hG
  refine lex.op (hC.box (cs := [.int .i64 s_1_0, .int .i64 s_1_1, .int .i64 s_1_2]) rfl rfl) ?_
  rintro _ w7 ⟨g6, rfl, hC, hF, hG⟩
  clear hG
  refine lex.op (hC.alloc (cs := [.int .i64 0, .slice none 0 0]) Try.zeroValue27 rfl) ?_
  rintro _ w10 ⟨g9, rfl, hC, hF, hG⟩
  clear hG
  refine lex.op (hC.alloc (cs := [.int .i64 0, .int .i64 0, .int .i64 0]) Try.zeroValue28 rfl) ?_
  rintro _ w13 ⟨g12, rfl, hC, hF, hG⟩
  clear hG
  refine lex.pure (v := .int .i64 0) (pu_assign rfl) ?_
  refine lex.nil ?_
  refine hK2 _ _ ?_
  refine Wc.seq fun K15 hK15 => ?_
  refine Wc.seq fun K16 hK16 => ?_
  refine Wc.region (by decide +kernel) ?_
  refine lex.val (v := .agg #[.int .i64 b_0_0, .slice Ab_0_1 b_0_1.length cb_0_1]) (ld_blk (hC.bx (i := 3) rfl) Try.isAgg27 Try.sizeOf27 rfl) ?_
  obtain ⟨y17, h18, hb⟩ := bd hb
  refine lex.cl (⟨_, _, op_call (vs := [.agg #[.int .i64 b_0_0, .slice Ab_0_1 b_0_1.length cb_0_1]]) Try.call15 rfl rfl rfl, braid_Valid_ok n hC.lt hb_0_0 (hC.rd (i := 4) rfl) h18⟩) ?_
  rintro _ w19 ⟨rfl, hK⟩
  replace hC := hC.merge hK
  clear hK
  refine lex.pure (v := .bool (!y17)) (pu_not (q := y17) rfl) ?_
  refine lex.nil ?_
  refine hK16 _ _ ?_
  refine Wc.cond (t := (!y17)) (rfl) (fun hq20 => ?_) (fun hq20 => ?_)
  · replace hb := (cT hq20).symm.trans hb
    refine Wc.seq fun K21 hK21 => ?_
    refine Wc.region (by decide +kernel) ?_
    refine lex.pure (v := .agg #[.int .i64 0, .slice none 0 0]) (pu_builds (places := [(0, 1), (1, 1)]) (pv := []) Try.type27 Try.underlying27 rfl (mp_cons Try.type3 (mp_cons Try.type22 mp_nil rfl rfl) rfl rfl) rfl (by simp [Instr.fill, Value.cells])) ?_
    refine lex.pure (v := .agg #[.int .i64 0, .int .i64 0, .int .i64 0]) (pu_builds (places := [(0, 1), (1, 1), (2, 1)]) (pv := []) Try.type28 Try.underlying28 rfl (mp_cons Try.type3 (mp_cons Try.type3 (mp_cons Try.type3 mp_nil rfl rfl) rfl rfl) rfl rfl) rfl (by simp [Instr.fill, Value.cells])) ?_
    refine lex.sk (hC.seta (i := 1) (ds := [.int .i64 0, .slice none 0 0]) rfl Try.type27 rfl rfl rfl rfl rfl) ?_
    rintro w22 ⟨hC, hF⟩
    refine lex.sk (hC.seta (i := 0) (ds := [.int .i64 0, .int .i64 0, .int .i64 0]) rfl Try.type28 rfl rfl rfl rfl rfl) ?_
    rintro w23 ⟨hC, hF⟩
    refine lex.pure (v := .int .i64 1) (pu_assign rfl) ?_
    refine lex.nil ?_
    refine hK21 _ _ ?_
    replace hC := hC.ro (show Rep _ _ (.sl (.int .i64)) [.slice none 0 0] [] from ⟨none, 0, rfl, Nat.le_refl _, by omega, fun h => absurd h (by simp)⟩)
    obtain rfl := Option.some.inj hb
    refine Wc.ret ?_
    refine hKR _ _ ?_
    refine ⟨_, res3 Try.results12 ⟨_, rfl, loadVar_blk (hC.bx (i := 2) rfl) Try.isAgg27 Try.sizeOf27⟩ ⟨_, rfl, loadVar_blk (hC.bx (i := 1) rfl) Try.isAgg28 Try.sizeOf28⟩ (show RV _ _ _ (.tmp _) (.int .i64 1) from rfl), _, rfl, none, 0, 0, rfl, (show I64 0 from by unfold I64; omega), (show I64 0 from by unfold I64; omega), (show I64 0 from by unfold I64; omega), (show I64 0 from by unfold I64; omega), (show I64 1 from by unfold I64; omega), hC.sel [0] (by decide)⟩
  · replace hb := (cF hq20).symm.trans hb
    refine Wc.skip ?_
    refine hK15 _ _ ?_
    refine Wc.seq fun K25 hK25 => ?_
    refine Wc.seq fun K26 hK26 => ?_
    refine Wc.region (by decide +kernel) ?_
    refine lex.pure (v := .pointer (some ((⟨g6, 0, none⟩ : Addr).add 0))) (pu_field (sz := 1) Try.underlying28 rfl Try.sizeOf3 (by decide) rfl rfl) ?_
    refine lex.val (v := .int .i64 s_1_0) (ld_fld (hC.bx (i := 2) rfl) Try.isAgg3 rfl rfl) ?_
    refine lex.pure (v := .bool (decide (s_1_0 < 1))) (pu_lss (k := .i64) (a := s_1_0) (b := 1) rfl rfl) ?_
    refine lex.pure (v := .bool (decide (s_1_0 < 1))) (pu_move rfl) ?_
    rcases bS (decide (s_1_0 < 1)) with hq27 | hq27
    · replace hb := (cT hq27).symm.trans hb
      refine lex.gskip (want_f rfl rfl (show _ = Value.bool (decide (s_1_0 < 1)) from rfl) hq27) ?_
      refine lex.gskip (want_f rfl rfl (show _ = Value.bool (decide (s_1_0 < 1)) from rfl) hq27) ?_
      refine lex.gskip (want_f rfl rfl (show _ = Value.bool (decide (s_1_0 < 1)) from rfl) hq27) ?_
      refine lex.pure (v := .bool true) (pu_pickT (q := (decide (s_1_0 < 1))) rfl hq27 rfl) ?_
      refine lex.nil ?_
      refine hK26 _ _ ?_
      refine Wc.fresh fun E28 hE => ?_
      have e2 : E28 2 = .pointer (some ⟨g3, 0, none⟩) := (congrFun hE 2).trans rfl
      have e3 : E28 3 = .pointer (some ⟨g6, 0, none⟩) := (congrFun hE 3).trans rfl
      have e4 : E28 4 = .pointer (some ⟨g9, 0, none⟩) := (congrFun hE 4).trans rfl
      have e5 : E28 5 = .pointer (some ⟨g12, 0, none⟩) := (congrFun hE 5).trans rfl
      have e6 : E28 6 = .int .i64 0 := (congrFun hE 6).trans rfl
      have e21 : E28 21 = .bool true := (congrFun hE 21).trans rfl
      clear hE
      refine Wc.cond_true (e21) ?_
      refine Wc.seq fun K29 hK29 => ?_
      refine Wc.region (by decide +kernel) ?_
      refine lex.pure (v := .agg #[.int .i64 0, .slice none 0 0]) (pu_builds (places := [(0, 1), (1, 1)]) (pv := []) Try.type27 Try.underlying27 rfl (mp_cons Try.type3 (mp_cons Try.type22 mp_nil rfl rfl) rfl rfl) rfl (by simp [Instr.fill, Value.cells])) ?_
      refine lex.pure (v := .agg #[.int .i64 0, .int .i64 0, .int .i64 0]) (pu_builds (places := [(0, 1), (1, 1), (2, 1)]) (pv := []) Try.type28 Try.underlying28 rfl (mp_cons Try.type3 (mp_cons Try.type3 (mp_cons Try.type3 mp_nil rfl rfl) rfl rfl) rfl rfl) rfl (by simp [Instr.fill, Value.cells])) ?_
      refine lex.sk (hC.seta (i := 1) (ds := [.int .i64 0, .slice none 0 0]) rfl Try.type27 rfl rfl rfl e4 rfl) ?_
      rintro w30 ⟨hC, hF⟩
      refine lex.sk (hC.seta (i := 0) (ds := [.int .i64 0, .int .i64 0, .int .i64 0]) rfl Try.type28 rfl rfl rfl e5 rfl) ?_
      rintro w31 ⟨hC, hF⟩
      refine lex.pure (v := .int .i64 11) (pu_assign rfl) ?_
      refine lex.nil ?_
      refine hK29 _ _ ?_
      replace hC := hC.ro (show Rep _ _ (.sl (.int .i64)) [.slice none 0 0] [] from ⟨none, 0, rfl, Nat.le_refl _, by omega, fun h => absurd h (by simp)⟩)
      obtain rfl := Option.some.inj hb
      refine Wc.ret ?_
      refine hKR _ _ ?_
      refine ⟨_, res3 Try.results12 ⟨_, e4, loadVar_blk (hC.bx (i := 2) rfl) Try.isAgg27 Try.sizeOf27⟩ ⟨_, e5, loadVar_blk (hC.bx (i := 1) rfl) Try.isAgg28 Try.sizeOf28⟩ (show RV _ _ _ (.tmp _) (.int .i64 11) from rfl), _, rfl, none, 0, 0, rfl, (show I64 0 from by unfold I64; omega), (show I64 0 from by unfold I64; omega), (show I64 0 from by unfold I64; omega), (show I64 0 from by unfold I64; omega), (show I64 11 from by unfold I64; omega), hC.sel [0] (by decide)⟩
    · replace hb := (cF hq27).symm.trans hb
      refine lex.gpure (want_t rfl rfl (show _ = Value.bool (decide (s_1_0 < 1)) from rfl) hq27) (v := .pointer (some ((⟨g6, 0, none⟩ : Addr).add 0))) (pu_field (sz := 1) Try.underlying28 rfl Try.sizeOf3 (by decide) rfl rfl) ?_
      refine lex.gval (want_t rfl rfl (show _ = Value.bool (decide (s_1_0 < 1)) from rfl) hq27) (v := .int .i64 s_1_0) (ld_fld (hC.bx (i := 2) rfl) Try.isAgg3 rfl rfl) ?_
      refine lex.gpure (want_t rfl rfl (show _ = Value.bool (decide (s_1_0 < 1)) from rfl) hq27) (v := .bool (decide (7 < s_1_0))) (pu_gtr (k := .i64) (a := s_1_0) (b := 7) rfl rfl) ?_
      refine lex.pure (v := .bool (decide (7 < s_1_0))) (pu_pickF (q := (decide (s_1_0 < 1))) rfl hq27 rfl) ?_
      refine lex.nil ?_
      refine hK26 _ _ ?_
      refine Wc.fresh fun E33 hE => ?_
      have e2 : E33 2 = .pointer (some ⟨g3, 0, none⟩) := (congrFun hE 2).trans rfl
      have e3 : E33 3 = .pointer (some ⟨g6, 0, none⟩) := (congrFun hE 3).trans rfl
      have e4 : E33 4 = .pointer (some ⟨g9, 0, none⟩) := (congrFun hE 4).trans rfl
      have e5 : E33 5 = .pointer (some ⟨g12, 0, none⟩) := (congrFun hE 5).trans rfl
      have e6 : E33 6 = .int .i64 0 := (congrFun hE 6).trans rfl
      have e21 : E33 21 = .bool (decide (7 < s_1_0)) := (congrFun hE 21).trans rfl
      clear hE
      refine Wc.cond (t := (decide (7 < s_1_0))) (e21) (fun hq34 => ?_) (fun hq34 => ?_)
      · replace hb := (cT hq34).symm.trans hb
        refine Wc.seq fun K35 hK35 => ?_
        refine Wc.region (by decide +kernel) ?_
        refine lex.pure (v := .agg #[.int .i64 0, .slice none 0 0]) (pu_builds (places := [(0, 1), (1, 1)]) (pv := []) Try.type27 Try.underlying27 rfl (mp_cons Try.type3 (mp_cons Try.type22 mp_nil rfl rfl) rfl rfl) rfl (by simp [Instr.fill, Value.cells])) ?_
        refine lex.pure (v := .agg #[.int .i64 0, .int .i64 0, .int .i64 0]) (pu_builds (places := [(0, 1), (1, 1), (2, 1)]) (pv := []) Try.type28 Try.underlying28 rfl (mp_cons Try.type3 (mp_cons Try.type3 (mp_cons Try.type3 mp_nil rfl rfl) rfl rfl) rfl rfl) rfl (by simp [Instr.fill, Value.cells])) ?_
        refine lex.sk (hC.seta (i := 1) (ds := [.int .i64 0, .slice none 0 0]) rfl Try.type27 rfl rfl rfl e4 rfl) ?_
        rintro w36 ⟨hC, hF⟩
        refine lex.sk (hC.seta (i := 0) (ds := [.int .i64 0, .int .i64 0, .int .i64 0]) rfl Try.type28 rfl rfl rfl e5 rfl) ?_
        rintro w37 ⟨hC, hF⟩
        refine lex.pure (v := .int .i64 11) (pu_assign rfl) ?_
        refine lex.nil ?_
        refine hK35 _ _ ?_
        replace hC := hC.ro (show Rep _ _ (.sl (.int .i64)) [.slice none 0 0] [] from ⟨none, 0, rfl, Nat.le_refl _, by omega, fun h => absurd h (by simp)⟩)
        obtain rfl := Option.some.inj hb
        refine Wc.ret ?_
        refine hKR _ _ ?_
        refine ⟨_, res3 Try.results12 ⟨_, e4, loadVar_blk (hC.bx (i := 2) rfl) Try.isAgg27 Try.sizeOf27⟩ ⟨_, e5, loadVar_blk (hC.bx (i := 1) rfl) Try.isAgg28 Try.sizeOf28⟩ (show RV _ _ _ (.tmp _) (.int .i64 11) from rfl), _, rfl, none, 0, 0, rfl, (show I64 0 from by unfold I64; omega), (show I64 0 from by unfold I64; omega), (show I64 0 from by unfold I64; omega), (show I64 0 from by unfold I64; omega), (show I64 11 from by unfold I64; omega), hC.sel [0] (by decide)⟩
      · replace hb := (cF hq34).symm.trans hb
        refine Wc.skip ?_
        refine hK25 _ _ ?_
        refine Wc.seq fun K39 hK39 => ?_
        refine Wc.seq fun K40 hK40 => ?_
        refine Wc.region (by decide +kernel) ?_
        refine lex.val (v := .agg #[.int .i64 b_0_0, .slice Ab_0_1 b_0_1.length cb_0_1]) (ld_blk (hC.bx (i := 3) rfl) Try.isAgg27 Try.sizeOf27 e2) ?_
        refine lex.val (v := .agg #[.int .i64 s_1_0, .int .i64 s_1_1, .int .i64 s_1_2]) (ld_blk (hC.bx (i := 2) rfl) Try.isAgg28 Try.sizeOf28 e3) ?_
        obtain ⟨y41, h42, hb⟩ := bd hb
        refine lex.cl (⟨_, _, op_call (vs := [.agg #[.int .i64 b_0_0, .slice Ab_0_1 b_0_1.length cb_0_1], .agg #[.int .i64 s_1_0, .int .i64 s_1_1, .int .i64 s_1_2]]) Try.call31 rfl rfl rfl, markov_inTable_ok n hC.lt hb_0_0 (hC.rd (i := 4) rfl) hs_1_0 hs_1_1 hs_1_2 h42⟩) ?_
        rintro _ w43 ⟨rfl, hK⟩
        replace hC := hC.merge hK
        clear hK
        refine lex.pure (v := .bool (!y41)) (pu_not (q := y41) rfl) ?_
        refine lex.nil ?_
        refine hK40 _ _ ?_
        refine Wc.cond (t := (!y41)) (rfl) (fun hq44 => ?_) (fun hq44 => ?_)
        · replace hb := (cT hq44).symm.trans hb
          refine Wc.seq fun K45 hK45 => ?_
          refine Wc.region (by decide +kernel) ?_
          refine lex.pure (v := .agg #[.int .i64 0, .slice none 0 0]) (pu_builds (places := [(0, 1), (1, 1)]) (pv := []) Try.type27 Try.underlying27 rfl (mp_cons Try.type3 (mp_cons Try.type22 mp_nil rfl rfl) rfl rfl) rfl (by simp [Instr.fill, Value.cells])) ?_
          refine lex.pure (v := .agg #[.int .i64 0, .int .i64 0, .int .i64 0]) (pu_builds (places := [(0, 1), (1, 1), (2, 1)]) (pv := []) Try.type28 Try.underlying28 rfl (mp_cons Try.type3 (mp_cons Try.type3 (mp_cons Try.type3 mp_nil rfl rfl) rfl rfl) rfl rfl) rfl (by simp [Instr.fill, Value.cells])) ?_
          refine lex.sk (hC.seta (i := 1) (ds := [.int .i64 0, .slice none 0 0]) rfl Try.type27 rfl rfl rfl e4 rfl) ?_
          rintro w46 ⟨hC, hF⟩
          refine lex.sk (hC.seta (i := 0) (ds := [.int .i64 0, .int .i64 0, .int .i64 0]) rfl Try.type28 rfl rfl rfl e5 rfl) ?_
          rintro w47 ⟨hC, hF⟩
          refine lex.pure (v := .int .i64 2) (pu_assign rfl) ?_
          refine lex.nil ?_
          refine hK45 _ _ ?_
          replace hC := hC.ro (show Rep _ _ (.sl (.int .i64)) [.slice none 0 0] [] from ⟨none, 0, rfl, Nat.le_refl _, by omega, fun h => absurd h (by simp)⟩)
          obtain rfl := Option.some.inj hb
          refine Wc.ret ?_
          refine hKR _ _ ?_
          refine ⟨_, res3 Try.results12 ⟨_, e4, loadVar_blk (hC.bx (i := 2) rfl) Try.isAgg27 Try.sizeOf27⟩ ⟨_, e5, loadVar_blk (hC.bx (i := 1) rfl) Try.isAgg28 Try.sizeOf28⟩ (show RV _ _ _ (.tmp _) (.int .i64 2) from rfl), _, rfl, none, 0, 0, rfl, (show I64 0 from by unfold I64; omega), (show I64 0 from by unfold I64; omega), (show I64 0 from by unfold I64; omega), (show I64 0 from by unfold I64; omega), (show I64 2 from by unfold I64; omega), hC.sel [0] (by decide)⟩
        · replace hb := (cF hq44).symm.trans hb
          refine Wc.skip ?_
          refine hK39 _ _ ?_
          refine Wc.seq fun K49 hK49 => ?_
          refine Wc.seq fun K50 hK50 => ?_
          refine Wc.region (by decide +kernel) ?_
          refine lex.val (v := .agg #[.int .i64 b_0_0, .slice Ab_0_1 b_0_1.length cb_0_1]) (ld_blk (hC.bx (i := 3) rfl) Try.isAgg27 Try.sizeOf27 e2) ?_
          refine lex.val (v := .agg #[.int .i64 s_1_0, .int .i64 s_1_1, .int .i64 s_1_2]) (ld_blk (hC.bx (i := 2) rfl) Try.isAgg28 Try.sizeOf28 e3) ?_
          obtain ⟨y51, h52, hb⟩ := bd hb
          refine lex.cl (⟨_, _, op_call (vs := [.agg #[.int .i64 b_0_0, .slice Ab_0_1 b_0_1.length cb_0_1], .agg #[.int .i64 s_1_0, .int .i64 s_1_1, .int .i64 s_1_2]]) Try.call32 rfl rfl rfl, markov_applicable_ok n hC.lt hb_0_0 (hC.rd (i := 4) rfl) hs_1_0 hs_1_1 hs_1_2 h52⟩) ?_
          rintro _ w53 ⟨rfl, hK⟩
          replace hC := hC.merge hK
          clear hK
          refine lex.pure (v := .bool (!y51)) (pu_not (q := y51) rfl) ?_
          refine lex.nil ?_
          refine hK50 _ _ ?_
          refine Wc.cond (t := (!y51)) (rfl) (fun hq54 => ?_) (fun hq54 => ?_)
          · replace hb := (cT hq54).symm.trans hb
            refine Wc.seq fun K55 hK55 => ?_
            refine Wc.region (by decide +kernel) ?_
            refine lex.pure (v := .agg #[.int .i64 0, .slice none 0 0]) (pu_builds (places := [(0, 1), (1, 1)]) (pv := []) Try.type27 Try.underlying27 rfl (mp_cons Try.type3 (mp_cons Try.type22 mp_nil rfl rfl) rfl rfl) rfl (by simp [Instr.fill, Value.cells])) ?_
            refine lex.pure (v := .agg #[.int .i64 0, .int .i64 0, .int .i64 0]) (pu_builds (places := [(0, 1), (1, 1), (2, 1)]) (pv := []) Try.type28 Try.underlying28 rfl (mp_cons Try.type3 (mp_cons Try.type3 (mp_cons Try.type3 mp_nil rfl rfl) rfl rfl) rfl rfl) rfl (by simp [Instr.fill, Value.cells])) ?_
            refine lex.sk (hC.seta (i := 1) (ds := [.int .i64 0, .slice none 0 0]) rfl Try.type27 rfl rfl rfl e4 rfl) ?_
            rintro w56 ⟨hC, hF⟩
            refine lex.sk (hC.seta (i := 0) (ds := [.int .i64 0, .int .i64 0, .int .i64 0]) rfl Try.type28 rfl rfl rfl e5 rfl) ?_
            rintro w57 ⟨hC, hF⟩
            refine lex.pure (v := .int .i64 6) (pu_assign rfl) ?_
            refine lex.nil ?_
            refine hK55 _ _ ?_
            replace hC := hC.ro (show Rep _ _ (.sl (.int .i64)) [.slice none 0 0] [] from ⟨none, 0, rfl, Nat.le_refl _, by omega, fun h => absurd h (by simp)⟩)
            obtain rfl := Option.some.inj hb
            refine Wc.ret ?_
            refine hKR _ _ ?_
            refine ⟨_, res3 Try.results12 ⟨_, e4, loadVar_blk (hC.bx (i := 2) rfl) Try.isAgg27 Try.sizeOf27⟩ ⟨_, e5, loadVar_blk (hC.bx (i := 1) rfl) Try.isAgg28 Try.sizeOf28⟩ (show RV _ _ _ (.tmp _) (.int .i64 6) from rfl), _, rfl, none, 0, 0, rfl, (show I64 0 from by unfold I64; omega), (show I64 0 from by unfold I64; omega), (show I64 0 from by unfold I64; omega), (show I64 0 from by unfold I64; omega), (show I64 6 from by unfold I64; omega), hC.sel [0] (by decide)⟩
          · replace hb := (cF hq54).symm.trans hb
            refine Wc.skip ?_
            refine hK49 _ _ ?_
            refine Wc.seq fun K59 hK59 => ?_
            refine Wc.region (by decide +kernel) ?_
            refine lex.val (v := .agg #[.int .i64 b_0_0, .slice Ab_0_1 b_0_1.length cb_0_1]) (ld_blk (hC.bx (i := 3) rfl) Try.isAgg27 Try.sizeOf27 e2) ?_
            refine lex.val (v := .agg #[.int .i64 s_1_0, .int .i64 s_1_1, .int .i64 s_1_2]) (ld_blk (hC.bx (i := 2) rfl) Try.isAgg28 Try.sizeOf28 e3) ?_
            obtain ⟨y60, h61, hb⟩ := bd hb
            refine lex.cl (⟨_, _, op_call (vs := [.agg #[.int .i64 b_0_0, .slice Ab_0_1 b_0_1.length cb_0_1], .agg #[.int .i64 s_1_0, .int .i64 s_1_1, .int .i64 s_1_2]]) Try.call33 rfl rfl rfl, markov_change_ok n hC.lt hb_0_0 (hC.rd (i := 4) rfl) hs_1_0 hs_1_1 hs_1_2 h61⟩) ?_
            rintro _ w70 ⟨A63, m64, c65, rfl, hr62, hr67, hr68, hr69, hK⟩
            replace hC := hC.merge hK
            clear hK
            obtain ⟨rfl, hl71, hc72⟩ := (hC.rd (i := 0) rfl).sl_len
            refine lex.pure (v := .tuple #[.agg #[.int .i64 y60.1, .slice A63 y60.2.1.length c65], .agg #[.int .i64 y60.2.2.1, .int .i64 y60.2.2.2.1, .int .i64 y60.2.2.2.2]]) (pu_move rfl) ?_
            refine lex.pure (v := .agg #[.int .i64 y60.1, .slice A63 y60.2.1.length c65]) (pu_extract rfl rfl) ?_
            refine lex.pure (v := .agg #[.int .i64 y60.2.2.1, .int .i64 y60.2.2.2.1, .int .i64 y60.2.2.2.2]) (pu_extract rfl rfl) ?_
            refine lex.op (hC.alloc (cs := [.int .i64 0, .slice none 0 0]) Try.zeroValue27 rfl) ?_
            rintro _ w74 ⟨g73, rfl, hC, hF, hG⟩
            clear hG
            refine lex.op (hC.alloc (cs := [.int .i64 0, .int .i64 0, .int .i64 0]) Try.zeroValue28 rfl) ?_
            rintro _ w77 ⟨g76, rfl, hC, hF, hG⟩
            clear hG
            refine lex.sk (hC.seta (i := 1) (ds := [.int .i64 y60.1, .slice A63 y60.2.1.length c65]) rfl Try.type27 rfl rfl rfl rfl rfl) ?_
            rintro w79 ⟨hC, hF⟩
            refine lex.sk (hC.seta (i := 0) (ds := [.int .i64 y60.2.2.1, .int .i64 y60.2.2.2.1, .int .i64 y60.2.2.2.2]) rfl Try.type28 rfl rfl rfl rfl rfl) ?_
            rintro w80 ⟨hC, hF⟩
            refine lex.nil ?_
            refine hK59 _ _ ?_
            refine Wc.fresh fun E81 hE => ?_
            have e4 : E81 4 = .pointer (some ⟨g9, 0, none⟩) := (congrFun hE 4).trans e4
            have e5 : E81 5 = .pointer (some ⟨g12, 0, none⟩) := (congrFun hE 5).trans e5
            have e6 : E81 6 = .int .i64 0 := (congrFun hE 6).trans e6
            have e7 : E81 7 = .pointer (some ⟨g73, 0, none⟩) := (congrFun hE 7).trans rfl
            have e8 : E81 8 = .pointer (some ⟨g76, 0, none⟩) := (congrFun hE 8).trans rfl
            clear hE
            refine Wc.seq fun K82 hK82 => ?_
            refine Wc.seq fun K83 hK83 => ?_
            refine Wc.region (by decide +kernel) ?_
            refine lex.pure (v := .pointer (some ((⟨g73, 0, none⟩ : Addr).add 0))) (pu_field (sz := 1) Try.underlying27 rfl Try.sizeOf3 (by decide) rfl e7) ?_
            refine lex.val (v := .int .i64 y60.1) (ld_fld (hC.bx (i := 1) rfl) Try.isAgg3 rfl rfl) ?_
            refine lex.pure (v := .bool (decide (10 < y60.1))) (pu_gtr (k := .i64) (a := y60.1) (b := 10) rfl rfl) ?_
            refine lex.pure (v := .bool (decide (10 < y60.1))) (pu_move rfl) ?_
            rcases bS (decide (10 < y60.1)) with hq84 | hq84
            · replace hb := (cT hq84).symm.trans hb
              refine lex.gskip (want_f rfl rfl (show _ = Value.bool (decide (10 < y60.1)) from rfl) hq84) ?_
              refine lex.gskip (want_f rfl rfl (show _ = Value.bool (decide (10 < y60.1)) from rfl) hq84) ?_
              refine lex.gskip (want_f rfl rfl (show _ = Value.bool (decide (10 < y60.1)) from rfl) hq84) ?_
              refine lex.gskip (want_f rfl rfl (show _ = Value.bool (decide (10 < y60.1)) from rfl) hq84) ?_
              refine lex.pure (v := .bool true) (pu_pickT (q := (decide (10 < y60.1))) rfl hq84 rfl) ?_
              refine lex.nil ?_
              refine hK83 _ _ ?_
              refine Wc.cond_true (rfl) ?_
              refine Wc.seq fun K85 hK85 => ?_
              refine Wc.region (by decide +kernel) ?_
              refine lex.pure (v := .agg #[.int .i64 0, .slice none 0 0]) (pu_builds (places := [(0, 1), (1, 1)]) (pv := []) Try.type27 Try.underlying27 rfl (mp_cons Try.type3 (mp_cons Try.type22 mp_nil rfl rfl) rfl rfl) rfl (by simp [Instr.fill, Value.cells])) ?_
              refine lex.pure (v := .agg #[.int .i64 0, .int .i64 0, .int .i64 0]) (pu_builds (places := [(0, 1), (1, 1), (2, 1)]) (pv := []) Try.type28 Try.underlying28 rfl (mp_cons Try.type3 (mp_cons Try.type3 (mp_cons Try.type3 mp_nil rfl rfl) rfl rfl) rfl rfl) rfl (by simp [Instr.fill, Value.cells])) ?_
              refine lex.sk (hC.seta (i := 4) (ds := [.int .i64 0, .slice none 0 0]) rfl Try.type27 rfl rfl rfl e4 rfl) ?_
              rintro w86 ⟨hC, hF⟩
              refine lex.sk (hC.seta (i := 3) (ds := [.int .i64 0, .int .i64 0, .int .i64 0]) rfl Try.type28 rfl rfl rfl e5 rfl) ?_
              rintro w87 ⟨hC, hF⟩
              refine lex.pure (v := .int .i64 5) (pu_assign rfl) ?_
              refine lex.nil ?_
              refine hK85 _ _ ?_
              replace hC := hC.ro (show Rep _ _ (.sl (.int .i64)) [.slice none 0 0] [] from ⟨none, 0, rfl, Nat.le_refl _, by omega, fun h => absurd h (by simp)⟩)
              obtain rfl := Option.some.inj hb
              refine Wc.ret ?_
              refine hKR _ _ ?_
              refine ⟨_, res3 Try.results12 ⟨_, e4, loadVar_blk (hC.bx (i := 5) rfl) Try.isAgg27 Try.sizeOf27⟩ ⟨_, e5, loadVar_blk (hC.bx (i := 4) rfl) Try.isAgg28 Try.sizeOf28⟩ (show RV _ _ _ (.tmp _) (.int .i64 5) from rfl), _, rfl, none, 0, 0, rfl, (show I64 0 from by unfold I64; omega), (show I64 0 from by unfold I64; omega), (show I64 0 from by unfold I64; omega), (show I64 0 from by unfold I64; omega), (show I64 5 from by unfold I64; omega), hC.sel [0] (by decide)⟩
            · replace hb := (cF hq84).symm.trans hb
              refine lex.gpure (want_t rfl rfl (show _ = Value.bool (decide (10 < y60.1)) from rfl) hq84) (v := .pointer (some ((⟨g73, 0, none⟩ : Addr).add 1))) (pu_field (sz := 1) Try.underlying27 rfl Try.sizeOf22 (by decide) rfl e7) ?_
              refine lex.gval (want_t rfl rfl (show _ = Value.bool (decide (10 < y60.1)) from rfl) hq84) (v := .slice A63 y60.2.1.length c65) (ld_fld (hC.bx (i := 1) rfl) Try.isAgg22 rfl rfl) ?_
              refine lex.gpure (want_t rfl rfl (show _ = Value.bool (decide (10 < y60.1)) from rfl) hq84) (v := .int .i64 (y60.2.1.length : Int)) (pu_len (A := A63) (n := y60.2.1.length) (m := c65) Try.underlying22 rfl) ?_
              refine lex.gpure (want_t rfl rfl (show _ = Value.bool (decide (10 < y60.1)) from rfl) hq84) (v := .bool (decide (200 < (y60.2.1.length : Int)))) (pu_gtr (k := .i64) (a := (y60.2.1.length : Int)) (b := 200) rfl rfl) ?_
              refine lex.pure (v := .bool (decide (200 < (y60.2.1.length : Int)))) (pu_pickF (q := (decide (10 < y60.1))) rfl hq84 rfl) ?_
              refine lex.nil ?_
              refine hK83 _ _ ?_
              refine Wc.cond (t := (decide (200 < (y60.2.1.length : Int)))) (rfl) (fun hq89 => ?_) (fun hq89 => ?_)
              · replace hb := (cT hq89).symm.trans hb
                refine Wc.seq fun K90 hK90 => ?_
                refine Wc.region (by decide +kernel) ?_
                refine lex.pure (v := .agg #[.int .i64 0, .slice none 0 0]) (pu_builds (places := [(0, 1), (1, 1)]) (pv := []) Try.type27 Try.underlying27 rfl (mp_cons Try.type3 (mp_cons Try.type22 mp_nil rfl rfl) rfl rfl) rfl (by simp [Instr.fill, Value.cells])) ?_
                refine lex.pure (v := .agg #[.int .i64 0, .int .i64 0, .int .i64 0]) (pu_builds (places := [(0, 1), (1, 1), (2, 1)]) (pv := []) Try.type28 Try.underlying28 rfl (mp_cons Try.type3 (mp_cons Try.type3 (mp_cons Try.type3 mp_nil rfl rfl) rfl rfl) rfl rfl) rfl (by simp [Instr.fill, Value.cells])) ?_
                refine lex.sk (hC.seta (i := 4) (ds := [.int .i64 0, .slice none 0 0]) rfl Try.type27 rfl rfl rfl e4 rfl) ?_
                rintro w91 ⟨hC, hF⟩
                refine lex.sk (hC.seta (i := 3) (ds := [.int .i64 0, .int .i64 0, .int .i64 0]) rfl Try.type28 rfl rfl rfl e5 rfl) ?_
                rintro w92 ⟨hC, hF⟩
                refine lex.pure (v := .int .i64 5) (pu_assign rfl) ?_
                refine lex.nil ?_
                refine hK90 _ _ ?_
                replace hC := hC.ro (show Rep _ _ (.sl (.int .i64)) [.slice none 0 0] [] from ⟨none, 0, rfl, Nat.le_refl _, by omega, fun h => absurd h (by simp)⟩)
                obtain rfl := Option.some.inj hb
                refine Wc.ret ?_
                refine hKR _ _ ?_
                refine ⟨_, res3 Try.results12 ⟨_, e4, loadVar_blk (hC.bx (i := 5) rfl) Try.isAgg27 Try.sizeOf27⟩ ⟨_, e5, loadVar_blk (hC.bx (i := 4) rfl) Try.isAgg28 Try.sizeOf28⟩ (show RV _ _ _ (.tmp _) (.int .i64 5) from rfl), _, rfl, none, 0, 0, rfl, (show I64 0 from by unfold I64; omega), (show I64 0 from by unfold I64; omega), (show I64 0 from by unfold I64; omega), (show I64 0 from by unfold I64; omega), (show I64 5 from by unfold I64; omega), hC.sel [0] (by decide)⟩
              · replace hb := (cF hq89).symm.trans hb
                refine Wc.skip ?_
                refine hK82 _ _ ?_
                refine Wc.seq fun K94 hK94 => ?_
                refine Wc.regionMix [53, 54] (frm [53, 54] ([] : List Fact) [.box g9 27 [.int .i64 0, .slice none 0 0], .box g12 28 [.int .i64 0, .int .i64 0, .int .i64 0]]) (fun _ => rfl) mixed (by decide +kernel) (by decide +kernel) fun w96 hw95 => ?_
                replace hC := hC.step (Fr.of_drew hw95)
                have hM := Fr.refl (fun k => k ∈ blocks ([] : List Fact)) w96
                clear hw95
                have hS := hC
                have hD : Fr (fun k => k ∈ blocks (([] : List Fact) ++ [.box g9 27 [.int .i64 0, .slice none 0 0], .box g12 28 [.int .i64 0, .int .i64 0, .int .i64 0]])) w96 w96 := hM.wide
                have hUf11 : g9 < w96.heap.size → g9 ∈ blocks (([] : List Fact) ++ [.box g9 27 [.int .i64 0, .slice none 0 0], .box g12 28 [.int .i64 0, .int .i64 0, .int .i64 0]]) := fun _ => box_in (i := 0) rfl
                have hUf14 : g12 < w96.heap.size → g12 ∈ blocks (([] : List Fact) ++ [.box g9 27 [.int .i64 0, .slice none 0 0], .box g12 28 [.int .i64 0, .int .i64 0, .int .i64 0]]) := fun _ => box_in (i := 1) rfl
                refine mixE.steady hD (v := .agg #[.int .i64 y60.1, .slice A63 y60.2.1.length c65]) (fun _ hF => ld_blk (hS.bx2 (i := 1) rfl [4, 3] (by decide) hF) Try.isAgg27 Try.sizeOf27 e7) ?_
                refine mixE.steady hD (v := .agg #[.int .i64 y60.2.2.1, .int .i64 y60.2.2.2.1, .int .i64 y60.2.2.2.2]) (fun _ hF => ld_blk (hS.bx2 (i := 0) rfl [4, 3] (by decide) hF) Try.isAgg28 Try.sizeOf28 e8) ?_
                refine mixE.sk hD (hC.seta (i := 4) (ds := [.int .i64 y60.1, .slice A63 y60.2.1.length c65]) rfl Try.type27 rfl rfl rfl e4 rfl) ?_
                rintro w97 ⟨hC, hF⟩
                replace hD := hD.besideG hUf11 hF
                clear hF
                refine ⟨hD, ?_⟩
                refine mixE.sk hD (hC.seta (i := 3) (ds := [.int .i64 y60.2.2.1, .int .i64 y60.2.2.2.1, .int .i64 y60.2.2.2.2]) rfl Try.type28 rfl rfl rfl e5 rfl) ?_
                rintro w98 ⟨hC, hF⟩
                replace hD := hD.besideG hUf14 hF
                clear hF
                refine ⟨hD, ?_⟩
                refine mixE.pure (v := .int .i64 0) (pu_assign rfl) ?_
                refine mixE.nil ?_
                clear hS hM
                clear hD
                refine hK94 _ _ ?_
                obtain rfl := Option.some.inj hb
                refine Wc.ret ?_
                refine hKR _ _ ?_
                refine ⟨_, res3 Try.results12 ⟨_, e4, loadVar_blk (hC.bx (i := 4) rfl) Try.isAgg27 Try.sizeOf27⟩ ⟨_, e5, loadVar_blk (hC.bx (i := 3) rfl) Try.isAgg28 Try.sizeOf28⟩ (show RV _ _ _ (.tmp _) (.int .i64 0) from rfl), _, rfl, A63, y60.2.1.length, c65, rfl, hr62, hr67, hr68, hr69, (show I64 0 from by unfold I64; omega), hC.sel [2] (by decide)⟩

set_option maxRecDepth 100000 in
set_option maxHeartbeats 4000000 in
theorem ref36_Equal_ok (n : Nat) {w : World} {O0 : List Nat} (hO : ∀ k ∈ O0, k < w.heap.size) {a_0_0 : Int} (ha_0_0 : I64 a_0_0) {Aa_0_1 : Option Addr} {ma_0_1 ca_0_1 : Nat} {a_0_1 : List Int} (ha_0_1 : Rep O0 w (.sl (.int .i64)) [.slice Aa_0_1 ma_0_1 ca_0_1] a_0_1) {b_1_0 : Int} (hb_1_0 : I64 b_1_0) {Ab_1_1 : Option Addr} {mb_1_1 cb_1_1 : Nat} {b_1_1 : List Int} (hb_1_1 : Rep O0 w (.sl (.int .i64)) [.slice Ab_1_1 mb_1_1 cb_1_1] b_1_1) {r : Bool} (hb : F.ref36_Equal n a_0_0 a_0_1 b_1_0 b_1_1 = some r) :
    Calls Try.prog 14 #[.agg #[.int .i64 a_0_0, .slice Aa_0_1 ma_0_1 ca_0_1], .agg #[.int .i64 b_1_0, .slice Ab_1_1 mb_1_1 cb_1_1]] w fun e w' => ∃ v, e = .returned v ∧ v = .bool r ∧ Cx (fun _ => False) O0 w w' [] := by
  unfold F.ref36_Equal at hb
  have hC := Cx.start hO
  replace hC := hC.arg rfl ha_0_1
  replace hC := hC.arg rfl hb_1_1
  clear hO
  obtain ⟨rfl, hla_0_1, hca_0_1⟩ := ha_0_1.sl_len
  obtain ⟨rfl, hlb_1_1, hcb_1_1⟩ := hb_1_1.sl_len
  refine calls_of_Wc Try.func14 rfl (by rw [Try.ntmps14]; exact Nat.le_of_ble_eq_true rfl) fun KR hKR => ?_
  refine Wc.seq fun K3 hK3 => ?_
  refine Wc.region (by decide +kernel) ?_
  refine lex.op (hC.box (cs := [.int .i64 a_0_0, .slice Aa_0_1 a_0_1.length ca_0_1]) rfl rfl) ?_
  rintro _ w5 ⟨g4, rfl, hC, hF, hG⟩
  clear hG
  refine lex.op (hC.box (cs := [.int .i64 b_1_0, .slice Ab_1_1 b_1_1.length cb_1_1]) rfl rfl) ?_
  rintro _ w8 ⟨g7, rfl, hC, hF, hG⟩
  clear hG
  refine lex.pure (v := .bool false) (pu_assign rfl) ?_
  refine lex.nil ?_
  refine hK3 _ _ ?_
  refine Wc.seq fun K10 hK10 => ?_
  refine Wc.seq fun K11 hK11 => ?_
  refine Wc.region (by decide +kernel) ?_
  refine lex.pure (v := .pointer (some ((⟨g4, 0, none⟩ : Addr).add 0))) (pu_field (sz := 1) Try.underlying32 rfl Try.sizeOf3 (by decide) rfl rfl) ?_
  refine lex.val (v := .int .i64 a_0_0) (ld_fld (hC.bx (i := 1) rfl) Try.isAgg3 rfl rfl) ?_
  refine lex.pure (v := .pointer (some ((⟨g7, 0, none⟩ : Addr).add 0))) (pu_field (sz := 1) Try.underlying32 rfl Try.sizeOf3 (by decide) rfl rfl) ?_
  refine lex.val (v := .int .i64 b_1_0) (ld_fld (hC.bx (i := 0) rfl) Try.isAgg3 rfl rfl) ?_
  refine lex.pure (v := .bool (!(decide (a_0_0 = b_1_0)))) (pu_neq (k := .i64) (a := a_0_0) (b := b_1_0) rfl rfl) ?_
  refine lex.pure (v := .bool (!(decide (a_0_0 = b_1_0)))) (pu_move rfl) ?_
  rcases bS (!(decide (a_0_0 = b_1_0))) with hq12 | hq12
  · replace hb := (cT hq12).symm.trans hb
    refine lex.gskip (want_f rfl rfl (show _ = Value.bool (!(decide (a_0_0 = b_1_0))) from rfl) hq12) ?_
    refine lex.gskip (want_f rfl rfl (show _ = Value.bool (!(decide (a_0_0 = b_1_0))) from rfl) hq12) ?_
    refine lex.gskip (want_f rfl rfl (show _ = Value.bool (!(decide (a_0_0 = b_1_0))) from rfl) hq12) ?_
    refine lex.gskip (want_f rfl rfl (show _ = Value.bool (!(decide (a_0_0 = b_1_0))) from rfl) hq12) ?_
    refine lex.gskip (want_f rfl rfl (show _ = Value.bool (!(decide (a_0_0 = b_1_0))) from rfl) hq12) ?_
    refine lex.gskip (want_f rfl rfl (show _ = Value.bool (!(decide (a_0_0 = b_1_0))) from rfl) hq12) ?_
    refine lex.gskip (want_f rfl rfl (show _ = Value.bool (!(decide (a_0_0 = b_1_0))) from rfl) hq12) ?_
    refine lex.pure (v := .bool true) (pu_pickT (q := (!(decide (a_0_0 = b_1_0)))) rfl hq12 rfl) ?_
    refine lex.nil ?_
    refine hK11 _ _ ?_
    refine Wc.cond_true (rfl) ?_
    refine Wc.seq fun K13 hK13 => ?_
    refine Wc.region (by decide +kernel) ?_
    refine lex.pure (v := .bool false) (pu_assign rfl) ?_
    refine lex.nil ?_
    refine hK13 _ _ ?_
    obtain rfl := Option.some.inj hb
    refine Wc.ret ?_
    refine hKR _ _ ?_
    refine ⟨_, res1 Try.results14 (show RV _ _ _ (.tmp _) (.bool false) from rfl), _, rfl, rfl, hC.sel [] (by decide)⟩
  · replace hb := (cF hq12).symm.trans hb
    refine lex.gpure (want_t rfl rfl (show _ = Value.bool (!(decide (a_0_0 = b_1_0))) from rfl) hq12) (v := .pointer (some ((⟨g4, 0, none⟩ : Addr).add 1))) (pu_field (sz := 1) Try.underlying32 rfl Try.sizeOf22 (by decide) rfl rfl) ?_
    refine lex.gval (want_t rfl rfl (show _ = Value.bool (!(decide (a_0_0 = b_1_0))) from rfl) hq12) (v := .slice Aa_0_1 a_0_1.length ca_0_1) (ld_fld (hC.bx (i := 1) rfl) Try.isAgg22 rfl rfl) ?_
    refine lex.gpure (want_t rfl rfl (show _ = Value.bool (!(decide (a_0_0 = b_1_0))) from rfl) hq12) (v := .int .i64 (a_0_1.length : Int)) (pu_len (A := Aa_0_1) (n := a_0_1.length) (m := ca_0_1) Try.underlying22 rfl) ?_
    refine lex.gpure (want_t rfl rfl (show _ = Value.bool (!(decide (a_0_0 = b_1_0))) from rfl) hq12) (v := .pointer (some ((⟨g7, 0, none⟩ : Addr).add 1))) (pu_field (sz := 1) Try.underlying32 rfl Try.sizeOf22 (by decide) rfl rfl) ?_
    refine lex.gval (want_t rfl rfl (show _ = Value.bool (!(decide (a_0_0 = b_1_0))) from rfl) hq12) (v := .slice Ab_1_1 b_1_1.length cb_1_1) (ld_fld (hC.bx (i := 0) rfl) Try.isAgg22 rfl rfl) ?_
    refine lex.gpure (want_t rfl rfl (show _ = Value.bool (!(decide (a_0_0 = b_1_0))) from rfl) hq12) (v := .int .i64 (b_1_1.length : Int)) (pu_len (A := Ab_1_1) (n := b_1_1.length) (m := cb_1_1) Try.underlying22 rfl) ?_
    refine lex.gpure (want_t rfl rfl (show _ = Value.bool (!(decide (a_0_0 = b_1_0))) from rfl) hq12) (v := .bool (!(decide ((a_0_1.length : Int) = (b_1_1.length : Int))))) (pu_neq (k := .i64) (a := (a_0_1.length : Int)) (b := (b_1_1.length : Int)) rfl rfl) ?_
    refine lex.pure (v := .bool (!(decide ((a_0_1.length : Int) = (b_1_1.length : Int))))) (pu_pickF (q := (!(decide (a_0_0 = b_1_0)))) rfl hq12 rfl) ?_
    refine lex.nil ?_
    refine hK11 _ _ ?_
    refine Wc.cond (t := (!(decide ((a_0_1.length : Int) = (b_1_1.length : Int))))) (rfl) (fun hq14 => ?_) (fun hq14 => ?_)
    · replace hb := (cT hq14).symm.trans hb
      refine Wc.seq fun K15 hK15 => ?_
      refine Wc.region (by decide +kernel) ?_
      refine lex.pure (v := .bool false) (pu_assign rfl) ?_
      refine lex.nil ?_
      refine hK15 _ _ ?_
      obtain rfl := Option.some.inj hb
      refine Wc.ret ?_
      refine hKR _ _ ?_
      refine ⟨_, res1 Try.results14 (show RV _ _ _ (.tmp _) (.bool false) from rfl), _, rfl, rfl, hC.sel [] (by decide)⟩
    · replace hb := (cF hq14).symm.trans hb
      refine Wc.skip ?_
      refine hK10 _ _ ?_
      refine Wc.fresh fun E16 hE => ?_
      have e2 : E16 2 = .pointer (some ⟨g4, 0, none⟩) := (congrFun hE 2).trans rfl
      have e3 : E16 3 = .pointer (some ⟨g7, 0, none⟩) := (congrFun hE 3).trans rfl
      have e4 : E16 4 = .bool false := (congrFun hE 4).trans rfl
      clear hE
      refine Wc.seq fun K17 hK17 => ?_
      refine Wc.seq fun K18 hK18 => ?_
      refine Wc.region (by decide +kernel) ?_
      refine lex.pure (v := .int .i64 0) (pu_assign rfl) ?_
      refine lex.nil ?_
      refine hK18 _ _ ?_
      obtain ⟨o19, hl0, hb⟩ := bd hb
      refine Wc.cut (fun E wv => ∃ (v5_0 : Int), E 4 = .bool false ∧ I64 v5_0 ∧ Cx (fun _ => False) O0 w wv [] ∧ (some true : Option (Bool)) = some r) (fun K20 hK20 => ?_) ?_
      · refine Wc.block ?_
        refine Wc.loop (fun m E wv => ∃ (v5_0 : Int), E 2 = .pointer (some ⟨g4, 0, none⟩) ∧ E 3 = .pointer (some ⟨g7, 0, none⟩) ∧ E 4 = .bool false ∧ E 5 = .int .i64 v5_0 ∧ I64 v5_0 ∧ Cx (fun _ => False) O0 w wv [.box g4 32 [.int .i64 a_0_0, .slice Aa_0_1 a_0_1.length ca_0_1], .ro (.sl (.int .i64)) [.slice Aa_0_1 a_0_1.length ca_0_1] a_0_1, .box g7 32 [.int .i64 b_1_0, .slice Ab_1_1 b_1_1.length cb_1_1], .ro (.sl (.int .i64)) [.slice Ab_1_1 b_1_1.length cb_1_1] b_1_1] ∧ loopN m (F.ref36_Equal_b0 n a_0_1 b_1_1) v5_0 = some o19) n ⟨0, e2, e3, e4, rfl, (show I64 0 from by unfold I64; omega), hC.sel [1, 3, 0, 2] (by decide), hl0⟩ ?_
        have hbK0 := hb
        clear hb hC hl0
        rintro m22 E24 w23 ⟨v5_0, e2, e3, e4, e5, hrv5_0, hC, hl0⟩ K21 hK21
        obtain ⟨m22', o25, rfl, hb, hl0⟩ := loopN_some hl0
        unfold F.ref36_Equal_b0 at hb
        refine Wc.seq fun K26 hK26 => ?_
        refine Wc.seq fun K27 hK27 => ?_
        refine Wc.region (by decide +kernel) ?_
        refine lex.pure (v := .int .i64 v5_0) (pu_move e5) ?_
        refine lex.pure (v := .pointer (some ((⟨g4, 0, none⟩ : Addr).add 1))) (pu_field (sz := 1) Try.underlying32 rfl Try.sizeOf22 (by decide) rfl e2) ?_
        refine lex.val (v := .slice Aa_0_1 a_0_1.length ca_0_1) (ld_fld (hC.bx (i := 0) rfl) Try.isAgg22 rfl rfl) ?_
        refine lex.pure (v := .int .i64 (a_0_1.length : Int)) (pu_len (A := Aa_0_1) (n := a_0_1.length) (m := ca_0_1) Try.underlying22 rfl) ?_
        refine lex.pure (v := .bool (decide (v5_0 < (a_0_1.length : Int)))) (pu_lss (k := .i64) (a := v5_0) (b := (a_0_1.length : Int)) rfl rfl) ?_
        refine lex.nil ?_
        refine hK27 _ _ ?_
        refine Wc.cond (t := (decide (v5_0 < (a_0_1.length : Int)))) (rfl) (fun hq28 => ?_) (fun hq28 => ?_)
        · replace hb := (cT hq28).symm.trans hb
          refine Wc.skip ?_
          refine hK26 _ _ ?_
          refine Wc.seq fun K29 hK29 => ?_
          refine Wc.block ?_
          refine Wc.seq fun K30 hK30 => ?_
          refine Wc.regionMix [] (frm [] ([] : List Fact) ([] : List Fact)) (fun _ => rfl) mixed (by decide +kernel) (by decide +kernel) fun w32 hw31 => ?_
          replace hC := hC.step (Fr.of_drew hw31)
          have hM := Fr.refl (fun k => k ∈ blocks ([] : List Fact)) w32
          clear hw31
          have hS := hC
          refine mixE.pure (v := .pointer (some ((⟨g4, 0, none⟩ : Addr).add 1))) (pu_field (sz := 1) Try.underlying32 rfl Try.sizeOf22 (by decide) rfl e2) ?_
          refine mixE.load hM (v := .slice Aa_0_1 a_0_1.length ca_0_1) (fun _ hF => ld_fld (hS.bx2 (i := 0) rfl [] (by decide) hF) Try.isAgg22 rfl rfl) ?_
          refine mixE.pure (v := .int .i64 v5_0) (pu_move e5) ?_
          obtain ⟨x33, h34, hb⟩ := bd hb
          obtain ⟨ad35, cs36, hA, ho39, hc37, hr38⟩ := hS.elr2 (i := 1) rfl (get_some h34).2 []
          subst hA
          refine mixE.pure (v := .pointer (some (ad35.add (v5_0.toNat * 1)))) (pu_index (a := v5_0) Try.underlying22 Try.sizeOf3 rfl rfl (get_some h34).1) ?_
          obtain ⟨rfl, hr38'⟩ := hr38
          refine mixE.load hM (v := .int .i64 x33) (fun _ hF => ld_one Try.isAgg3 rfl (hF.cell (hc37 0 _ rfl) (off1 ho39))) ?_
          refine mixE.pure (v := .pointer (some ((⟨g7, 0, none⟩ : Addr).add 1))) (pu_field (sz := 1) Try.underlying32 rfl Try.sizeOf22 (by decide) rfl e3) ?_
          refine mixE.load hM (v := .slice Ab_1_1 b_1_1.length cb_1_1) (fun _ hF => ld_fld (hS.bx2 (i := 2) rfl [] (by decide) hF) Try.isAgg22 rfl rfl) ?_
          refine mixE.pure (v := .int .i64 v5_0) (pu_move e5) ?_
          obtain ⟨x40, h41, hb⟩ := bd hb
          obtain ⟨ad42, cs43, hA, ho46, hc44, hr45⟩ := hS.elr2 (i := 3) rfl (get_some h41).2 []
          subst hA
          refine mixE.pure (v := .pointer (some (ad42.add (v5_0.toNat * 1)))) (pu_index (a := v5_0) Try.underlying22 Try.sizeOf3 rfl rfl (get_some h41).1) ?_
          obtain ⟨rfl, hr45'⟩ := hr45
          refine mixE.load hM (v := .int .i64 x40) (fun _ hF => ld_one Try.isAgg3 rfl (hF.cell (hc44 0 _ rfl) (off1 ho46))) ?_
          refine mixE.pure (v := .bool (!(decide (x33 = x40)))) (pu_neq (k := .i64) (a := x33) (b := x40) rfl rfl) ?_
          refine mixE.nil ?_
          clear hS hM
          refine hK30 _ _ ?_
          refine Wc.cond (t := (!(decide (x33 = x40)))) (rfl) (fun hq47 => ?_) (fun hq47 => ?_)
          · replace hb := (cT hq47).symm.trans hb
            refine Wc.seq fun K48 hK48 => ?_
            refine Wc.region (by decide +kernel) ?_
            refine lex.pure (v := .bool false) (pu_assign rfl) ?_
            refine lex.nil ?_
            refine hK48 _ _ ?_
            obtain rfl := Option.some.inj hb
            obtain rfl := (lX hl0).symm
            replace hb := hbK0
            obtain rfl := Option.some.inj hb
            refine Wc.ret ?_
            refine hKR _ _ ?_
            refine ⟨_, res1 Try.results14 (show RV _ _ _ (.tmp _) (.bool false) from rfl), _, rfl, rfl, hC.sel [] (by decide)⟩
          · replace hb := (cF hq47).symm.trans hb
            refine Wc.skip ?_
            refine hK29 _ _ ?_
            refine Wc.region (by decide +kernel) ?_
            refine lex.pure (v := .int .i64 v5_0) (pu_move e5) ?_
            obtain ⟨z49, h50, hb⟩ := bd hb
            refine lex.pure (v := .int .i64 z49) (pu_addc (a := v5_0) (b := 1) rfl rfl h50) ?_
            refine lex.pure (v := .int .i64 z49) (pu_assign rfl) ?_
            refine lex.nil ?_
            obtain rfl := Option.some.inj hb
            exact hK21 m22' _ _ (Nat.lt_succ_self _) ⟨z49, e2, e3, e4, rfl, (chk_rng h50), hC.sel [0, 1, 2, 3] (by decide), lN hl0⟩
        · replace hb := (cF hq28).symm.trans hb
          refine Wc.exit rfl ?_
          obtain rfl := Option.some.inj hb
          obtain rfl := (lX hl0).symm
          exact hK20 _ _ ⟨v5_0, e4, hrv5_0, hC.sel [] (by decide), hbK0⟩
      · clear hb hC hl0
        rintro E52 w51 ⟨v5_0, e4, hrv5_0, hC, hb⟩
        refine hK17 _ _ ?_
        refine Wc.seq fun K53 hK53 => ?_
        refine Wc.region (by decide +kernel) ?_
        refine lex.pure (v := .bool true) (pu_assign rfl) ?_
        refine lex.nil ?_
        refine hK53 _ _ ?_
        obtain rfl := Option.some.inj hb
        refine Wc.ret ?_
        refine hKR _ _ ?_
        refine ⟨_, res1 Try.results14 (show RV _ _ _ (.tmp _) (.bool true) from rfl), _, rfl, rfl, hC.sel [] (by decide)⟩

set_option maxRecDepth 100000 in
set_option maxHeartbeats 4000000 in
theorem law36_equal_ok (n : Nat) {w : World} {O0 : List Nat} (hO : ∀ k ∈ O0, k < w.heap.size) {a_0_0 : Int} (ha_0_0 : I64 a_0_0) {Aa_0_1 : Option Addr} {ma_0_1 ca_0_1 : Nat} {a_0_1 : List Int} (ha_0_1 : Rep O0 w (.sl (.int .i64)) [.slice Aa_0_1 ma_0_1 ca_0_1] a_0_1) {b_1_0 : Int} (hb_1_0 : I64 b_1_0) {Ab_1_1 : Option Addr} {mb_1_1 cb_1_1 : Nat} {b_1_1 : List Int} (hb_1_1 : Rep O0 w (.sl (.int .i64)) [.slice Ab_1_1 mb_1_1 cb_1_1] b_1_1) {r : Bool} (hb : F.law36_equal n a_0_0 a_0_1 b_1_0 b_1_1 = some r) :
    Calls Try.prog 16 #[.agg #[.int .i64 a_0_0, .slice Aa_0_1 ma_0_1 ca_0_1], .agg #[.int .i64 b_1_0, .slice Ab_1_1 mb_1_1 cb_1_1]] w fun e w' => ∃ v, e = .returned v ∧ v = .bool r ∧ Cx (fun _ => False) O0 w w' [] := by
  unfold F.law36_equal at hb
  have hC := Cx.start hO
  replace hC := hC.arg rfl ha_0_1
  replace hC := hC.arg rfl hb_1_1
  clear hO
  obtain ⟨rfl, hla_0_1, hca_0_1⟩ := ha_0_1.sl_len
  obtain ⟨rfl, hlb_1_1, hcb_1_1⟩ := hb_1_1.sl_len
  refine calls_of_Wc Try.func16 rfl (by rw [Try.ntmps16]; exact Nat.le_of_ble_eq_true rfl) fun KR hKR => ?_
  refine Wc.seq fun K3 hK3 => ?_
  refine Wc.region (by decide +kernel) ?_
  refine lex.op (hC.box (cs := [.int .i64 a_0_0, .slice Aa_0_1 a_0_1.length ca_0_1]) rfl rfl) ?_
  rintro _ w5 ⟨g4, rfl, hC, hF, hG⟩
  clear hG
  refine lex.op (hC.box (cs := [.int .i64 b_1_0, .slice Ab_1_1 b_1_1.length cb_1_1]) rfl rfl) ?_
  rintro _ w8 ⟨g7, rfl, hC, hF, hG⟩
  clear hG
  refine lex.pure (v := .bool false) (pu_assign rfl) ?_
  refine lex.nil ?_
  refine hK3 _ _ ?_
  refine Wc.seq fun K10 hK10 => ?_
  refine Wc.region (by decide +kernel) ?_
  refine lex.pure (v := .pointer (some ((⟨g4, 0, none⟩ : Addr).add 0))) (pu_field (sz := 1) Try.underlying27 rfl Try.sizeOf3 (by decide) rfl rfl) ?_
  refine lex.val (v := .int .i64 a_0_0) (ld_fld (hC.bx (i := 1) rfl) Try.isAgg3 rfl rfl) ?_
  refine lex.pure (v := .pointer (some ((⟨g4, 0, none⟩ : Addr).add 1))) (pu_field (sz := 1) Try.underlying27 rfl Try.sizeOf22 (by decide) rfl rfl) ?_
  refine lex.val (v := .slice Aa_0_1 a_0_1.length ca_0_1) (ld_fld (hC.bx (i := 1) rfl) Try.isAgg22 rfl rfl) ?_
  refine lex.pure (v := .agg #[.int .i64 a_0_0, .slice Aa_0_1 a_0_1.length ca_0_1]) (pu_builds (places := [(0, 1), (1, 1)]) (pv := [(0, .int .i64 a_0_0), (1, .slice Aa_0_1 a_0_1.length ca_0_1)]) Try.type32 Try.underlying32 rfl (mp_cons Try.type3 (mp_cons Try.type22 mp_nil rfl rfl) rfl rfl) rfl (by simp [Instr.fill, Value.cells])) ?_
  refine lex.pure (v := .pointer (some ((⟨g7, 0, none⟩ : Addr).add 0))) (pu_field (sz := 1) Try.underlying27 rfl Try.sizeOf3 (by decide) rfl rfl) ?_
  refine lex.val (v := .int .i64 b_1_0) (ld_fld (hC.bx (i := 0) rfl) Try.isAgg3 rfl rfl) ?_
  refine lex.pure (v := .pointer (some ((⟨g7, 0, none⟩ : Addr).add 1))) (pu_field (sz := 1) Try.underlying27 rfl Try.sizeOf22 (by decide) rfl rfl) ?_
  refine lex.val (v := .slice Ab_1_1 b_1_1.length cb_1_1) (ld_fld (hC.bx (i := 0) rfl) Try.isAgg22 rfl rfl) ?_
  refine lex.pure (v := .agg #[.int .i64 b_1_0, .slice Ab_1_1 b_1_1.length cb_1_1]) (pu_builds (places := [(0, 1), (1, 1)]) (pv := [(0, .int .i64 b_1_0), (1, .slice Ab_1_1 b_1_1.length cb_1_1)]) Try.type32 Try.underlying32 rfl (mp_cons Try.type3 (mp_cons Try.type22 mp_nil rfl rfl) rfl rfl) rfl (by simp [Instr.fill, Value.cells])) ?_
  obtain ⟨y11, h12, hb⟩ := bd hb
  refine lex.cl (⟨_, _, op_call (vs := [.agg #[.int .i64 a_0_0, .slice Aa_0_1 a_0_1.length ca_0_1], .agg #[.int .i64 b_1_0, .slice Ab_1_1 b_1_1.length cb_1_1]]) Try.call14 rfl rfl rfl, ref36_Equal_ok n hC.lt ha_0_0 (hC.rd (i := 3) rfl) hb_1_0 (hC.rd (i := 2) rfl) h12⟩) ?_
  rintro _ w13 ⟨rfl, hK⟩
  replace hC := hC.merge hK
  clear hK
  refine lex.pure (v := .bool y11) (pu_assign rfl) ?_
  refine lex.nil ?_
  refine hK10 _ _ ?_
  obtain rfl := Option.some.inj hb
  refine Wc.ret ?_
  refine hKR _ _ ?_
  refine ⟨_, res1 Try.results16 (show RV _ _ _ (.tmp _) (.bool y11) from rfl), _, rfl, rfl, hC.sel [] (by decide)⟩

set_option maxRecDepth 100000 in
set_option maxHeartbeats 4000000 in
theorem law36_awake_ok (n : Nat) {w : World} {O0 : List Nat} (hO : ∀ k ∈ O0, k < w.heap.size)  {r : Bool} (hb : F.law36_awake n = some r) :
    Calls Try.prog 11 #[] w fun e w' => ∃ v, e = .returned v ∧ v = .bool r ∧ Cx (fun _ => False) O0 w w' [] := by
  unfold F.law36_awake at hb
  have hC := Cx.start hO
  clear hO
  refine calls_of_Wc Try.func11 rfl (by rw [Try.ntmps11]; exact Nat.le_of_ble_eq_true rfl) fun KR hKR => ?_
  refine Wc.seq fun K1 hK1 => ?_
  refine Wc.region (by decide +kernel) ?_
  refine lex.pure (v := .bool false) (pu_assign rfl) ?_
  refine lex.nil ?_
  refine hK1 _ _ ?_
  refine Wc.seq fun K2 hK2 => ?_
  refine Wc.region (by decide +kernel) ?_
  refine lex.op (hC.lit (s := (.int .i64)) (vs := [.int .i64 1, .int .i64 2, .int .i64 1]) (xs := [1, 2, 1]) Try.underlying22 Try.type3 rfl rfl (Nat.le_of_ble_eq_true rfl) rfl rfl (by simp [Value.cells, Sh.n]) rfl (show Elems _ _ (.int .i64) ([.int .i64 1] ++ ([.int .i64 2] ++ ([.int .i64 1] ++ ([])))) ([1, 2, 1] : List Int) from Elems.cons (⟨rfl, I64.wr (show I64 1 from by unfold I64; omega)⟩) (Elems.cons (⟨rfl, I64.wr (show I64 2 from by unfold I64; omega)⟩) (Elems.cons (⟨rfl, I64.wr (show I64 1 from by unfold I64; omega)⟩) (Elems.nil _ _ _))))) ?_
  rintro _ w7 ⟨A3, c4, rfl, hl5, hc6, hC, hF, hN⟩
  clear hF hN
  refine lex.pure (v := .agg #[.int .i64 3, .slice A3 ((([1, 2, 1] : List Int)).length) c4]) (pu_builds (places := [(0, 1), (1, 1)]) (pv := [(0, .int .i64 3), (1, .slice A3 ((([1, 2, 1] : List Int)).length) c4)]) Try.type27 Try.underlying27 rfl (mp_cons Try.type3 (mp_cons Try.type22 mp_nil rfl rfl) rfl rfl) rfl (by simp [Instr.fill, Value.cells])) ?_
  refine lex.pure (v := .agg #[.int .i64 5, .int .i64 0, .int .i64 0]) (pu_builds (places := [(0, 1), (1, 1), (2, 1)]) (pv := [(0, .int .i64 5)]) Try.type28 Try.underlying28 rfl (mp_cons Try.type3 (mp_cons Try.type3 (mp_cons Try.type3 mp_nil rfl rfl) rfl rfl) rfl rfl) rfl (by simp [Instr.fill, Value.cells])) ?_
  replace hC := hC.freeze (i := 0) rfl (hC.own_new (i := 0) rfl)
  obtain ⟨y9, h10, hb⟩ := bd hb
  refine lex.cl (⟨_, _, op_call (vs := [.agg #[.int .i64 3, .slice A3 ((([1, 2, 1] : List Int)).length) c4], .agg #[.int .i64 5, .int .i64 0, .int .i64 0]]) Try.call12 rfl rfl rfl, markov_Apply_ok n hC.lt (show I64 3 from by unfold I64; omega) (hC.rd (i := 0) rfl) (show I64 5 from by unfold I64; omega) (show I64 0 from by unfold I64; omega) (show I64 0 from by unfold I64; omega) h10⟩) ?_
  rintro _ w20 ⟨A12, m13, c14, rfl, hr11, hr16, hr17, hr18, hr19, hK⟩
  replace hC := hC.merge hK
  clear hK
  obtain ⟨rfl, hl21, hc22⟩ := (hC.rd (i := 0) rfl).sl_len
  refine lex.pure (v := .tuple #[.agg #[.int .i64 y9.1, .slice A12 y9.2.1.length c14], .agg #[.int .i64 y9.2.2.1, .int .i64 y9.2.2.2.1, .int .i64 y9.2.2.2.2.1], .int .i64 y9.2.2.2.2.2]) (pu_move rfl) ?_
  refine lex.pure (v := .agg #[.int .i64 y9.1, .slice A12 y9.2.1.length c14]) (pu_extract rfl rfl) ?_
  refine lex.pure (v := .agg #[.int .i64 y9.2.2.1, .int .i64 y9.2.2.2.1, .int .i64 y9.2.2.2.2.1]) (pu_extract rfl rfl) ?_
  refine lex.pure (v := .int .i64 y9.2.2.2.2.2) (pu_extract rfl rfl) ?_
  refine lex.op (hC.alloc (cs := [.int .i64 0, .slice none 0 0]) Try.zeroValue27 rfl) ?_
  rintro _ w24 ⟨g23, rfl, hC, hF, hG⟩
  clear hG
  refine lex.op (hC.alloc (cs := [.int .i64 0, .int .i64 0, .int .i64 0]) Try.zeroValue28 rfl) ?_
  rintro _ w27 ⟨g26, rfl, hC, hF, hG⟩
  clear hG
  refine lex.sk (hC.seta (i := 1) (ds := [.int .i64 y9.1, .slice A12 y9.2.1.length c14]) rfl Try.type27 rfl rfl rfl rfl rfl) ?_
  rintro w29 ⟨hC, hF⟩
  refine lex.sk (hC.seta (i := 0) (ds := [.int .i64 y9.2.2.1, .int .i64 y9.2.2.2.1, .int .i64 y9.2.2.2.2.1]) rfl Try.type28 rfl rfl rfl rfl rfl) ?_
  rintro w30 ⟨hC, hF⟩
  refine lex.pure (v := .int .i64 y9.2.2.2.2.2) (pu_assign rfl) ?_
  refine lex.nil ?_
  refine hK2 _ _ ?_
  refine Wc.fresh fun E31 hE => ?_
  have e0 : E31 0 = .bool false := (congrFun hE 0).trans rfl
  have e1 : E31 1 = .pointer (some ⟨g23, 0, none⟩) := (congrFun hE 1).trans rfl
  have e2 : E31 2 = .pointer (some ⟨g26, 0, none⟩) := (congrFun hE 2).trans rfl
  have e3 : E31 3 = .int .i64 y9.2.2.2.2.2 := (congrFun hE 3).trans rfl
  clear hE
  refine Wc.seq fun K32 hK32 => ?_
  refine Wc.region (by decide +kernel) ?_
  refine lex.pure (v := .agg #[.int .i64 1, .slice none 0 0]) (pu_builds (places := [(0, 1), (1, 1)]) (pv := [(0, .int .i64 1)]) Try.type27 Try.underlying27 rfl (mp_cons Try.type3 (mp_cons Try.type22 mp_nil rfl rfl) rfl rfl) rfl (by simp [Instr.fill, Value.cells])) ?_
  refine lex.pure (v := .agg #[.int .i64 2, .int .i64 (-1), .int .i64 0]) (pu_builds (places := [(0, 1), (1, 1), (2, 1)]) (pv := [(0, .int .i64 2), (1, .int .i64 (-1))]) Try.type28 Try.underlying28 rfl (mp_cons Try.type3 (mp_cons Try.type3 (mp_cons Try.type3 mp_nil rfl rfl) rfl rfl) rfl rfl) rfl (by simp [Instr.fill, Value.cells])) ?_
  obtain ⟨y33, h34, hb⟩ := bd hb
  refine lex.cl (⟨_, _, op_call (vs := [.agg #[.int .i64 1, .slice none 0 0], .agg #[.int .i64 2, .int .i64 (-1), .int .i64 0]]) Try.call12 rfl rfl rfl, markov_Apply_ok n hC.lt (show I64 1 from by unfold I64; omega) ((show Rep _ _ (.sl (.int .i64)) [.slice none 0 0] ([] : List Int) from ⟨none, 0, rfl, Nat.le_refl _, by omega, fun h => absurd h (by simp)⟩)) (show I64 2 from by unfold I64; omega) (show I64 (-1) from by unfold I64; omega) (show I64 0 from by unfold I64; omega) h34⟩) ?_
  rintro _ w44 ⟨A36, m37, c38, rfl, hr35, hr40, hr41, hr42, hr43, hK⟩
  replace hC := hC.merge hK
  clear hK
  obtain ⟨rfl, hl45, hc46⟩ := (hC.rd (i := 0) rfl).sl_len
  refine lex.pure (v := .tuple #[.agg #[.int .i64 y33.1, .slice A36 y33.2.1.length c38], .agg #[.int .i64 y33.2.2.1, .int .i64 y33.2.2.2.1, .int .i64 y33.2.2.2.2.1], .int .i64 y33.2.2.2.2.2]) (pu_move rfl) ?_
  refine lex.pure (v := .agg #[.int .i64 y33.1, .slice A36 y33.2.1.length c38]) (pu_extract rfl rfl) ?_
  refine lex.pure (v := .agg #[.int .i64 y33.2.2.1, .int .i64 y33.2.2.2.1, .int .i64 y33.2.2.2.2.1]) (pu_extract rfl rfl) ?_
  refine lex.pure (v := .int .i64 y33.2.2.2.2.2) (pu_extract rfl rfl) ?_
  refine lex.op (hC.alloc (cs := [.int .i64 0, .slice none 0 0]) Try.zeroValue27 rfl) ?_
  rintro _ w48 ⟨g47, rfl, hC, hF, hG⟩
  clear hG
  refine lex.op (hC.alloc (cs := [.int .i64 0, .int .i64 0, .int .i64 0]) Try.zeroValue28 rfl) ?_
  rintro _ w51 ⟨g50, rfl, hC, hF, hG⟩
  clear hG
  refine lex.sk (hC.seta (i := 1) (ds := [.int .i64 y33.1, .slice A36 y33.2.1.length c38]) rfl Try.type27 rfl rfl rfl rfl rfl) ?_
  rintro w53 ⟨hC, hF⟩
  refine lex.sk (hC.seta (i := 0) (ds := [.int .i64 y33.2.2.1, .int .i64 y33.2.2.2.1, .int .i64 y33.2.2.2.2.1]) rfl Try.type28 rfl rfl rfl rfl rfl) ?_
  rintro w54 ⟨hC, hF⟩
  refine lex.pure (v := .int .i64 y33.2.2.2.2.2) (pu_assign rfl) ?_
  refine lex.nil ?_
  refine hK32 _ _ ?_
  refine Wc.fresh fun E55 hE => ?_
  have e0 : E55 0 = .bool false := (congrFun hE 0).trans e0
  have e1 : E55 1 = .pointer (some ⟨g23, 0, none⟩) := (congrFun hE 1).trans e1
  have e2 : E55 2 = .pointer (some ⟨g26, 0, none⟩) := (congrFun hE 2).trans e2
  have e3 : E55 3 = .int .i64 y9.2.2.2.2.2 := (congrFun hE 3).trans e3
  have e4 : E55 4 = .pointer (some ⟨g47, 0, none⟩) := (congrFun hE 4).trans rfl
  have e6 : E55 6 = .int .i64 y33.2.2.2.2.2 := (congrFun hE 6).trans rfl
  clear hE
  refine Wc.seq fun K56 hK56 => ?_
  refine Wc.region (by decide +kernel) ?_
  refine lex.pure (v := .int .i64 y9.2.2.2.2.2) (pu_move e3) ?_
  refine lex.pure (v := .bool (decide (y9.2.2.2.2.2 = 0))) (pu_eql (k := .i64) (a := y9.2.2.2.2.2) (b := 0) rfl rfl) ?_
  refine lex.pure (v := .bool (decide (y9.2.2.2.2.2 = 0))) (pu_move rfl) ?_
  rcases bS (decide (y9.2.2.2.2.2 = 0)) with hq57 | hq57
  · replace hb := (cT hq57).symm.trans hb
    refine lex.gpure (want_t rfl rfl (show _ = Value.bool (decide (y9.2.2.2.2.2 = 0)) from rfl) hq57) (v := .int .i64 y33.2.2.2.2.2) (pu_move e6) ?_
    refine lex.gpure (want_t rfl rfl (show _ = Value.bool (decide (y9.2.2.2.2.2 = 0)) from rfl) hq57) (v := .bool (decide (y33.2.2.2.2.2 = 0))) (pu_eql (k := .i64) (a := y33.2.2.2.2.2) (b := 0) rfl rfl) ?_
    refine lex.pure (v := .bool (decide (y33.2.2.2.2.2 = 0))) (pu_pickT (q := (decide (y9.2.2.2.2.2 = 0))) rfl hq57 rfl) ?_
    refine lex.pure (v := .bool (decide (y33.2.2.2.2.2 = 0))) (pu_move rfl) ?_
    rcases bS (decide (y33.2.2.2.2.2 = 0)) with hq58 | hq58
    · replace hb := (cT hq58).symm.trans hb
      refine lex.gval (want_t rfl rfl (show _ = Value.bool (decide (y33.2.2.2.2.2 = 0)) from rfl) hq58) (v := .agg #[.int .i64 y9.2.2.1, .int .i64 y9.2.2.2.1, .int .i64 y9.2.2.2.2.1]) (ld_blk (hC.bx (i := 3) rfl) Try.isAgg28 Try.sizeOf28 e2) ?_
      refine lex.gpure (want_t rfl rfl (show _ = Value.bool (decide (y33.2.2.2.2.2 = 0)) from rfl) hq58) (v := .agg #[.int .i64 5, .int .i64 0, .int .i64 0]) (pu_builds (places := [(0, 1), (1, 1), (2, 1)]) (pv := [(0, .int .i64 5)]) Try.type28 Try.underlying28 rfl (mp_cons Try.type3 (mp_cons Try.type3 (mp_cons Try.type3 mp_nil rfl rfl) rfl rfl) rfl rfl) rfl (by simp [Instr.fill, Value.cells])) ?_
      refine lex.gpure (want_t rfl rfl (show _ = Value.bool (decide (y33.2.2.2.2.2 = 0)) from rfl) hq58) (v := .bool (decide (y9.2.2.1 = 5) && (decide (y9.2.2.2.1 = 0) && (decide (y9.2.2.2.2.1 = 0) && true)))) (pu_eqls Try.underlying28 (by kernel_rfl) (by kernel_rfl) rfl rfl (eqF_cons (by decide) Try.underlying3 Try.isAgg3 rfl rfl (eqF_cons (by decide) Try.underlying3 Try.isAgg3 rfl rfl (eqF_cons (by decide) Try.underlying3 Try.isAgg3 rfl rfl eqF_nil)))) ?_
      refine lex.pure (v := .bool (decide (y9.2.2.1 = 5) && (decide (y9.2.2.2.1 = 0) && (decide (y9.2.2.2.2.1 = 0) && true)))) (pu_pickT (q := (decide (y33.2.2.2.2.2 = 0))) rfl hq58 rfl) ?_
      refine lex.pure (v := .bool (decide (y9.2.2.1 = 5) && (decide (y9.2.2.2.1 = 0) && (decide (y9.2.2.2.2.1 = 0) && true)))) (pu_move rfl) ?_
      rcases bS (decide (y9.2.2.1 = 5) && (decide (y9.2.2.2.1 = 0) && (decide (y9.2.2.2.2.1 = 0) && true))) with hq59 | hq59
      · replace hb := (cT hq59).symm.trans hb
        refine lex.gval (want_t rfl rfl (show _ = Value.bool (decide (y9.2.2.1 = 5) && (decide (y9.2.2.2.1 = 0) && (decide (y9.2.2.2.2.1 = 0) && true))) from rfl) hq59) (v := .agg #[.int .i64 y9.1, .slice A12 y9.2.1.length c14]) (ld_blk (hC.bx (i := 4) rfl) Try.isAgg27 Try.sizeOf27 e1) ?_
        refine lex.gop (want_t rfl rfl (show _ = Value.bool (decide (y9.2.2.1 = 5) && (decide (y9.2.2.2.1 = 0) && (decide (y9.2.2.2.2.1 = 0) && true))) from rfl) hq59) (hC.lit (s := (.int .i64)) (vs := [.int .i64 2, .int .i64 1, .int .i64 2]) (xs := [2, 1, 2]) Try.underlying22 Try.type3 rfl rfl (Nat.le_of_ble_eq_true rfl) rfl rfl (by simp [Value.cells, Sh.n]) rfl (show Elems _ _ (.int .i64) ([.int .i64 2] ++ ([.int .i64 1] ++ ([.int .i64 2] ++ ([])))) ([2, 1, 2] : List Int) from Elems.cons (⟨rfl, I64.wr (show I64 2 from by unfold I64; omega)⟩) (Elems.cons (⟨rfl, I64.wr (show I64 1 from by unfold I64; omega)⟩) (Elems.cons (⟨rfl, I64.wr (show I64 2 from by unfold I64; omega)⟩) (Elems.nil _ _ _))))) ?_
        rintro _ w64 ⟨A60, c61, rfl, hl62, hc63, hC, hF, hN⟩
        clear hF hN
        refine lex.gpure (want_t rfl rfl (show _ = Value.bool (decide (y9.2.2.1 = 5) && (decide (y9.2.2.2.1 = 0) && (decide (y9.2.2.2.2.1 = 0) && true))) from rfl) hq59) (v := .agg #[.int .i64 3, .slice A60 ((([2, 1, 2] : List Int)).length) c61]) (pu_builds (places := [(0, 1), (1, 1)]) (pv := [(0, .int .i64 3), (1, .slice A60 ((([2, 1, 2] : List Int)).length) c61)]) Try.type27 Try.underlying27 rfl (mp_cons Try.type3 (mp_cons Try.type22 mp_nil rfl rfl) rfl rfl) rfl (by simp [Instr.fill, Value.cells])) ?_
        obtain ⟨y66, h67, hb⟩ := bd hb
        refine lex.gcl (want_t rfl rfl (show _ = Value.bool (decide (y9.2.2.1 = 5) && (decide (y9.2.2.2.1 = 0) && (decide (y9.2.2.2.2.1 = 0) && true))) from rfl) hq59) (⟨_, _, op_call (vs := [.agg #[.int .i64 y9.1, .slice A12 y9.2.1.length c14], .agg #[.int .i64 3, .slice A60 ((([2, 1, 2] : List Int)).length) c61]]) Try.call16 rfl rfl rfl, law36_equal_ok n (hC.lentLt [.slice A60 ((([2, 1, 2] : List Int)).length) c61]) hr11 ((hC.rd (i := 6) rfl).lent [.slice A60 ((([2, 1, 2] : List Int)).length) c61]) (show I64 3 from by unfold I64; omega) ((hC.ow (i := 0) rfl).lend (vs := [.slice A60 ((([2, 1, 2] : List Int)).length) c61]) (by simp)) h67⟩) ?_
        rintro _ w68 ⟨rfl, hK⟩
        replace hC := hC.mergeF hK rfl
        clear hK
        refine lex.pure (v := .bool y66) (pu_pickT (q := (decide (y9.2.2.1 = 5) && (decide (y9.2.2.2.1 = 0) && (decide (y9.2.2.2.2.1 = 0) && true)))) rfl hq59 rfl) ?_
        refine lex.pure (v := .bool y66) (pu_move rfl) ?_
        rcases bS y66 with hq69 | hq69
        · replace hb := (cT hq69).symm.trans hb
          refine lex.gval (want_t rfl rfl (show _ = Value.bool y66 from rfl) hq69) (v := .agg #[.int .i64 y33.1, .slice A36 y33.2.1.length c38]) (ld_blk (hC.bx (i := 2) rfl) Try.isAgg27 Try.sizeOf27 e4) ?_
          refine lex.gop (want_t rfl rfl (show _ = Value.bool y66 from rfl) hq69) (hC.lit (s := (.int .i64)) (vs := [.int .i64 (-1)]) (xs := [(-1)]) Try.underlying22 Try.type3 rfl rfl (Nat.le_of_ble_eq_true rfl) rfl rfl (by simp [Value.cells, Sh.n]) rfl (show Elems _ _ (.int .i64) ([.int .i64 (-1)] ++ ([])) ([(-1)] : List Int) from Elems.cons (⟨rfl, I64.wr (show I64 (-1) from by unfold I64; omega)⟩) (Elems.nil _ _ _))) ?_
          rintro _ w74 ⟨A70, c71, rfl, hl72, hc73, hC, hF, hN⟩
          clear hF hN
          refine lex.gpure (want_t rfl rfl (show _ = Value.bool y66 from rfl) hq69) (v := .agg #[.int .i64 2, .slice A70 ((([(-1)] : List Int)).length) c71]) (pu_builds (places := [(0, 1), (1, 1)]) (pv := [(0, .int .i64 2), (1, .slice A70 ((([(-1)] : List Int)).length) c71)]) Try.type27 Try.underlying27 rfl (mp_cons Try.type3 (mp_cons Try.type22 mp_nil rfl rfl) rfl rfl) rfl (by simp [Instr.fill, Value.cells])) ?_
          obtain ⟨y76, h77, hb⟩ := bd hb
          refine lex.gcl (want_t rfl rfl (show _ = Value.bool y66 from rfl) hq69) (⟨_, _, op_call (vs := [.agg #[.int .i64 y33.1, .slice A36 y33.2.1.length c38], .agg #[.int .i64 2, .slice A70 ((([(-1)] : List Int)).length) c71]]) Try.call16 rfl rfl rfl, law36_equal_ok n (hC.lentLt [.slice A70 ((([(-1)] : List Int)).length) c71]) hr35 ((hC.rd (i := 4) rfl).lent [.slice A70 ((([(-1)] : List Int)).length) c71]) (show I64 2 from by unfold I64; omega) ((hC.ow (i := 0) rfl).lend (vs := [.slice A70 ((([(-1)] : List Int)).length) c71]) (by simp)) h77⟩) ?_
          rintro _ w78 ⟨rfl, hK⟩
          replace hC := hC.mergeF hK rfl
          clear hK
          refine lex.pure (v := .bool y76) (pu_pickT (q := y66) rfl hq69 rfl) ?_
          refine lex.pure (v := .bool y76) (pu_assign rfl) ?_
          refine lex.nil ?_
          refine hK56 _ _ ?_
          obtain rfl := Option.some.inj hb
          refine Wc.ret ?_
          refine hKR _ _ ?_
          refine ⟨_, res1 Try.results11 (show RV _ _ _ (.tmp _) (.bool y76) from rfl), _, rfl, rfl, hC.sel [] (by decide)⟩
        · replace hb := (cF hq69).symm.trans hb
          refine lex.gskip (want_f rfl rfl (show _ = Value.bool y66 from rfl) hq69) ?_
          refine lex.gskip (want_f rfl rfl (show _ = Value.bool y66 from rfl) hq69) ?_
          refine lex.gskip (want_f rfl rfl (show _ = Value.bool y66 from rfl) hq69) ?_
          refine lex.gskip (want_f rfl rfl (show _ = Value.bool y66 from rfl) hq69) ?_
          refine lex.pure (v := .bool false) (pu_pickF (q := y66) rfl hq69 rfl) ?_
          refine lex.pure (v := .bool false) (pu_assign rfl) ?_
          refine lex.nil ?_
          refine hK56 _ _ ?_
          obtain rfl := Option.some.inj hb
          refine Wc.ret ?_
          refine hKR _ _ ?_
          refine ⟨_, res1 Try.results11 (show RV _ _ _ (.tmp _) (.bool false) from rfl), _, rfl, rfl, hC.sel [] (by decide)⟩
      · replace hb := (cF hq59).symm.trans hb
        refine lex.gskip (want_f rfl rfl (show _ = Value.bool (decide (y9.2.2.1 = 5) && (decide (y9.2.2.2.1 = 0) && (decide (y9.2.2.2.2.1 = 0) && true))) from rfl) hq59) ?_
        refine lex.gskip (want_f rfl rfl (show _ = Value.bool (decide (y9.2.2.1 = 5) && (decide (y9.2.2.2.1 = 0) && (decide (y9.2.2.2.2.1 = 0) && true))) from rfl) hq59) ?_
        refine lex.gskip (want_f rfl rfl (show _ = Value.bool (decide (y9.2.2.1 = 5) && (decide (y9.2.2.2.1 = 0) && (decide (y9.2.2.2.2.1 = 0) && true))) from rfl) hq59) ?_
        refine lex.gskip (want_f rfl rfl (show _ = Value.bool (decide (y9.2.2.1 = 5) && (decide (y9.2.2.2.1 = 0) && (decide (y9.2.2.2.2.1 = 0) && true))) from rfl) hq59) ?_
        refine lex.pure (v := .bool false) (pu_pickF (q := (decide (y9.2.2.1 = 5) && (decide (y9.2.2.2.1 = 0) && (decide (y9.2.2.2.2.1 = 0) && true)))) rfl hq59 rfl) ?_
        refine lex.pure (v := .bool false) (pu_move rfl) ?_
        refine lex.gskip (want_f rfl rfl (show _ = Value.bool false from rfl) rfl) ?_
        refine lex.gskip (want_f rfl rfl (show _ = Value.bool false from rfl) rfl) ?_
        refine lex.gskip (want_f rfl rfl (show _ = Value.bool false from rfl) rfl) ?_
        refine lex.gskip (want_f rfl rfl (show _ = Value.bool false from rfl) rfl) ?_
        refine lex.pure (v := .bool false) (pu_pickF (q := false) rfl rfl rfl) ?_
        refine lex.pure (v := .bool false) (pu_assign rfl) ?_
        refine lex.nil ?_
        refine hK56 _ _ ?_
        obtain rfl := Option.some.inj hb
        refine Wc.ret ?_
        refine hKR _ _ ?_
        refine ⟨_, res1 Try.results11 (show RV _ _ _ (.tmp _) (.bool false) from rfl), _, rfl, rfl, hC.sel [] (by decide)⟩
    · replace hb := (cF hq58).symm.trans hb
      refine lex.gskip (want_f rfl rfl (show _ = Value.bool (decide (y33.2.2.2.2.2 = 0)) from rfl) hq58) ?_
      refine lex.gskip (want_f rfl rfl (show _ = Value.bool (decide (y33.2.2.2.2.2 = 0)) from rfl) hq58) ?_
      refine lex.gskip (want_f rfl rfl (show _ = Value.bool (decide (y33.2.2.2.2.2 = 0)) from rfl) hq58) ?_
      refine lex.pure (v := .bool false) (pu_pickF (q := (decide (y33.2.2.2.2.2 = 0))) rfl hq58 rfl) ?_
      refine lex.pure (v := .bool false) (pu_move rfl) ?_
      refine lex.gskip (want_f rfl rfl (show _ = Value.bool false from rfl) rfl) ?_
      refine lex.gskip (want_f rfl rfl (show _ = Value.bool false from rfl) rfl) ?_
      refine lex.gskip (want_f rfl rfl (show _ = Value.bool false from rfl) rfl) ?_
      refine lex.gskip (want_f rfl rfl (show _ = Value.bool false from rfl) rfl) ?_
      refine lex.pure (v := .bool false) (pu_pickF (q := false) rfl rfl rfl) ?_
      refine lex.pure (v := .bool false) (pu_move rfl) ?_
      refine lex.gskip (want_f rfl rfl (show _ = Value.bool false from rfl) rfl) ?_
      refine lex.gskip (want_f rfl rfl (show _ = Value.bool false from rfl) rfl) ?_
      refine lex.gskip (want_f rfl rfl (show _ = Value.bool false from rfl) rfl) ?_
      refine lex.gskip (want_f rfl rfl (show _ = Value.bool false from rfl) rfl) ?_
      refine lex.pure (v := .bool false) (pu_pickF (q := false) rfl rfl rfl) ?_
      refine lex.pure (v := .bool false) (pu_assign rfl) ?_
      refine lex.nil ?_
      refine hK56 _ _ ?_
      obtain rfl := Option.some.inj hb
      refine Wc.ret ?_
      refine hKR _ _ ?_
      refine ⟨_, res1 Try.results11 (show RV _ _ _ (.tmp _) (.bool false) from rfl), _, rfl, rfl, hC.sel [] (by decide)⟩
  · replace hb := (cF hq57).symm.trans hb
    refine lex.gskip (want_f rfl rfl (show _ = Value.bool (decide (y9.2.2.2.2.2 = 0)) from rfl) hq57) ?_
    refine lex.gskip (want_f rfl rfl (show _ = Value.bool (decide (y9.2.2.2.2.2 = 0)) from rfl) hq57) ?_
    refine lex.pure (v := .bool false) (pu_pickF (q := (decide (y9.2.2.2.2.2 = 0))) rfl hq57 rfl) ?_
    refine lex.pure (v := .bool false) (pu_move rfl) ?_
    refine lex.gskip (want_f rfl rfl (show _ = Value.bool false from rfl) rfl) ?_
    refine lex.gskip (want_f rfl rfl (show _ = Value.bool false from rfl) rfl) ?_
    refine lex.gskip (want_f rfl rfl (show _ = Value.bool false from rfl) rfl) ?_
    refine lex.pure (v := .bool false) (pu_pickF (q := false) rfl rfl rfl) ?_
    refine lex.pure (v := .bool false) (pu_move rfl) ?_
    refine lex.gskip (want_f rfl rfl (show _ = Value.bool false from rfl) rfl) ?_
    refine lex.gskip (want_f rfl rfl (show _ = Value.bool false from rfl) rfl) ?_
    refine lex.gskip (want_f rfl rfl (show _ = Value.bool false from rfl) rfl) ?_
    refine lex.gskip (want_f rfl rfl (show _ = Value.bool false from rfl) rfl) ?_
    refine lex.pure (v := .bool false) (pu_pickF (q := false) rfl rfl rfl) ?_
    refine lex.pure (v := .bool false) (pu_move rfl) ?_
    refine lex.gskip (want_f rfl rfl (show _ = Value.bool false from rfl) rfl) ?_
    refine lex.gskip (want_f rfl rfl (show _ = Value.bool false from rfl) rfl) ?_
    refine lex.gskip (want_f rfl rfl (show _ = Value.bool false from rfl) rfl) ?_
    refine lex.gskip (want_f rfl rfl (show _ = Value.bool false from rfl) rfl) ?_
    refine lex.pure (v := .bool false) (pu_pickF (q := false) rfl rfl rfl) ?_
    refine lex.pure (v := .bool false) (pu_assign rfl) ?_
    refine lex.nil ?_
    refine hK56 _ _ ?_
    obtain rfl := Option.some.inj hb
    refine Wc.ret ?_
    refine hKR _ _ ?_
    refine ⟨_, res1 Try.results11 (show RV _ _ _ (.tmp _) (.bool false) from rfl), _, rfl, rfl, hC.sel [] (by decide)⟩
end Go.Proofs.Ytkjpldmelafooaa
