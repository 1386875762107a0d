/- The walks: part 6. -/
import Derived.Test.YtkjpldmelafooaaS
import Derived.Test.YtkjpldmelafooaaG4
import Derived.Test.YtkjpldmelafooaaG5
set_option linter.unusedVariables false
set_option linter.unusedSimpArgs false
namespace Go.Proofs.Ytkjpldmelafooaa
open Ev
set_option maxRecDepth 100000 in
set_option maxHeartbeats 4000000 in
theorem ref36_Apply_ok (n : Nat) {w : World} {O0 : List Nat} (hO : ∀ k ∈ O0, k < w.heap.size) {b_0_0 : Int} (hb_0_0 : I64 b_0_0) {Ab_0_1 : Option Addr} {mb_0_1 cb_0_1 : Nat} {b_0_1 : List Int} (hb_0_1 : Rep O0 w (.sl (.int .i64)) [.slice Ab_0_1 mb_0_1 cb_0_1] b_0_1) {s_1_0 : Int} (hs_1_0 : I64 s_1_0) {s_1_1 : Int} (hs_1_1 : I64 s_1_1) {s_1_2 : Int} (hs_1_2 : I64 s_1_2) {r : Int × (List Int) × Int × Int × Int × Int} (hb : F.ref36_Apply n b_0_0 b_0_1 s_1_0 s_1_1 s_1_2 = some r) :
    Calls Try.prog 13 #[.agg #[.int .i64 b_0_0, .slice Ab_0_1 mb_0_1 cb_0_1], .agg #[.int .i64 s_1_0, .int .i64 s_1_1, .int .i64 s_1_2]] w fun e w' => ∃ v, e = .returned v ∧ ∃ (A1 : Option Addr) (m1 c1 : Nat), v = .tuple #[.agg #[.int .i64 r.1, .slice A1 m1 c1], .agg #[.int .i64 r.2.2.1, .int .i64 r.2.2.2.1, .int .i64 r.2.2.2.2.1], .int .i64 r.2.2.2.2.2] ∧ I64 r.1 ∧ I64 r.2.2.1 ∧ I64 r.2.2.2.1 ∧ I64 r.2.2.2.2.1 ∧ I64 r.2.2.2.2.2 ∧ Cx (fun _ => False) O0 w w' [.ro (.sl (.int .i64)) [.slice A1 m1 c1] r.2.1] := by
  unfold F.ref36_Apply at hb
  have hC := Cx.start hO
  replace hC := hC.arg rfl hb_0_1
  clear hO
  obtain ⟨rfl, hlb_0_1, hcb_0_1⟩ := hb_0_1.sl_len
  refine calls_of_Wc Try.func13 rfl (by rw [Try.ntmps13]; exact Nat.le_of_ble_eq_true rfl) fun KR hKR => ?_
  refine Wc.seq fun K2 hK2 => ?_
  refine Wc.region (by decide +kernel) ?_
  refine lex.op (hC.box (cs := [.int .i64 b_0_0, .slice Ab_0_1 b_0_1.length cb_0_1]) rfl rfl) ?_
  rintro _ w4 ⟨g3, rfl, hC, hF, hG⟩
  clear hG
  refine lex.op (hC.box (cs := [.int .i64 s_1_0, .int .i64 s_1_1, .int .i64 s_1_2]) rfl rfl) ?_
  rintro _ w7 ⟨g6, rfl, hC, hF, hG⟩
  clear hG
  refine lex.op (hC.alloc (cs := [.int .i64 0, .slice none 0 0]) Try.zeroValue32 rfl) ?_
  rintro _ w10 ⟨g9, rfl, hC, hF, hG⟩
  clear hG
  refine lex.op (hC.alloc (cs := [.int .i64 0, .int .i64 0, .int .i64 0]) Try.zeroValue33 rfl) ?_
  rintro _ w13 ⟨g12, rfl, hC, hF, hG⟩
  clear hG
  refine lex.pure (v := .int .i64 0) (pu_assign rfl) ?_
  refine lex.nil ?_
  refine hK2 _ _ ?_
  refine Wc.seq fun K15 hK15 => ?_
  refine Wc.seq fun K16 hK16 => ?_
  refine Wc.region (by decide +kernel) ?_
  refine lex.pure (v := .pointer (some ((⟨g3, 0, none⟩ : Addr).add 0))) (pu_field (sz := 1) Try.underlying32 rfl Try.sizeOf3 (by decide) rfl rfl) ?_
  refine lex.val (v := .int .i64 b_0_0) (ld_fld (hC.bx (i := 3) rfl) Try.isAgg3 rfl rfl) ?_
  refine lex.pure (v := .pointer (some ((⟨g3, 0, none⟩ : Addr).add 1))) (pu_field (sz := 1) Try.underlying32 rfl Try.sizeOf22 (by decide) rfl rfl) ?_
  refine lex.val (v := .slice Ab_0_1 b_0_1.length cb_0_1) (ld_fld (hC.bx (i := 3) rfl) Try.isAgg22 rfl rfl) ?_
  obtain ⟨y17, h18, hb⟩ := bd hb
  refine lex.cl (⟨_, _, op_call (vs := [.int .i64 b_0_0, .slice Ab_0_1 b_0_1.length cb_0_1]) Try.call17 rfl rfl rfl, ref33_Valid_ok n hC.lt hb_0_0 (hC.rd (i := 4) rfl) h18⟩) ?_
  rintro _ w19 ⟨rfl, hK⟩
  replace hC := hC.merge hK
  clear hK
  refine lex.pure (v := .bool (!y17)) (pu_not (q := y17) rfl) ?_
  refine lex.nil ?_
  refine hK16 _ _ ?_
  refine Wc.fresh fun E20 hE => ?_
  have e2 : E20 2 = .pointer (some ⟨g3, 0, none⟩) := (congrFun hE 2).trans rfl
  have e3 : E20 3 = .pointer (some ⟨g6, 0, none⟩) := (congrFun hE 3).trans rfl
  have e4 : E20 4 = .pointer (some ⟨g9, 0, none⟩) := (congrFun hE 4).trans rfl
  have e5 : E20 5 = .pointer (some ⟨g12, 0, none⟩) := (congrFun hE 5).trans rfl
  have e6 : E20 6 = .int .i64 0 := (congrFun hE 6).trans rfl
  have e25 : E20 25 = .bool (!y17) := (congrFun hE 25).trans rfl
  clear hE
  refine Wc.cond (t := (!y17)) (e25) (fun hq21 => ?_) (fun hq21 => ?_)
  · replace hb := (cT hq21).symm.trans hb
    refine Wc.seq fun K22 hK22 => ?_
    refine Wc.region (by decide +kernel) ?_
    refine lex.pure (v := .agg #[.int .i64 0, .slice none 0 0]) (pu_builds (places := [(0, 1), (1, 1)]) (pv := []) Try.type32 Try.underlying32 rfl (mp_cons Try.type3 (mp_cons Try.type22 mp_nil rfl rfl) rfl rfl) rfl (by simp [Instr.fill, Value.cells])) ?_
    refine lex.pure (v := .agg #[.int .i64 0, .int .i64 0, .int .i64 0]) (pu_builds (places := [(0, 1), (1, 1), (2, 1)]) (pv := []) Try.type33 Try.underlying33 rfl (mp_cons Try.type3 (mp_cons Try.type3 (mp_cons Try.type3 mp_nil rfl rfl) rfl rfl) rfl rfl) rfl (by simp [Instr.fill, Value.cells])) ?_
    refine lex.sk (hC.seta (i := 1) (ds := [.int .i64 0, .slice none 0 0]) rfl Try.type32 rfl rfl rfl e4 rfl) ?_
    rintro w23 ⟨hC, hF⟩
    refine lex.sk (hC.seta (i := 0) (ds := [.int .i64 0, .int .i64 0, .int .i64 0]) rfl Try.type33 rfl rfl rfl e5 rfl) ?_
    rintro w24 ⟨hC, hF⟩
    refine lex.pure (v := .int .i64 1) (pu_assign rfl) ?_
    refine lex.nil ?_
    refine hK22 _ _ ?_
    replace hC := hC.ro (show Rep _ _ (.sl (.int .i64)) [.slice none 0 0] [] from ⟨none, 0, rfl, Nat.le_refl _, by omega, fun h => absurd h (by simp)⟩)
    obtain rfl := Option.some.inj hb
    refine Wc.ret ?_
    refine hKR _ _ ?_
    refine ⟨_, res3 Try.results13 ⟨_, e4, loadVar_blk (hC.bx (i := 2) rfl) Try.isAgg32 Try.sizeOf32⟩ ⟨_, e5, loadVar_blk (hC.bx (i := 1) rfl) Try.isAgg33 Try.sizeOf33⟩ (show RV _ _ _ (.tmp _) (.int .i64 1) from rfl), _, rfl, none, 0, 0, rfl, (show I64 0 from by unfold I64; omega), (show I64 0 from by unfold I64; omega), (show I64 0 from by unfold I64; omega), (show I64 0 from by unfold I64; omega), (show I64 1 from by unfold I64; omega), hC.sel [0] (by decide)⟩
  · replace hb := (cF hq21).symm.trans hb
    refine Wc.skip ?_
    refine hK15 _ _ ?_
    refine Wc.seq fun K26 hK26 => ?_
    refine Wc.regionMix [] (frm [] ([] : List Fact) ([] : List Fact)) (fun _ => rfl) mixed (by decide +kernel) (by decide +kernel) fun w28 hw27 => ?_
    replace hC := hC.step (Fr.of_drew hw27)
    have hM := Fr.refl (fun k => k ∈ blocks ([] : List Fact)) w28
    clear hw27
    have hS := hC
    refine mixE.pure (v := .pointer (some ((⟨g3, 0, none⟩ : Addr).add 1))) (pu_field (sz := 1) Try.underlying32 rfl Try.sizeOf22 (by decide) rfl e2) ?_
    refine mixE.load hM (v := .slice Ab_0_1 b_0_1.length cb_0_1) (fun _ hF => ld_fld (hS.bx2 (i := 3) rfl [] (by decide) hF) Try.isAgg22 rfl rfl) ?_
    refine mixE.pure (v := .pointer (some ((⟨g3, 0, none⟩ : Addr).add 1))) (pu_field (sz := 1) Try.underlying32 rfl Try.sizeOf22 (by decide) rfl e2) ?_
    refine mixE.load hM (v := .slice Ab_0_1 b_0_1.length cb_0_1) (fun _ hF => ld_fld (hS.bx2 (i := 3) rfl [] (by decide) hF) Try.isAgg22 rfl rfl) ?_
    refine mixE.pure (v := .int .i64 (b_0_1.length : Int)) (pu_len (A := Ab_0_1) (n := b_0_1.length) (m := cb_0_1) Try.underlying22 rfl) ?_
    refine mixE.pure (v := .slice Ab_0_1 b_0_1.length cb_0_1) (pu_assign rfl) ?_
    refine mixE.pure (v := .int .i64 (b_0_1.length : Int)) (pu_assign rfl) ?_
    refine mixE.nil ?_
    clear hS hM
    refine hK26 _ _ ?_
    refine Wc.seqJ (fun E wv => ∃ (v9_0 : Bool), E 2 = .pointer (some ⟨g3, 0, none⟩) ∧ E 3 = .pointer (some ⟨g6, 0, none⟩) ∧ E 4 = .pointer (some ⟨g9, 0, none⟩) ∧ E 5 = .pointer (some ⟨g12, 0, none⟩) ∧ E 6 = .int .i64 0 ∧ E 7 = .slice Ab_0_1 b_0_1.length cb_0_1 ∧ E 8 = .int .i64 (b_0_1.length : Int) ∧ E 9 = .bool v9_0 ∧ Cx (fun _ => False) O0 w wv [.box g3 32 [.int .i64 b_0_0, .slice Ab_0_1 b_0_1.length cb_0_1], .ro (.sl (.int .i64)) [.slice Ab_0_1 b_0_1.length cb_0_1] b_0_1, .box g6 33 [.int .i64 s_1_0, .int .i64 s_1_1, .int .i64 s_1_2], .box g9 32 [.int .i64 0, .slice none 0 0], .box g12 33 [.int .i64 0, .int .i64 0, .int .i64 0]] ∧ F.ref36_Apply_j0 n b_0_0 b_0_1 s_1_0 s_1_1 s_1_2 v9_0 = some r) (fun K29 hK29 => ?_) ?_
    ·
      skip
      refine Wc.region (by decide +kernel) ?_
      refine lex.pure (v := .pointer (some ((⟨g6, 0, none⟩ : Addr).add 1))) (pu_field (sz := 1) Try.underlying33 rfl Try.sizeOf3 (by decide) rfl e3) ?_
      refine lex.val (v := .int .i64 s_1_1) (ld_fld (hC.bx (i := 2) rfl) Try.isAgg3 rfl rfl) ?_
      refine lex.pure (v := .bool (!(decide (s_1_1 = 0)))) (pu_neq (k := .i64) (a := s_1_1) (b := 0) rfl rfl) ?_
      refine lex.pure (v := .bool (!(decide (s_1_1 = 0)))) (pu_move rfl) ?_
      rcases bS (!(decide (s_1_1 = 0))) with hq30 | hq30
      · replace hb := (cT hq30).symm.trans hb
        refine lex.gpure (want_t rfl rfl (show _ = Value.bool (!(decide (s_1_1 = 0))) from rfl) hq30) (v := .pointer (some ((⟨g6, 0, none⟩ : Addr).add 1))) (pu_field (sz := 1) Try.underlying33 rfl Try.sizeOf3 (by decide) rfl e3) ?_
        refine lex.gval (want_t rfl rfl (show _ = Value.bool (!(decide (s_1_1 = 0))) from rfl) hq30) (v := .int .i64 s_1_1) (ld_fld (hC.bx (i := 2) rfl) Try.isAgg3 rfl rfl) ?_
        refine lex.gpure (want_t rfl rfl (show _ = Value.bool (!(decide (s_1_1 = 0))) from rfl) hq30) (v := .pointer (some ((⟨g3, 0, none⟩ : Addr).add 0))) (pu_field (sz := 1) Try.underlying32 rfl Try.sizeOf3 (by decide) rfl e2) ?_
        refine lex.gval (want_t rfl rfl (show _ = Value.bool (!(decide (s_1_1 = 0))) from rfl) hq30) (v := .int .i64 b_0_0) (ld_fld (hC.bx (i := 3) rfl) Try.isAgg3 rfl rfl) ?_
        refine lex.gpure (want_t rfl rfl (show _ = Value.bool (!(decide (s_1_1 = 0))) from rfl) hq30) (v := .bool (decide (s_1_1 < b_0_0))) (pu_lss (k := .i64) (a := s_1_1) (b := b_0_0) rfl rfl) ?_
        refine lex.pure (v := .bool (decide (s_1_1 < b_0_0))) (pu_pickT (q := (!(decide (s_1_1 = 0)))) rfl hq30 rfl) ?_
        refine lex.pure (v := .bool (decide (s_1_1 < b_0_0))) (pu_move rfl) ?_
        rcases bS (decide (s_1_1 < b_0_0)) with hq31 | hq31
        · replace hb := (cT hq31).symm.trans hb
          refine lex.gpure (want_t rfl rfl (show _ = Value.bool (decide (s_1_1 < b_0_0)) from rfl) hq31) (v := .pointer (some ((⟨g6, 0, none⟩ : Addr).add 1))) (pu_field (sz := 1) Try.underlying33 rfl Try.sizeOf3 (by decide) rfl e3) ?_
          refine lex.gval (want_t rfl rfl (show _ = Value.bool (decide (s_1_1 < b_0_0)) from rfl) hq31) (v := .int .i64 s_1_1) (ld_fld (hC.bx (i := 2) rfl) Try.isAgg3 rfl rfl) ?_
          refine lex.gpure (want_t rfl rfl (show _ = Value.bool (decide (s_1_1 < b_0_0)) from rfl) hq31) (v := .pointer (some ((⟨g3, 0, none⟩ : Addr).add 0))) (pu_field (sz := 1) Try.underlying32 rfl Try.sizeOf3 (by decide) rfl e2) ?_
          refine lex.gval (want_t rfl rfl (show _ = Value.bool (decide (s_1_1 < b_0_0)) from rfl) hq31) (v := .int .i64 b_0_0) (ld_fld (hC.bx (i := 3) rfl) Try.isAgg3 rfl rfl) ?_
          refine lex.gpure (want_t rfl rfl (show _ = Value.bool (decide (s_1_1 < b_0_0)) from rfl) hq31) (v := .int .i64 (wr (-b_0_0))) (pu_negw (a := b_0_0) rfl) ?_
          refine lex.gpure (want_t rfl rfl (show _ = Value.bool (decide (s_1_1 < b_0_0)) from rfl) hq31) (v := .bool (decide ((wr (-b_0_0)) < s_1_1))) (pu_gtr (k := .i64) (a := s_1_1) (b := (wr (-b_0_0))) rfl rfl) ?_
          refine lex.pure (v := .bool (decide ((wr (-b_0_0)) < s_1_1))) (pu_pickT (q := (decide (s_1_1 < b_0_0))) rfl hq31 rfl) ?_
          refine lex.pure (v := .bool (decide ((wr (-b_0_0)) < s_1_1))) (pu_assign rfl) ?_
          refine lex.nil ?_
          exact hK29 _ _ ⟨(decide ((wr (-b_0_0)) < s_1_1)), e2, e3, e4, e5, e6, rfl, rfl, rfl, hC.sel [3, 4, 2, 1, 0] (by decide), hb⟩
        · replace hb := (cF hq31).symm.trans hb
          refine lex.gskip (want_f rfl rfl (show _ = Value.bool (decide (s_1_1 < b_0_0)) from rfl) hq31) ?_
          refine lex.gskip (want_f rfl rfl (show _ = Value.bool (decide (s_1_1 < b_0_0)) from rfl) hq31) ?_
          refine lex.gskip (want_f rfl rfl (show _ = Value.bool (decide (s_1_1 < b_0_0)) from rfl) hq31) ?_
          refine lex.gskip (want_f rfl rfl (show _ = Value.bool (decide (s_1_1 < b_0_0)) from rfl) hq31) ?_
          refine lex.gskip (want_f rfl rfl (show _ = Value.bool (decide (s_1_1 < b_0_0)) from rfl) hq31) ?_
          refine lex.gskip (want_f rfl rfl (show _ = Value.bool (decide (s_1_1 < b_0_0)) from rfl) hq31) ?_
          refine lex.pure (v := .bool false) (pu_pickF (q := (decide (s_1_1 < b_0_0))) rfl hq31 rfl) ?_
          refine lex.pure (v := .bool false) (pu_assign rfl) ?_
          refine lex.nil ?_
          exact hK29 _ _ ⟨false, e2, e3, e4, e5, e6, rfl, rfl, rfl, hC.sel [3, 4, 2, 1, 0] (by decide), hb⟩
      · replace hb := (cF hq30).symm.trans hb
        refine lex.gskip (want_f rfl rfl (show _ = Value.bool (!(decide (s_1_1 = 0))) from rfl) hq30) ?_
        refine lex.gskip (want_f rfl rfl (show _ = Value.bool (!(decide (s_1_1 = 0))) from rfl) hq30) ?_
        refine lex.gskip (want_f rfl rfl (show _ = Value.bool (!(decide (s_1_1 = 0))) from rfl) hq30) ?_
        refine lex.gskip (want_f rfl rfl (show _ = Value.bool (!(decide (s_1_1 = 0))) from rfl) hq30) ?_
        refine lex.gskip (want_f rfl rfl (show _ = Value.bool (!(decide (s_1_1 = 0))) from rfl) hq30) ?_
        refine lex.pure (v := .bool false) (pu_pickF (q := (!(decide (s_1_1 = 0)))) rfl hq30 rfl) ?_
        refine lex.pure (v := .bool false) (pu_move rfl) ?_
        refine lex.gskip (want_f rfl rfl (show _ = Value.bool false from rfl) rfl) ?_
        refine lex.gskip (want_f rfl rfl (show _ = Value.bool false from rfl) rfl) ?_
        refine lex.gskip (want_f rfl rfl (show _ = Value.bool false from rfl) rfl) ?_
        refine lex.gskip (want_f rfl rfl (show _ = Value.bool false from rfl) rfl) ?_
        refine lex.gskip (want_f rfl rfl (show _ = Value.bool false from rfl) rfl) ?_
        refine lex.gskip (want_f rfl rfl (show _ = Value.bool false from rfl) rfl) ?_
        refine lex.pure (v := .bool false) (pu_pickF (q := false) rfl rfl rfl) ?_
        refine lex.pure (v := .bool false) (pu_assign rfl) ?_
        refine lex.nil ?_
        exact hK29 _ _ ⟨false, e2, e3, e4, e5, e6, rfl, rfl, rfl, hC.sel [3, 4, 2, 1, 0] (by decide), hb⟩
    · clear hb hC
      rintro E33 w32 ⟨v9_0, e2, e3, e4, e5, e6, e7, e8, e9, hC, hb⟩
      unfold F.ref36_Apply_j0 at hb
      refine Wc.seqJ (fun E wv => ∃ (v10_1 : Bool), E 2 = .pointer (some ⟨g3, 0, none⟩) ∧ E 3 = .pointer (some ⟨g6, 0, none⟩) ∧ E 4 = .pointer (some ⟨g9, 0, none⟩) ∧ E 5 = .pointer (some ⟨g12, 0, none⟩) ∧ E 6 = .int .i64 0 ∧ E 7 = .slice Ab_0_1 b_0_1.length cb_0_1 ∧ E 8 = .int .i64 (b_0_1.length : Int) ∧ E 9 = .bool v9_0 ∧ E 10 = .bool v10_1 ∧ Cx (fun _ => False) O0 w wv [.box g3 32 [.int .i64 b_0_0, .slice Ab_0_1 b_0_1.length cb_0_1], .ro (.sl (.int .i64)) [.slice Ab_0_1 b_0_1.length cb_0_1] b_0_1, .box g6 33 [.int .i64 s_1_0, .int .i64 s_1_1, .int .i64 s_1_2], .box g9 32 [.int .i64 0, .slice none 0 0], .box g12 33 [.int .i64 0, .int .i64 0, .int .i64 0]] ∧ F.ref36_Apply_j1 n b_0_0 b_0_1 s_1_0 s_1_1 s_1_2 v9_0 v10_1 = some r) (fun K34 hK34 => ?_) ?_
      ·
        skip
        refine Wc.region (by decide +kernel) ?_
        refine lex.pure (v := .pointer (some ((⟨g6, 0, none⟩ : Addr).add 2))) (pu_field (sz := 1) Try.underlying33 rfl Try.sizeOf3 (by decide) rfl e3) ?_
        refine lex.val (v := .int .i64 s_1_2) (ld_fld (hC.bx (i := 2) rfl) Try.isAgg3 rfl rfl) ?_
        refine lex.pure (v := .bool (decide (0 ≤ s_1_2))) (pu_geq (k := .i64) (a := s_1_2) (b := 0) rfl rfl) ?_
        refine lex.pure (v := .bool (decide (0 ≤ s_1_2))) (pu_move rfl) ?_
        rcases bS (decide (0 ≤ s_1_2)) with hq35 | hq35
        · replace hb := (cT hq35).symm.trans hb
          refine lex.gpure (want_t rfl rfl (show _ = Value.bool (decide (0 ≤ s_1_2)) from rfl) hq35) (v := .pointer (some ((⟨g6, 0, none⟩ : Addr).add 2))) (pu_field (sz := 1) Try.underlying33 rfl Try.sizeOf3 (by decide) rfl e3) ?_
          refine lex.gval (want_t rfl rfl (show _ = Value.bool (decide (0 ≤ s_1_2)) from rfl) hq35) (v := .int .i64 s_1_2) (ld_fld (hC.bx (i := 2) rfl) Try.isAgg3 rfl rfl) ?_
          refine lex.gpure (want_t rfl rfl (show _ = Value.bool (decide (0 ≤ s_1_2)) from rfl) hq35) (v := .int .i64 (b_0_1.length : Int)) (pu_move e8) ?_
          refine lex.gpure (want_t rfl rfl (show _ = Value.bool (decide (0 ≤ s_1_2)) from rfl) hq35) (v := .bool (decide (s_1_2 < (b_0_1.length : Int)))) (pu_lss (k := .i64) (a := s_1_2) (b := (b_0_1.length : Int)) rfl rfl) ?_
          refine lex.pure (v := .bool (decide (s_1_2 < (b_0_1.length : Int)))) (pu_pickT (q := (decide (0 ≤ s_1_2))) rfl hq35 rfl) ?_
          refine lex.pure (v := .bool (decide (s_1_2 < (b_0_1.length : Int)))) (pu_assign rfl) ?_
          refine lex.nil ?_
          exact hK34 _ _ ⟨(decide (s_1_2 < (b_0_1.length : Int))), e2, e3, e4, e5, e6, e7, e8, e9, rfl, hC.sel [0, 1, 2, 3, 4] (by decide), hb⟩
        · replace hb := (cF hq35).symm.trans hb
          refine lex.gskip (want_f rfl rfl (show _ = Value.bool (decide (0 ≤ s_1_2)) from rfl) hq35) ?_
          refine lex.gskip (want_f rfl rfl (show _ = Value.bool (decide (0 ≤ s_1_2)) from rfl) hq35) ?_
          refine lex.gskip (want_f rfl rfl (show _ = Value.bool (decide (0 ≤ s_1_2)) from rfl) hq35) ?_
          refine lex.gskip (want_f rfl rfl (show _ = Value.bool (decide (0 ≤ s_1_2)) from rfl) hq35) ?_
          refine lex.pure (v := .bool false) (pu_pickF (q := (decide (0 ≤ s_1_2))) rfl hq35 rfl) ?_
          refine lex.pure (v := .bool false) (pu_assign rfl) ?_
          refine lex.nil ?_
          exact hK34 _ _ ⟨false, e2, e3, e4, e5, e6, e7, e8, e9, rfl, hC.sel [0, 1, 2, 3, 4] (by decide), hb⟩
      · clear hb hC
        rintro E37 w36 ⟨v10_1, e2, e3, e4, e5, e6, e7, e8, e9, e10, hC, hb⟩
        unfold F.ref36_Apply_j1 at hb
        refine Wc.seq fun K38 hK38 => ?_
        refine Wc.region (by decide +kernel) ?_
        refine lex.pure (v := .bool false) (pu_assign rfl) ?_
        refine lex.pure (v := .bool true) (pu_assign rfl) ?_
        refine lex.nil ?_
        refine hK38 _ _ ?_
        refine Wc.seq fun K39 hK39 => ?_
        refine Wc.region (by decide +kernel) ?_
        refine lex.pure (v := .pointer (some ((⟨g3, 0, none⟩ : Addr).add 0))) (pu_field (sz := 1) Try.underlying32 rfl Try.sizeOf3 (by decide) rfl e2) ?_
        refine lex.val (v := .int .i64 b_0_0) (ld_fld (hC.bx (i := 0) rfl) Try.isAgg3 rfl rfl) ?_
        refine lex.pure (v := .agg #[.int .i64 b_0_0, .slice none 0 0]) (pu_builds (places := [(0, 1), (1, 1)]) (pv := [(0, .int .i64 b_0_0)]) Try.type32 Try.underlying32 rfl (mp_cons Try.type3 (mp_cons Try.type22 mp_nil rfl rfl) rfl rfl) rfl (by simp [Instr.fill, Value.cells])) ?_
        refine lex.pure (v := .agg #[.int .i64 0, .int .i64 0, .int .i64 0]) (pu_builds (places := [(0, 1), (1, 1), (2, 1)]) (pv := []) Try.type33 Try.underlying33 rfl (mp_cons Try.type3 (mp_cons Try.type3 (mp_cons Try.type3 mp_nil rfl rfl) rfl rfl) rfl rfl) rfl (by simp [Instr.fill, Value.cells])) ?_
        refine lex.op (hC.alloc (cs := [.int .i64 0, .slice none 0 0]) Try.zeroValue32 rfl) ?_
        rintro _ w41 ⟨g40, rfl, hC, hF, hG⟩
        clear hG
        refine lex.op (hC.alloc (cs := [.int .i64 0, .int .i64 0, .int .i64 0]) Try.zeroValue33 rfl) ?_
        rintro _ w44 ⟨g43, rfl, hC, hF, hG⟩
        clear hG
        refine lex.sk (hC.seta (i := 1) (ds := [.int .i64 b_0_0, .slice none 0 0]) rfl Try.type32 rfl rfl rfl rfl rfl) ?_
        rintro w46 ⟨hC, hF⟩
        refine lex.sk (hC.seta (i := 0) (ds := [.int .i64 0, .int .i64 0, .int .i64 0]) rfl Try.type33 rfl rfl rfl rfl rfl) ?_
        rintro w47 ⟨hC, hF⟩
        refine lex.nil ?_
        refine hK39 _ _ ?_
        refine Wc.seqJ (fun E wv => ∃ (v11_2 : Bool) (v12_2 : Bool) (bf42_0_2 : Int) (kf42_1_2 : List Int) (bf45_0_2 : Int) (bf45_1_2 : Int) (bf45_2_2 : Int) (Akf42_1_2 : Option Addr) (mkf42_1_2 ckf42_1_2 : Nat), E 4 = .pointer (some ⟨g9, 0, none⟩) ∧ E 5 = .pointer (some ⟨g12, 0, none⟩) ∧ E 6 = .int .i64 0 ∧ E 11 = .bool v11_2 ∧ E 12 = .bool v12_2 ∧ E 13 = .pointer (some ⟨g40, 0, none⟩) ∧ E 14 = .pointer (some ⟨g43, 0, none⟩) ∧ I64 bf42_0_2 ∧ I64 bf45_0_2 ∧ I64 bf45_1_2 ∧ I64 bf45_2_2 ∧ Cx (fun _ => False) O0 w wv [.box g9 32 [.int .i64 0, .slice none 0 0], .box g12 33 [.int .i64 0, .int .i64 0, .int .i64 0], .box g40 32 [.int .i64 bf42_0_2, .slice Akf42_1_2 mkf42_1_2 ckf42_1_2], .ro (.sl (.int .i64)) [.slice Akf42_1_2 mkf42_1_2 ckf42_1_2] kf42_1_2, .box g43 33 [.int .i64 bf45_0_2, .int .i64 bf45_1_2, .int .i64 bf45_2_2]] ∧ F.ref36_Apply_j2 n v11_2 v12_2 bf42_0_2 kf42_1_2 bf45_0_2 bf45_1_2 bf45_2_2 = some r) (fun K48 hK48 => ?_) ?_
        ·
          skip
          refine Wc.seq fun K49 hK49 => ?_
          refine Wc.region (by decide +kernel) ?_
          refine lex.pure (v := .pointer (some ((⟨g6, 0, none⟩ : Addr).add 0))) (pu_field (sz := 1) Try.underlying33 rfl Try.sizeOf3 (by decide) rfl e3) ?_
          refine lex.val (v := .int .i64 s_1_0) (ld_fld (hC.bx (i := 4) rfl) Try.isAgg3 rfl rfl) ?_
          refine lex.nil ?_
          refine hK49 _ _ ?_
          refine Wc.fresh fun E50 hE => ?_
          have e2 : E50 2 = .pointer (some ⟨g3, 0, none⟩) := (congrFun hE 2).trans e2
          have e3 : E50 3 = .pointer (some ⟨g6, 0, none⟩) := (congrFun hE 3).trans e3
          have e4 : E50 4 = .pointer (some ⟨g9, 0, none⟩) := (congrFun hE 4).trans e4
          have e5 : E50 5 = .pointer (some ⟨g12, 0, none⟩) := (congrFun hE 5).trans e5
          have e6 : E50 6 = .int .i64 0 := (congrFun hE 6).trans e6
          have e7 : E50 7 = .slice Ab_0_1 b_0_1.length cb_0_1 := (congrFun hE 7).trans e7
          have e8 : E50 8 = .int .i64 (b_0_1.length : Int) := (congrFun hE 8).trans e8
          have e9 : E50 9 = .bool v9_0 := (congrFun hE 9).trans e9
          have e10 : E50 10 = .bool v10_1 := (congrFun hE 10).trans e10
          have e11 : E50 11 = .bool false := (congrFun hE 11).trans rfl
          have e12 : E50 12 = .bool true := (congrFun hE 12).trans rfl
          have e13 : E50 13 = .pointer (some ⟨g40, 0, none⟩) := (congrFun hE 13).trans rfl
          have e14 : E50 14 = .pointer (some ⟨g43, 0, none⟩) := (congrFun hE 14).trans rfl
          have e65 : E50 65 = .int .i64 s_1_0 := (congrFun hE 65).trans rfl
          clear hE
          refine Wc.block ?_
          refine Wc.seq fun K51 hK51 => ?_
          refine Wc.region (by decide +kernel) ?_
          refine lex.pure (v := .bool (decide (s_1_0 = 1))) (pu_eql (k := .i64) (a := s_1_0) (b := 1) e65 rfl) ?_
          refine lex.pure (v := .bool (decide (s_1_0 = 1))) (pu_assign rfl) ?_
          refine lex.nil ?_
          refine hK51 _ _ ?_
          refine Wc.cond (t := (decide (s_1_0 = 1))) (rfl) (fun hq52 => ?_) (fun hq52 => ?_)
          · replace hb := (cT hq52).symm.trans hb
            refine Wc.seqJ (fun E wv => ∃ (v11_3 : Bool), E 3 = .pointer (some ⟨g6, 0, none⟩) ∧ E 4 = .pointer (some ⟨g9, 0, none⟩) ∧ E 5 = .pointer (some ⟨g12, 0, none⟩) ∧ E 6 = .int .i64 0 ∧ E 7 = .slice Ab_0_1 b_0_1.length cb_0_1 ∧ E 8 = .int .i64 (b_0_1.length : Int) ∧ E 11 = .bool v11_3 ∧ E 12 = .bool true ∧ E 13 = .pointer (some ⟨g40, 0, none⟩) ∧ E 14 = .pointer (some ⟨g43, 0, none⟩) ∧ Cx (fun _ => False) O0 w wv [.box g6 33 [.int .i64 s_1_0, .int .i64 s_1_1, .int .i64 s_1_2], .box g9 32 [.int .i64 0, .slice none 0 0], .box g12 33 [.int .i64 0, .int .i64 0, .int .i64 0], .ro (.sl (.int .i64)) [.slice Ab_0_1 b_0_1.length cb_0_1] b_0_1, .box g40 32 [.int .i64 b_0_0, .slice none 0 0], .box g43 33 [.int .i64 0, .int .i64 0, .int .i64 0]] ∧ F.ref36_Apply_j3 n b_0_0 b_0_1 s_1_1 s_1_2 v11_3 = some r) (fun K53 hK53 => ?_) ?_
            ·
              skip
              refine Wc.region (by decide +kernel) ?_
              refine lex.pure (v := .bool v9_0) (pu_move e9) ?_
              refine lex.pure (v := .bool v9_0) (pu_move rfl) ?_
              rcases bS v9_0 with hq54 | hq54
              · replace hb := (cT hq54).symm.trans hb
                refine lex.gpure (want_t rfl rfl (show _ = Value.bool v9_0 from rfl) hq54) (v := .pointer (some ((⟨g6, 0, none⟩ : Addr).add 2))) (pu_field (sz := 1) Try.underlying33 rfl Try.sizeOf3 (by decide) rfl e3) ?_
                refine lex.gval (want_t rfl rfl (show _ = Value.bool v9_0 from rfl) hq54) (v := .int .i64 s_1_2) (ld_fld (hC.bx (i := 4) rfl) Try.isAgg3 rfl rfl) ?_
                refine lex.gpure (want_t rfl rfl (show _ = Value.bool v9_0 from rfl) hq54) (v := .bool (decide (s_1_2 = 0))) (pu_eql (k := .i64) (a := s_1_2) (b := 0) rfl rfl) ?_
                refine lex.gpure (want_t rfl rfl (show _ = Value.bool v9_0 from rfl) hq54) (v := .bool (decide (s_1_2 = 0))) (pu_move rfl) ?_
                rcases bS (decide (s_1_2 = 0)) with hq55 | hq55
                · replace hb := (cT hq55).symm.trans hb
                  refine lex.gskip (want_f rfl rfl (show _ = Value.bool (decide (s_1_2 = 0)) from rfl) hq55) ?_
                  refine lex.gskip (want_f rfl rfl (show _ = Value.bool (decide (s_1_2 = 0)) from rfl) hq55) ?_
                  refine lex.gskip (want_f rfl rfl (show _ = Value.bool (decide (s_1_2 = 0)) from rfl) hq55) ?_
                  refine lex.gpure (want_t rfl rfl (show _ = Value.bool v9_0 from rfl) hq54) (v := .bool true) (pu_pickT (q := (decide (s_1_2 = 0))) rfl hq55 rfl) ?_
                  refine lex.pure (v := .bool true) (pu_pickT (q := v9_0) rfl hq54 rfl) ?_
                  refine lex.pure (v := .bool true) (pu_assign rfl) ?_
                  refine lex.nil ?_
                  exact hK53 _ _ ⟨true, e3, e4, e5, e6, e7, e8, rfl, e12, e13, e14, hC.sel [4, 5, 6, 3, 1, 0] (by decide), hb⟩
                · replace hb := (cF hq55).symm.trans hb
                  refine lex.gpure (want_t rfl rfl (show _ = Value.bool (decide (s_1_2 = 0)) from rfl) hq55) (v := .pointer (some ((⟨g6, 0, none⟩ : Addr).add 2))) (pu_field (sz := 1) Try.underlying33 rfl Try.sizeOf3 (by decide) rfl e3) ?_
                  refine lex.gval (want_t rfl rfl (show _ = Value.bool (decide (s_1_2 = 0)) from rfl) hq55) (v := .int .i64 s_1_2) (ld_fld (hC.bx (i := 4) rfl) Try.isAgg3 rfl rfl) ?_
                  refine lex.gpure (want_t rfl rfl (show _ = Value.bool (decide (s_1_2 = 0)) from rfl) hq55) (v := .bool (decide (s_1_2 = 1))) (pu_eql (k := .i64) (a := s_1_2) (b := 1) rfl rfl) ?_
                  refine lex.gpure (want_t rfl rfl (show _ = Value.bool v9_0 from rfl) hq54) (v := .bool (decide (s_1_2 = 1))) (pu_pickF (q := (decide (s_1_2 = 0))) rfl hq55 rfl) ?_
                  refine lex.pure (v := .bool (decide (s_1_2 = 1))) (pu_pickT (q := v9_0) rfl hq54 rfl) ?_
                  refine lex.pure (v := .bool (decide (s_1_2 = 1))) (pu_assign rfl) ?_
                  refine lex.nil ?_
                  exact hK53 _ _ ⟨(decide (s_1_2 = 1)), e3, e4, e5, e6, e7, e8, rfl, e12, e13, e14, hC.sel [4, 5, 6, 3, 1, 0] (by decide), hb⟩
              · replace hb := (cF hq54).symm.trans hb
                refine lex.gskip (want_f rfl rfl (show _ = Value.bool v9_0 from rfl) hq54) ?_
                refine lex.gskip (want_f rfl rfl (show _ = Value.bool v9_0 from rfl) hq54) ?_
                refine lex.gskip (want_f rfl rfl (show _ = Value.bool v9_0 from rfl) hq54) ?_
                refine lex.gskip (want_f rfl rfl (show _ = Value.bool v9_0 from rfl) hq54) ?_
                refine lex.gskip (want_n rfl rfl rfl) ?_
                refine lex.gskip (want_n rfl rfl rfl) ?_
                refine lex.gskip (want_n rfl rfl rfl) ?_
                refine lex.gskip (want_f rfl rfl (show _ = Value.bool v9_0 from rfl) hq54) ?_
                refine lex.pure (v := .bool false) (pu_pickF (q := v9_0) rfl hq54 rfl) ?_
                refine lex.pure (v := .bool false) (pu_assign rfl) ?_
                refine lex.nil ?_
                exact hK53 _ _ ⟨false, e3, e4, e5, e6, e7, e8, rfl, e12, e13, e14, hC.sel [4, 5, 6, 3, 1, 0] (by decide), hb⟩
            · clear hb hC
              rintro E57 w56 ⟨v11_3, e3, e4, e5, e6, e7, e8, e11, e12, e13, e14, hC, hb⟩
              unfold F.ref36_Apply_j3 at hb
              refine Wc.seqJ (fun E wv => ∃ (v12_4 : Bool) (kf42_1_4 : List Int) (Akf42_1_4 : Option Addr) (mkf42_1_4 ckf42_1_4 : Nat), E 3 = .pointer (some ⟨g6, 0, none⟩) ∧ E 4 = .pointer (some ⟨g9, 0, none⟩) ∧ E 5 = .pointer (some ⟨g12, 0, none⟩) ∧ E 6 = .int .i64 0 ∧ E 11 = .bool v11_3 ∧ E 12 = .bool v12_4 ∧ E 13 = .pointer (some ⟨g40, 0, none⟩) ∧ E 14 = .pointer (some ⟨g43, 0, none⟩) ∧ Cx (fun _ => False) O0 w wv [.box g6 33 [.int .i64 s_1_0, .int .i64 s_1_1, .int .i64 s_1_2], .box g9 32 [.int .i64 0, .slice none 0 0], .box g12 33 [.int .i64 0, .int .i64 0, .int .i64 0], .box g40 32 [.int .i64 b_0_0, .slice Akf42_1_4 mkf42_1_4 ckf42_1_4], .ro (.sl (.int .i64)) [.slice Akf42_1_4 mkf42_1_4 ckf42_1_4] kf42_1_4, .box g43 33 [.int .i64 0, .int .i64 0, .int .i64 0]] ∧ F.ref36_Apply_j4 n b_0_0 s_1_1 s_1_2 v11_3 v12_4 kf42_1_4 = some r) (fun K58 hK58 => ?_) ?_
              ·
                skip
                refine Wc.seqJ (fun E wv => ∃ (v86_5 : Bool), E 3 = .pointer (some ⟨g6, 0, none⟩) ∧ E 4 = .pointer (some ⟨g9, 0, none⟩) ∧ E 5 = .pointer (some ⟨g12, 0, none⟩) ∧ E 6 = .int .i64 0 ∧ E 7 = .slice Ab_0_1 b_0_1.length cb_0_1 ∧ E 8 = .int .i64 (b_0_1.length : Int) ∧ E 11 = .bool v11_3 ∧ E 12 = .bool true ∧ E 13 = .pointer (some ⟨g40, 0, none⟩) ∧ E 14 = .pointer (some ⟨g43, 0, none⟩) ∧ E 86 = .bool v86_5 ∧ Cx (fun _ => False) O0 w wv [.box g6 33 [.int .i64 s_1_0, .int .i64 s_1_1, .int .i64 s_1_2], .box g9 32 [.int .i64 0, .slice none 0 0], .box g12 33 [.int .i64 0, .int .i64 0, .int .i64 0], .ro (.sl (.int .i64)) [.slice Ab_0_1 b_0_1.length cb_0_1] b_0_1, .box g40 32 [.int .i64 b_0_0, .slice none 0 0], .box g43 33 [.int .i64 0, .int .i64 0, .int .i64 0]] ∧ F.ref36_Apply_j5 n b_0_0 b_0_1 s_1_1 s_1_2 v11_3 v86_5 = some r) (fun K59 hK59 => ?_) ?_
                ·
                  skip
                  refine Wc.region (by decide +kernel) ?_
                  refine lex.pure (v := .bool v11_3) (pu_move e11) ?_
                  refine lex.pure (v := .bool v11_3) (pu_move rfl) ?_
                  rcases bS v11_3 with hq60 | hq60
                  · replace hb := (cT hq60).symm.trans hb
                    refine lex.gpure (want_t rfl rfl (show _ = Value.bool v11_3 from rfl) hq60) (v := .pointer (some ((⟨g6, 0, none⟩ : Addr).add 2))) (pu_field (sz := 1) Try.underlying33 rfl Try.sizeOf3 (by decide) rfl e3) ?_
                    refine lex.gval (want_t rfl rfl (show _ = Value.bool v11_3 from rfl) hq60) (v := .int .i64 s_1_2) (ld_fld (hC.bx (i := 0) rfl) Try.isAgg3 rfl rfl) ?_
                    refine lex.gpure (want_t rfl rfl (show _ = Value.bool v11_3 from rfl) hq60) (v := .bool (decide (s_1_2 = 0))) (pu_eql (k := .i64) (a := s_1_2) (b := 0) rfl rfl) ?_
                    refine lex.pure (v := .bool (decide (s_1_2 = 0))) (pu_pickT (q := v11_3) rfl hq60 rfl) ?_
                    refine lex.nil ?_
                    exact hK59 _ _ ⟨(decide (s_1_2 = 0)), e3, e4, e5, e6, e7, e8, e11, e12, e13, e14, rfl, hC.sel [0, 1, 2, 3, 4, 5] (by decide), hb⟩
                  · replace hb := (cF hq60).symm.trans hb
                    refine lex.gskip (want_f rfl rfl (show _ = Value.bool v11_3 from rfl) hq60) ?_
                    refine lex.gskip (want_f rfl rfl (show _ = Value.bool v11_3 from rfl) hq60) ?_
                    refine lex.gskip (want_f rfl rfl (show _ = Value.bool v11_3 from rfl) hq60) ?_
                    refine lex.pure (v := .bool false) (pu_pickF (q := v11_3) rfl hq60 rfl) ?_
                    refine lex.nil ?_
                    exact hK59 _ _ ⟨false, e3, e4, e5, e6, e7, e8, e11, e12, e13, e14, rfl, hC.sel [0, 1, 2, 3, 4, 5] (by decide), hb⟩
                · clear hb hC
                  rintro E62 w61 ⟨v86_5, e3, e4, e5, e6, e7, e8, e11, e12, e13, e14, e86, hC, hb⟩
                  unfold F.ref36_Apply_j5 at hb
                  refine Wc.cond (t := v86_5) (e86) (fun hq63 => ?_) (fun hq63 => ?_)
                  · replace hb := (cT hq63).symm.trans hb
                    refine Wc.regionPlan [88, 93] (frm [88, 93] ([] : List Fact) [.box g40 32 [.int .i64 b_0_0, .slice none 0 0]]) (chainP [0, 1, 3, 5, 6, 7] (.alt (chainP [2] (.alt (chainP [4] (chainP [8, 9, 10, 11] .done)) (chainP [8] (chainP [4, 9, 10, 11] .done)))) (chainP [8] (chainP [2, 4, 9, 10, 11] .done)))) (fun _ => rfl) mixed (by decide +kernel) (by decide +kernel) fun w65 hw64 => ?_
                    replace hC := hC.step (Fr.of_drew hw64)
                    have hM := Fr.refl (fun k => k ∈ blocks ([] : List Fact)) w65
                    clear hw64
                    have hS := hC
                    have hD : Fr (fun k => k ∈ blocks (([] : List Fact) ++ [.box g40 32 [.int .i64 b_0_0, .slice none 0 0]])) w65 w65 := hM.wide
                    have hUf42 : g40 < w65.heap.size → g40 ∈ blocks (([] : List Fact) ++ [.box g40 32 [.int .i64 b_0_0, .slice none 0 0]]) := fun _ => box_in (i := 0) rfl
                    refine mixPE_chain ?_
                    refine mixE.pure (v := .pointer (some ((⟨g6, 0, none⟩ : Addr).add 1))) (pu_field (sz := 1) Try.underlying33 rfl Try.sizeOf3 (by decide) rfl e3) ?_
                    refine mixE.steady hD (v := .int .i64 s_1_1) (fun _ hF => ld_fld (hS.bx2 (i := 0) rfl [4] (by decide) hF) Try.isAgg3 rfl rfl) ?_
                    refine mixE.pure (v := .slice Ab_0_1 b_0_1.length cb_0_1) (pu_move e7) ?_
                    refine mixE.pure (v := .pointer (some ((⟨g6, 0, none⟩ : Addr).add 1))) (pu_field (sz := 1) Try.underlying33 rfl Try.sizeOf3 (by decide) rfl e3) ?_
                    refine mixE.steady hD (v := .int .i64 s_1_1) (fun _ hF => ld_fld (hS.bx2 (i := 0) rfl [4] (by decide) hF) Try.isAgg3 rfl rfl) ?_
                    refine mixE.pure (v := .int .i64 (wr (-s_1_1))) (pu_negw (a := s_1_1) rfl) ?_
                    refine mixE.nil ?_
                    refine mixPE_alt ?_ ?_
                    ·
                      skip
                      refine mixPE_chain ?_
                      refine mixE.op hM (hC.lit (s := (.int .i64)) (vs := [.int .i64 s_1_1]) (xs := [s_1_1]) Try.underlying22 Try.type3 rfl rfl (Nat.le_of_ble_eq_true rfl) rfl rfl (by simp [Value.cells, Sh.n]) rfl (show Elems _ _ (.int .i64) ([.int .i64 s_1_1] ++ ([])) ([s_1_1] : List Int) from Elems.cons (⟨rfl, I64.wr hs_1_1⟩) (Elems.nil _ _ _))) ?_
                      rintro _ w70 ⟨A66, c67, rfl, hl68, hc69, hC, hF, hN⟩
                      have hBf71 := Beside.new hM hN
                      have hUf71 := Beside.new (hM.wide (H := [.box g40 32 [.int .i64 b_0_0, .slice none 0 0]])) hN
                      replace hM := hM.none hF
                      replace hD := hM.wide (H := [.box g40 32 [.int .i64 b_0_0, .slice none 0 0]])
                      refine ⟨hM, ?_⟩
                      clear hF hN
                      refine mixE.nil ?_
                      refine mixPE_alt ?_ ?_
                      ·
                        skip
                        refine mixPE_chain ?_
                        obtain ⟨u72, h73, hb⟩ := bd hb
                        refine mixE.op hM (hC.app (i := 0) (s := (.int .i64)) (xs := ([s_1_1] : List Int)) (ys := b_0_1) (m := b_0_1.length) rfl Try.underlying22 Try.underlying22 Try.type3 rfl rfl rfl (hC.srcr (i := 4) rfl) rfl rfl (by have := lim_some h73; simp at this ⊢; omega) (by decide)) ?_
                        rintro _ w78 ⟨A74, c75, rfl, hl76, hc77, hC, hF, hN⟩
                        have hB := hBf71
                        replace hBf71 := hB.app hM hN
                        replace hM := hM.beside hB hF
                        clear hB
                        replace hD := hM.wide (H := [.box g40 32 [.int .i64 b_0_0, .slice none 0 0]])
                        refine ⟨hM, ?_⟩
                        clear hF hN
                        refine mixE.nil ?_
                        refine mixPE_chain ?_
                        refine mixE.op hM (hC.lit (s := (.int .i64)) (vs := [.int .i64 (wr (-s_1_1))]) (xs := [(wr (-s_1_1))]) Try.underlying22 Try.type3 rfl rfl (Nat.le_of_ble_eq_true rfl) rfl rfl (by simp [Value.cells, Sh.n]) rfl (show Elems _ _ (.int .i64) ([.int .i64 (wr (-s_1_1))] ++ ([])) ([(wr (-s_1_1))] : List Int) from Elems.cons (⟨rfl, I64.wr (I64_wr _)⟩) (Elems.nil _ _ _))) ?_
                        rintro _ w83 ⟨A79, c80, rfl, hl81, hc82, hC, hF, hN⟩
                        have hBf84 := Beside.new hM hN
                        have hUf84 := Beside.new (hM.wide (H := [.box g40 32 [.int .i64 b_0_0, .slice none 0 0]])) hN
                        replace hM := hM.none hF
                        replace hD := hM.wide (H := [.box g40 32 [.int .i64 b_0_0, .slice none 0 0]])
                        refine ⟨hM, ?_⟩
                        clear hF hN
                        obtain ⟨u85, h86, hb⟩ := bd hb
                        refine mixE.op hM (hC.app (i := 1) (s := (.int .i64)) (xs := (([s_1_1] : List Int) ++ b_0_1)) (ys := ([(wr (-s_1_1))] : List Int)) (m := ((([(wr (-s_1_1))] : List Int)).length)) rfl Try.underlying22 Try.underlying22 Try.type3 rfl rfl rfl (hC.srco (i := 0) rfl) rfl rfl (by have := lim_some h86; simp at this ⊢; omega) (by decide)) ?_
                        rintro _ w91 ⟨A87, c88, rfl, hl89, hc90, hC, hF, hN⟩
                        have hB := hBf71
                        replace hBf71 := hB.app hM hN
                        replace hM := hM.beside hB hF
                        clear hB
                        replace hD := hM.wide (H := [.box g40 32 [.int .i64 b_0_0, .slice none 0 0]])
                        refine ⟨hM, ?_⟩
                        clear hF hN
                        refine mixE.pure (v := .pointer (some ((⟨g40, 0, none⟩ : Addr).add 1))) (pu_field (sz := 1) Try.underlying32 rfl Try.sizeOf22 (by decide) rfl e13) ?_
                        refine mixE.sk hD (hC.setf (i := 6) (k := 1) (v := .slice A87 (((([s_1_1] : List Int) ++ b_0_1) ++ ([(wr (-s_1_1))] : List Int)).length) c88) rfl Try.sizeOf22 rfl rfl rfl rfl) ?_
                        rintro w92 ⟨hC, hF⟩
                        replace hD := hD.besideG hUf42 hF
                        clear hF
                        refine ⟨hD, ?_⟩
                        refine mixE.nil ?_
                        clear hS hM
                        clear hD
                        replace hC := hC.freeze (i := 1) rfl (hC.own_new (i := 1) rfl)
                        exact hK58 _ _ ⟨true, ((([s_1_1] : List Int) ++ b_0_1) ++ ([(wr (-s_1_1))] : List Int)), A87, ((([s_1_1] : List Int) ++ b_0_1) ++ ([(wr (-s_1_1))] : List Int)).length, c88, e3, e4, e5, e6, e11, e12, e13, e14, hC.sel [2, 3, 4, 6, 1, 7] (by decide), hb⟩
                      ·
                        skip
                        refine mixPE_chain ?_
                        refine mixE.op hM (hC.lit (s := (.int .i64)) (vs := [.int .i64 (wr (-s_1_1))]) (xs := [(wr (-s_1_1))]) Try.underlying22 Try.type3 rfl rfl (Nat.le_of_ble_eq_true rfl) rfl rfl (by simp [Value.cells, Sh.n]) rfl (show Elems _ _ (.int .i64) ([.int .i64 (wr (-s_1_1))] ++ ([])) ([(wr (-s_1_1))] : List Int) from Elems.cons (⟨rfl, I64.wr (I64_wr _)⟩) (Elems.nil _ _ _))) ?_
                        rintro _ w97 ⟨A93, c94, rfl, hl95, hc96, hC, hF, hN⟩
                        have hBf98 := Beside.new hM hN
                        have hUf98 := Beside.new (hM.wide (H := [.box g40 32 [.int .i64 b_0_0, .slice none 0 0]])) hN
                        replace hM := hM.none hF
                        replace hD := hM.wide (H := [.box g40 32 [.int .i64 b_0_0, .slice none 0 0]])
                        refine ⟨hM, ?_⟩
                        clear hF hN
                        refine mixE.nil ?_
                        refine mixPE_chain ?_
                        obtain ⟨u99, h100, hb⟩ := bd hb
                        refine mixE.op hM (hC.app (i := 1) (s := (.int .i64)) (xs := ([s_1_1] : List Int)) (ys := b_0_1) (m := b_0_1.length) rfl Try.underlying22 Try.underlying22 Try.type3 rfl rfl rfl (hC.srcr (i := 5) rfl) rfl rfl (by have := lim_some h100; simp at this ⊢; omega) (by decide)) ?_
                        rintro _ w105 ⟨A101, c102, rfl, hl103, hc104, hC, hF, hN⟩
                        have hB := hBf71
                        replace hBf71 := hB.app hM hN
                        replace hM := hM.beside hB hF
                        clear hB
                        replace hD := hM.wide (H := [.box g40 32 [.int .i64 b_0_0, .slice none 0 0]])
                        refine ⟨hM, ?_⟩
                        clear hF hN
                        obtain ⟨u106, h107, hb⟩ := bd hb
                        refine mixE.op hM (hC.app (i := 1) (s := (.int .i64)) (xs := (([s_1_1] : List Int) ++ b_0_1)) (ys := ([(wr (-s_1_1))] : List Int)) (m := ((([(wr (-s_1_1))] : List Int)).length)) rfl Try.underlying22 Try.underlying22 Try.type3 rfl rfl rfl (hC.srco (i := 0) rfl) rfl rfl (by have := lim_some h107; simp at this ⊢; omega) (by decide)) ?_
                        rintro _ w112 ⟨A108, c109, rfl, hl110, hc111, hC, hF, hN⟩
                        have hB := hBf71
                        replace hBf71 := hB.app hM hN
                        replace hM := hM.beside hB hF
                        clear hB
                        replace hD := hM.wide (H := [.box g40 32 [.int .i64 b_0_0, .slice none 0 0]])
                        refine ⟨hM, ?_⟩
                        clear hF hN
                        refine mixE.pure (v := .pointer (some ((⟨g40, 0, none⟩ : Addr).add 1))) (pu_field (sz := 1) Try.underlying32 rfl Try.sizeOf22 (by decide) rfl e13) ?_
                        refine mixE.sk hD (hC.setf (i := 6) (k := 1) (v := .slice A108 (((([s_1_1] : List Int) ++ b_0_1) ++ ([(wr (-s_1_1))] : List Int)).length) c109) rfl Try.sizeOf22 rfl rfl rfl rfl) ?_
                        rintro w113 ⟨hC, hF⟩
                        replace hD := hD.besideG hUf42 hF
                        clear hF
                        refine ⟨hD, ?_⟩
                        refine mixE.nil ?_
                        clear hS hM
                        clear hD
                        replace hC := hC.freeze (i := 1) rfl (hC.own_new (i := 1) rfl)
                        exact hK58 _ _ ⟨true, ((([s_1_1] : List Int) ++ b_0_1) ++ ([(wr (-s_1_1))] : List Int)), A108, ((([s_1_1] : List Int) ++ b_0_1) ++ ([(wr (-s_1_1))] : List Int)).length, c109, e3, e4, e5, e6, e11, e12, e13, e14, hC.sel [2, 3, 4, 6, 1, 7] (by decide), hb⟩
                    ·
                      skip
                      refine mixPE_chain ?_
                      refine mixE.op hM (hC.lit (s := (.int .i64)) (vs := [.int .i64 (wr (-s_1_1))]) (xs := [(wr (-s_1_1))]) Try.underlying22 Try.type3 rfl rfl (Nat.le_of_ble_eq_true rfl) rfl rfl (by simp [Value.cells, Sh.n]) rfl (show Elems _ _ (.int .i64) ([.int .i64 (wr (-s_1_1))] ++ ([])) ([(wr (-s_1_1))] : List Int) from Elems.cons (⟨rfl, I64.wr (I64_wr _)⟩) (Elems.nil _ _ _))) ?_
                      rintro _ w118 ⟨A114, c115, rfl, hl116, hc117, hC, hF, hN⟩
                      have hBf119 := Beside.new hM hN
                      have hUf119 := Beside.new (hM.wide (H := [.box g40 32 [.int .i64 b_0_0, .slice none 0 0]])) hN
                      replace hM := hM.none hF
                      replace hD := hM.wide (H := [.box g40 32 [.int .i64 b_0_0, .slice none 0 0]])
                      refine ⟨hM, ?_⟩
                      clear hF hN
                      refine mixE.nil ?_
                      refine mixPE_chain ?_
                      refine mixE.op hM (hC.lit (s := (.int .i64)) (vs := [.int .i64 s_1_1]) (xs := [s_1_1]) Try.underlying22 Try.type3 rfl rfl (Nat.le_of_ble_eq_true rfl) rfl rfl (by simp [Value.cells, Sh.n]) rfl (show Elems _ _ (.int .i64) ([.int .i64 s_1_1] ++ ([])) ([s_1_1] : List Int) from Elems.cons (⟨rfl, I64.wr hs_1_1⟩) (Elems.nil _ _ _))) ?_
                      rintro _ w124 ⟨A120, c121, rfl, hl122, hc123, hC, hF, hN⟩
                      have hBf125 := Beside.new hM hN
                      have hUf125 := Beside.new (hM.wide (H := [.box g40 32 [.int .i64 b_0_0, .slice none 0 0]])) hN
                      replace hM := hM.none hF
                      replace hD := hM.wide (H := [.box g40 32 [.int .i64 b_0_0, .slice none 0 0]])
                      refine ⟨hM, ?_⟩
                      clear hF hN
                      obtain ⟨u126, h127, hb⟩ := bd hb
                      refine mixE.op hM (hC.app (i := 0) (s := (.int .i64)) (xs := ([s_1_1] : List Int)) (ys := b_0_1) (m := b_0_1.length) rfl Try.underlying22 Try.underlying22 Try.type3 rfl rfl rfl (hC.srcr (i := 5) rfl) rfl rfl (by have := lim_some h127; simp at this ⊢; omega) (by decide)) ?_
                      rintro _ w132 ⟨A128, c129, rfl, hl130, hc131, hC, hF, hN⟩
                      have hB := hBf125
                      replace hBf125 := hB.app hM hN
                      replace hM := hM.beside hB hF
                      clear hB
                      replace hD := hM.wide (H := [.box g40 32 [.int .i64 b_0_0, .slice none 0 0]])
                      refine ⟨hM, ?_⟩
                      clear hF hN
                      obtain ⟨u133, h134, hb⟩ := bd hb
                      refine mixE.op hM (hC.app (i := 0) (s := (.int .i64)) (xs := (([s_1_1] : List Int) ++ b_0_1)) (ys := ([(wr (-s_1_1))] : List Int)) (m := ((([(wr (-s_1_1))] : List Int)).length)) rfl Try.underlying22 Try.underlying22 Try.type3 rfl rfl rfl (hC.srco (i := 1) rfl) rfl rfl (by have := lim_some h134; simp at this ⊢; omega) (by decide)) ?_
                      rintro _ w139 ⟨A135, c136, rfl, hl137, hc138, hC, hF, hN⟩
                      have hB := hBf125
                      replace hBf125 := hB.app hM hN
                      replace hM := hM.beside hB hF
                      clear hB
                      replace hD := hM.wide (H := [.box g40 32 [.int .i64 b_0_0, .slice none 0 0]])
                      refine ⟨hM, ?_⟩
                      clear hF hN
                      refine mixE.pure (v := .pointer (some ((⟨g40, 0, none⟩ : Addr).add 1))) (pu_field (sz := 1) Try.underlying32 rfl Try.sizeOf22 (by decide) rfl e13) ?_
                      refine mixE.sk hD (hC.setf (i := 6) (k := 1) (v := .slice A135 (((([s_1_1] : List Int) ++ b_0_1) ++ ([(wr (-s_1_1))] : List Int)).length) c136) rfl Try.sizeOf22 rfl rfl rfl rfl) ?_
                      rintro w140 ⟨hC, hF⟩
                      replace hD := hD.besideG hUf42 hF
                      clear hF
                      refine ⟨hD, ?_⟩
                      refine mixE.nil ?_
                      clear hS hM
                      clear hD
                      replace hC := hC.freeze (i := 0) rfl (hC.own_new (i := 0) rfl)
                      exact hK58 _ _ ⟨true, ((([s_1_1] : List Int) ++ b_0_1) ++ ([(wr (-s_1_1))] : List Int)), A135, ((([s_1_1] : List Int) ++ b_0_1) ++ ([(wr (-s_1_1))] : List Int)).length, c136, e3, e4, e5, e6, e11, e12, e13, e14, hC.sel [2, 3, 4, 6, 0, 7] (by decide), hb⟩
                  · replace hb := (cF hq63).symm.trans hb
                    refine Wc.seq fun K141 hK141 => ?_
                    refine Wc.region (by decide +kernel) ?_
                    refine lex.pure (v := .bool v11_3) (pu_move e11) ?_
                    refine lex.nil ?_
                    refine hK141 _ _ ?_
                    refine Wc.cond (t := v11_3) (rfl) (fun hq142 => ?_) (fun hq142 => ?_)
                    · replace hb := (cT hq142).symm.trans hb
                      refine Wc.seqJ (fun E wv => ∃ (v12_6 : Bool), E 3 = .pointer (some ⟨g6, 0, none⟩) ∧ E 4 = .pointer (some ⟨g9, 0, none⟩) ∧ E 5 = .pointer (some ⟨g12, 0, none⟩) ∧ E 6 = .int .i64 0 ∧ E 7 = .slice Ab_0_1 b_0_1.length cb_0_1 ∧ E 8 = .int .i64 (b_0_1.length : Int) ∧ E 11 = .bool v11_3 ∧ E 12 = .bool v12_6 ∧ E 13 = .pointer (some ⟨g40, 0, none⟩) ∧ E 14 = .pointer (some ⟨g43, 0, none⟩) ∧ Cx (fun _ => False) O0 w wv [.box g6 33 [.int .i64 s_1_0, .int .i64 s_1_1, .int .i64 s_1_2], .box g9 32 [.int .i64 0, .slice none 0 0], .box g12 33 [.int .i64 0, .int .i64 0, .int .i64 0], .ro (.sl (.int .i64)) [.slice Ab_0_1 b_0_1.length cb_0_1] b_0_1, .box g40 32 [.int .i64 b_0_0, .slice none 0 0], .box g43 33 [.int .i64 0, .int .i64 0, .int .i64 0]] ∧ F.ref36_Apply_j6 n b_0_0 b_0_1 s_1_1 s_1_2 v11_3 v12_6 = some r) (fun K143 hK143 => ?_) ?_
                      ·
                        skip
                        refine Wc.regionMix [] (frm [] ([] : List Fact) ([] : List Fact)) (fun _ => rfl) mixed (by decide +kernel) (by decide +kernel) fun w145 hw144 => ?_
                        replace hC := hC.step (Fr.of_drew hw144)
                        have hM := Fr.refl (fun k => k ∈ blocks ([] : List Fact)) w145
                        clear hw144
                        have hS := hC
                        refine mixE.pure (v := .int .i64 (b_0_1.length : Int)) (pu_move e8) ?_
                        refine mixE.pure (v := .bool (decide (2 ≤ (b_0_1.length : Int)))) (pu_geq (k := .i64) (a := (b_0_1.length : Int)) (b := 2) rfl rfl) ?_
                        refine mixE.pure (v := .bool (decide (2 ≤ (b_0_1.length : Int)))) (pu_move rfl) ?_
                        rcases bS (decide (2 ≤ (b_0_1.length : Int))) with hq146 | hq146
                        · replace hb := (cT hq146).symm.trans hb
                          refine mixE.gpure rfl (want_t rfl rfl (show _ = Value.bool (decide (2 ≤ (b_0_1.length : Int))) from rfl) hq146) (v := .slice Ab_0_1 b_0_1.length cb_0_1) (pu_move e7) ?_
                          obtain ⟨x147, h148, hb⟩ := bd hb
                          obtain ⟨ad149, cs150, hA, ho153, hc151, hr152⟩ := hS.elr2 (i := 3) rfl (get_some h148).2 []
                          subst hA
                          refine mixE.gpure rfl (want_t rfl rfl (show _ = Value.bool (decide (2 ≤ (b_0_1.length : Int))) from rfl) hq146) (v := .pointer (some (ad149.add ((0 : Int).toNat * 1)))) (pu_index (a := 0) Try.underlying22 Try.sizeOf3 rfl rfl (get_some h148).1) ?_
                          obtain ⟨rfl, hr152'⟩ := hr152
                          refine mixE.gload rfl (want_t rfl rfl (show _ = Value.bool (decide (2 ≤ (b_0_1.length : Int))) from rfl) hq146) hM (v := .int .i64 x147) (fun _ hF => ld_one Try.isAgg3 rfl (hF.cell (hc151 0 _ rfl) (off1 ho153))) ?_
                          refine mixE.gpure rfl (want_t rfl rfl (show _ = Value.bool (decide (2 ≤ (b_0_1.length : Int))) from rfl) hq146) (v := .pointer (some ((⟨g6, 0, none⟩ : Addr).add 1))) (pu_field (sz := 1) Try.underlying33 rfl Try.sizeOf3 (by decide) rfl e3) ?_
                          refine mixE.gload rfl (want_t rfl rfl (show _ = Value.bool (decide (2 ≤ (b_0_1.length : Int))) from rfl) hq146) hM (v := .int .i64 s_1_1) (fun _ hF => ld_fld (hS.bx2 (i := 0) rfl [] (by decide) hF) Try.isAgg3 rfl rfl) ?_
                          refine mixE.gpure rfl (want_t rfl rfl (show _ = Value.bool (decide (2 ≤ (b_0_1.length : Int))) from rfl) hq146) (v := .int .i64 (wr (-s_1_1))) (pu_negw (a := s_1_1) rfl) ?_
                          refine mixE.gpure rfl (want_t rfl rfl (show _ = Value.bool (decide (2 ≤ (b_0_1.length : Int))) from rfl) hq146) (v := .bool (decide (x147 = (wr (-s_1_1))))) (pu_eql (k := .i64) (a := x147) (b := (wr (-s_1_1))) rfl rfl) ?_
                          refine mixE.pure (v := .bool (decide (x147 = (wr (-s_1_1))))) (pu_pickT (q := (decide (2 ≤ (b_0_1.length : Int)))) rfl hq146 rfl) ?_
                          refine mixE.pure (v := .bool (decide (x147 = (wr (-s_1_1))))) (pu_move rfl) ?_
                          rcases bS (decide (x147 = (wr (-s_1_1)))) with hq154 | hq154
                          · replace hb := (cT hq154).symm.trans hb
                            refine mixE.gpure rfl (want_t rfl rfl (show _ = Value.bool (decide (x147 = (wr (-s_1_1)))) from rfl) hq154) (v := .slice (some ad149) b_0_1.length cb_0_1) (pu_move e7) ?_
                            refine mixE.gpure rfl (want_t rfl rfl (show _ = Value.bool (decide (x147 = (wr (-s_1_1)))) from rfl) hq154) (v := .int .i64 (b_0_1.length : Int)) (pu_move e8) ?_
                            refine mixE.gpure rfl (want_t rfl rfl (show _ = Value.bool (decide (x147 = (wr (-s_1_1)))) from rfl) hq154) (v := .int .i64 (wr ((b_0_1.length : Int) - 1))) (pu_subw (a := (b_0_1.length : Int)) (b := 1) rfl rfl) ?_
                            obtain ⟨x155, h156, hb⟩ := bd hb
                            obtain ⟨ad157, cs158, hA, ho161, hc159, hr160⟩ := hS.elr2 (i := 3) rfl (get_some h156).2 []
                            obtain rfl := Option.some.inj hA
                            refine mixE.gpure rfl (want_t rfl rfl (show _ = Value.bool (decide (x147 = (wr (-s_1_1)))) from rfl) hq154) (v := .pointer (some (ad149.add ((wr ((b_0_1.length : Int) - 1)).toNat * 1)))) (pu_index (a := (wr ((b_0_1.length : Int) - 1))) Try.underlying22 Try.sizeOf3 rfl rfl (get_some h156).1) ?_
                            obtain ⟨rfl, hr160'⟩ := hr160
                            refine mixE.gload rfl (want_t rfl rfl (show _ = Value.bool (decide (x147 = (wr (-s_1_1)))) from rfl) hq154) hM (v := .int .i64 x155) (fun _ hF => ld_one Try.isAgg3 rfl (hF.cell (hc159 0 _ rfl) (off1 ho161))) ?_
                            refine mixE.gpure rfl (want_t rfl rfl (show _ = Value.bool (decide (x147 = (wr (-s_1_1)))) from rfl) hq154) (v := .pointer (some ((⟨g6, 0, none⟩ : Addr).add 1))) (pu_field (sz := 1) Try.underlying33 rfl Try.sizeOf3 (by decide) rfl e3) ?_
                            refine mixE.gload rfl (want_t rfl rfl (show _ = Value.bool (decide (x147 = (wr (-s_1_1)))) from rfl) hq154) hM (v := .int .i64 s_1_1) (fun _ hF => ld_fld (hS.bx2 (i := 0) rfl [] (by decide) hF) Try.isAgg3 rfl rfl) ?_
                            refine mixE.gpure rfl (want_t rfl rfl (show _ = Value.bool (decide (x147 = (wr (-s_1_1)))) from rfl) hq154) (v := .bool (decide (x155 = s_1_1))) (pu_eql (k := .i64) (a := x155) (b := s_1_1) rfl rfl) ?_
                            refine mixE.pure (v := .bool (decide (x155 = s_1_1))) (pu_pickT (q := (decide (x147 = (wr (-s_1_1))))) rfl hq154 rfl) ?_
                            refine mixE.pure (v := .bool (decide (x155 = s_1_1))) (pu_assign rfl) ?_
                            refine mixE.nil ?_
                            clear hS hM
                            exact hK143 _ _ ⟨(decide (x155 = s_1_1)), e3, e4, e5, e6, e7, e8, e11, rfl, e13, e14, hC.sel [0, 1, 2, 3, 4, 5] (by decide), hb⟩
                          · replace hb := (cF hq154).symm.trans hb
                            refine mixE.gskip (want_f rfl rfl (show _ = Value.bool (decide (x147 = (wr (-s_1_1)))) from rfl) hq154) ?_
                            refine mixE.gskip (want_f rfl rfl (show _ = Value.bool (decide (x147 = (wr (-s_1_1)))) from rfl) hq154) ?_
                            refine mixE.gskip (want_f rfl rfl (show _ = Value.bool (decide (x147 = (wr (-s_1_1)))) from rfl) hq154) ?_
                            refine mixE.gskip (want_f rfl rfl (show _ = Value.bool (decide (x147 = (wr (-s_1_1)))) from rfl) hq154) ?_
                            refine mixE.gskip (want_f rfl rfl (show _ = Value.bool (decide (x147 = (wr (-s_1_1)))) from rfl) hq154) ?_
                            refine mixE.gskip (want_f rfl rfl (show _ = Value.bool (decide (x147 = (wr (-s_1_1)))) from rfl) hq154) ?_
                            refine mixE.gskip (want_f rfl rfl (show _ = Value.bool (decide (x147 = (wr (-s_1_1)))) from rfl) hq154) ?_
                            refine mixE.gskip (want_f rfl rfl (show _ = Value.bool (decide (x147 = (wr (-s_1_1)))) from rfl) hq154) ?_
                            refine mixE.pure (v := .bool false) (pu_pickF (q := (decide (x147 = (wr (-s_1_1))))) rfl hq154 rfl) ?_
                            refine mixE.pure (v := .bool false) (pu_assign rfl) ?_
                            refine mixE.nil ?_
                            clear hS hM
                            exact hK143 _ _ ⟨false, e3, e4, e5, e6, e7, e8, e11, rfl, e13, e14, hC.sel [0, 1, 2, 3, 4, 5] (by decide), hb⟩
                        · replace hb := (cF hq146).symm.trans hb
                          refine mixE.gskip (want_f rfl rfl (show _ = Value.bool (decide (2 ≤ (b_0_1.length : Int))) from rfl) hq146) ?_
                          refine mixE.gskip (want_f rfl rfl (show _ = Value.bool (decide (2 ≤ (b_0_1.length : Int))) from rfl) hq146) ?_
                          refine mixE.gskip (want_f rfl rfl (show _ = Value.bool (decide (2 ≤ (b_0_1.length : Int))) from rfl) hq146) ?_
                          refine mixE.gskip (want_f rfl rfl (show _ = Value.bool (decide (2 ≤ (b_0_1.length : Int))) from rfl) hq146) ?_
                          refine mixE.gskip (want_f rfl rfl (show _ = Value.bool (decide (2 ≤ (b_0_1.length : Int))) from rfl) hq146) ?_
                          refine mixE.gskip (want_f rfl rfl (show _ = Value.bool (decide (2 ≤ (b_0_1.length : Int))) from rfl) hq146) ?_
                          refine mixE.gskip (want_f rfl rfl (show _ = Value.bool (decide (2 ≤ (b_0_1.length : Int))) from rfl) hq146) ?_
                          refine mixE.pure (v := .bool false) (pu_pickF (q := (decide (2 ≤ (b_0_1.length : Int)))) rfl hq146 rfl) ?_
                          refine mixE.pure (v := .bool false) (pu_move rfl) ?_
                          refine mixE.gskip (want_f rfl rfl (show _ = Value.bool false from rfl) rfl) ?_
                          refine mixE.gskip (want_f rfl rfl (show _ = Value.bool false from rfl) rfl) ?_
                          refine mixE.gskip (want_f rfl rfl (show _ = Value.bool false from rfl) rfl) ?_
                          refine mixE.gskip (want_f rfl rfl (show _ = Value.bool false from rfl) rfl) ?_
                          refine mixE.gskip (want_f rfl rfl (show _ = Value.bool false from rfl) rfl) ?_
                          refine mixE.gskip (want_f rfl rfl (show _ = Value.bool false from rfl) rfl) ?_
                          refine mixE.gskip (want_f rfl rfl (show _ = Value.bool false from rfl) rfl) ?_
                          refine mixE.gskip (want_f rfl rfl (show _ = Value.bool false from rfl) rfl) ?_
                          refine mixE.pure (v := .bool false) (pu_pickF (q := false) rfl rfl rfl) ?_
                          refine mixE.pure (v := .bool false) (pu_assign rfl) ?_
                          refine mixE.nil ?_
                          clear hS hM
                          exact hK143 _ _ ⟨false, e3, e4, e5, e6, e7, e8, e11, rfl, e13, e14, hC.sel [0, 1, 2, 3, 4, 5] (by decide), hb⟩
                      · clear hb hC
                        rintro E163 w162 ⟨v12_6, e3, e4, e5, e6, e7, e8, e11, e12, e13, e14, hC, hb⟩
                        unfold F.ref36_Apply_j6 at hb
                        refine Wc.seq fun K164 hK164 => ?_
                        refine Wc.region (by decide +kernel) ?_
                        refine lex.pure (v := .bool v12_6) (pu_move e12) ?_
                        refine lex.nil ?_
                        refine hK164 _ _ ?_
                        refine Wc.cond (t := v12_6) (rfl) (fun hq165 => ?_) (fun hq165 => ?_)
                        · replace hb := (cT hq165).symm.trans hb
                          refine Wc.region (by decide +kernel) ?_
                          refine lex.pure (v := .slice Ab_0_1 b_0_1.length cb_0_1) (pu_move e7) ?_
                          refine lex.pure (v := .int .i64 (b_0_1.length : Int)) (pu_move e8) ?_
                          refine lex.pure (v := .int .i64 (wr ((b_0_1.length : Int) - 1))) (pu_subw (a := (b_0_1.length : Int)) (b := 1) rfl rfl) ?_
                          obtain ⟨u166, h167, hb⟩ := bd hb
                          obtain ⟨A168, c169, hp172, hR173⟩ := pu_part_lh (a := 1) (b := (wr ((b_0_1.length : Int) - 1))) Try.underlying22 Try.sizeOf3 (hC.rd (i := 3) rfl) rfl (cut_some h167)
                          refine lex.pure (v := .slice A168 (((b_0_1.drop (1 : Int).toNat).take ((wr ((b_0_1.length : Int) - 1)).toNat - (1 : Int).toNat)).length) c169) (hp172 rfl rfl rfl) ?_
                          replace hC := hC.ro hR173
                          obtain ⟨-, hl170, hc171⟩ := (hC.rd (i := 0) rfl).sl_len
                          refine lex.pure (v := .pointer (some ((⟨g40, 0, none⟩ : Addr).add 1))) (pu_field (sz := 1) Try.underlying32 rfl Try.sizeOf22 (by decide) rfl e13) ?_
                          refine lex.sk (hC.setf (i := 5) (k := 1) (v := .slice A168 (((b_0_1.drop (1 : Int).toNat).take ((wr ((b_0_1.length : Int) - 1)).toNat - (1 : Int).toNat)).length) c169) rfl Try.sizeOf22 rfl rfl rfl rfl) ?_
                          rintro w175 ⟨hC, hF⟩
                          refine lex.nil ?_
                          exact hK58 _ _ ⟨v12_6, ((b_0_1.drop (1 : Int).toNat).take ((wr ((b_0_1.length : Int) - 1)).toNat - (1 : Int).toNat)), A168, ((b_0_1.drop (1 : Int).toNat).take ((wr ((b_0_1.length : Int) - 1)).toNat - (1 : Int).toNat)).length, c169, e3, e4, e5, e6, e11, e12, e13, e14, hC.sel [1, 2, 3, 5, 0, 6] (by decide), hb⟩
                        · replace hb := (cF hq165).symm.trans hb
                          refine Wc.skip ?_
                          replace hC := hC.ro (show Rep _ _ (.sl (.int .i64)) [.slice none 0 0] [] from ⟨none, 0, rfl, Nat.le_refl _, by omega, fun h => absurd h (by simp)⟩)
                          exact hK58 _ _ ⟨v12_6, ([] : List Int), none, 0, 0, e3, e4, e5, e6, e11, e12, e13, e14, hC.sel [1, 2, 3, 5, 0, 6] (by decide), hb⟩
                    · replace hb := (cF hq142).symm.trans hb
                      refine Wc.skip ?_
                      replace hC := hC.ro (show Rep _ _ (.sl (.int .i64)) [.slice none 0 0] [] from ⟨none, 0, rfl, Nat.le_refl _, by omega, fun h => absurd h (by simp)⟩)
                      exact hK58 _ _ ⟨true, ([] : List Int), none, 0, 0, e3, e4, e5, e6, e11, e12, e13, e14, hC.sel [1, 2, 3, 5, 0, 6] (by decide), hb⟩
              · clear hb hC
                rintro E179 w178 ⟨v12_4, kf42_1_4, Akf42_1_4, mkf42_1_4, ckf42_1_4, e3, e4, e5, e6, e11, e12, e13, e14, hC, hb⟩
                unfold F.ref36_Apply_j4 at hb
                obtain ⟨rfl, hlkf42_1_4, hckf42_1_4⟩ := (hC.rd (i := 4) rfl).sl_len
                refine Wc.region (by decide +kernel) ?_
                refine lex.pure (v := .pointer (some ((⟨g6, 0, none⟩ : Addr).add 1))) (pu_field (sz := 1) Try.underlying33 rfl Try.sizeOf3 (by decide) rfl e3) ?_
                refine lex.val (v := .int .i64 s_1_1) (ld_fld (hC.bx (i := 0) rfl) Try.isAgg3 rfl rfl) ?_
                refine lex.pure (v := .int .i64 (wr (-s_1_1))) (pu_negw (a := s_1_1) rfl) ?_
                refine lex.pure (v := .pointer (some ((⟨g6, 0, none⟩ : Addr).add 2))) (pu_field (sz := 1) Try.underlying33 rfl Try.sizeOf3 (by decide) rfl e3) ?_
                refine lex.val (v := .int .i64 s_1_2) (ld_fld (hC.bx (i := 0) rfl) Try.isAgg3 rfl rfl) ?_
                refine lex.pure (v := .int .i64 (wr (1 - s_1_2))) (pu_subw (a := 1) (b := s_1_2) rfl rfl) ?_
                refine lex.pure (v := .agg #[.int .i64 1, .int .i64 (wr (-s_1_1)), .int .i64 (wr (1 - s_1_2))]) (pu_builds (places := [(0, 1), (1, 1), (2, 1)]) (pv := [(0, .int .i64 1), (1, .int .i64 (wr (-s_1_1))), (2, .int .i64 (wr (1 - s_1_2)))]) Try.type33 Try.underlying33 rfl (mp_cons Try.type3 (mp_cons Try.type3 (mp_cons Try.type3 mp_nil rfl rfl) rfl rfl) rfl rfl) rfl (by simp [Instr.fill, Value.cells])) ?_
                refine lex.sk (hC.seta (i := 5) (ds := [.int .i64 1, .int .i64 (wr (-s_1_1)), .int .i64 (wr (1 - s_1_2))]) rfl Try.type33 rfl rfl rfl e14 rfl) ?_
                rintro w180 ⟨hC, hF⟩
                refine lex.nil ?_
                exact hK48 _ _ ⟨v11_3, v12_4, b_0_0, kf42_1_4, 1, (wr (-s_1_1)), (wr (1 - s_1_2)), Akf42_1_4, kf42_1_4.length, ckf42_1_4, e4, e5, e6, e11, e12, e13, e14, hb_0_0, (show I64 1 from by unfold I64; omega), (I64_wr _), (I64_wr _), hC.sel [1, 2, 3, 4, 5] (by decide), hb⟩
          · replace hb := (cF hq52).symm.trans hb
            refine Wc.seq fun K181 hK181 => ?_
            refine Wc.region (by decide +kernel) ?_
            refine lex.pure (v := .bool (decide (s_1_0 = 2))) (pu_eql (k := .i64) (a := s_1_0) (b := 2) e65 rfl) ?_
            refine lex.pure (v := .bool (decide (s_1_0 = 2))) (pu_assign rfl) ?_
            refine lex.nil ?_
            refine hK181 _ _ ?_
            refine Wc.cond (t := (decide (s_1_0 = 2))) (rfl) (fun hq182 => ?_) (fun hq182 => ?_)
            · replace hb := (cT hq182).symm.trans hb
              refine Wc.seqJ (fun E wv => ∃ (v11_7 : Bool), E 2 = .pointer (some ⟨g3, 0, none⟩) ∧ E 3 = .pointer (some ⟨g6, 0, none⟩) ∧ E 4 = .pointer (some ⟨g9, 0, none⟩) ∧ E 5 = .pointer (some ⟨g12, 0, none⟩) ∧ E 6 = .int .i64 0 ∧ E 7 = .slice Ab_0_1 b_0_1.length cb_0_1 ∧ E 11 = .bool v11_7 ∧ E 12 = .bool true ∧ E 13 = .pointer (some ⟨g40, 0, none⟩) ∧ E 14 = .pointer (some ⟨g43, 0, none⟩) ∧ Cx (fun _ => False) O0 w wv [.box g3 32 [.int .i64 b_0_0, .slice Ab_0_1 b_0_1.length cb_0_1], .ro (.sl (.int .i64)) [.slice Ab_0_1 b_0_1.length cb_0_1] b_0_1, .box g6 33 [.int .i64 s_1_0, .int .i64 s_1_1, .int .i64 s_1_2], .box g9 32 [.int .i64 0, .slice none 0 0], .box g12 33 [.int .i64 0, .int .i64 0, .int .i64 0], .box g40 32 [.int .i64 b_0_0, .slice none 0 0], .box g43 33 [.int .i64 0, .int .i64 0, .int .i64 0]] ∧ F.ref36_Apply_j7 n b_0_0 b_0_1 s_1_1 v11_7 = some r) (fun K183 hK183 => ?_) ?_
              ·
                skip
                refine Wc.region (by decide +kernel) ?_
                refine lex.pure (v := .pointer (some ((⟨g6, 0, none⟩ : Addr).add 1))) (pu_field (sz := 1) Try.underlying33 rfl Try.sizeOf3 (by decide) rfl e3) ?_
                refine lex.val (v := .int .i64 s_1_1) (ld_fld (hC.bx (i := 4) rfl) Try.isAgg3 rfl rfl) ?_
                refine lex.pure (v := .bool (decide (s_1_1 = 1))) (pu_eql (k := .i64) (a := s_1_1) (b := 1) rfl rfl) ?_
                refine lex.pure (v := .bool (decide (s_1_1 = 1))) (pu_move rfl) ?_
                rcases bS (decide (s_1_1 = 1)) with hq184 | hq184
                · replace hb := (cT hq184).symm.trans hb
                  refine lex.gskip (want_f rfl rfl (show _ = Value.bool (decide (s_1_1 = 1)) from rfl) hq184) ?_
                  refine lex.gskip (want_f rfl rfl (show _ = Value.bool (decide (s_1_1 = 1)) from rfl) hq184) ?_
                  refine lex.gskip (want_f rfl rfl (show _ = Value.bool (decide (s_1_1 = 1)) from rfl) hq184) ?_
                  refine lex.pure (v := .bool true) (pu_pickT (q := (decide (s_1_1 = 1))) rfl hq184 rfl) ?_
                  refine lex.pure (v := .bool true) (pu_move rfl) ?_
                  refine lex.gpure (want_t rfl rfl (show _ = Value.bool true from rfl) rfl) (v := .pointer (some ((⟨g6, 0, none⟩ : Addr).add 2))) (pu_field (sz := 1) Try.underlying33 rfl Try.sizeOf3 (by decide) rfl e3) ?_
                  refine lex.gval (want_t rfl rfl (show _ = Value.bool true from rfl) rfl) (v := .int .i64 s_1_2) (ld_fld (hC.bx (i := 4) rfl) Try.isAgg3 rfl rfl) ?_
                  refine lex.gpure (want_t rfl rfl (show _ = Value.bool true from rfl) rfl) (v := .bool (decide (s_1_2 = 0))) (pu_eql (k := .i64) (a := s_1_2) (b := 0) rfl rfl) ?_
                  refine lex.pure (v := .bool (decide (s_1_2 = 0))) (pu_pickT (q := true) rfl rfl rfl) ?_
                  refine lex.pure (v := .bool (decide (s_1_2 = 0))) (pu_assign rfl) ?_
                  refine lex.nil ?_
                  exact hK183 _ _ ⟨(decide (s_1_2 = 0)), e2, e3, e4, e5, e6, e7, rfl, e12, e13, e14, hC.sel [2, 3, 4, 5, 6, 1, 0] (by decide), hb⟩
                · replace hb := (cF hq184).symm.trans hb
                  refine lex.gpure (want_t rfl rfl (show _ = Value.bool (decide (s_1_1 = 1)) from rfl) hq184) (v := .pointer (some ((⟨g6, 0, none⟩ : Addr).add 1))) (pu_field (sz := 1) Try.underlying33 rfl Try.sizeOf3 (by decide) rfl e3) ?_
                  refine lex.gval (want_t rfl rfl (show _ = Value.bool (decide (s_1_1 = 1)) from rfl) hq184) (v := .int .i64 s_1_1) (ld_fld (hC.bx (i := 4) rfl) Try.isAgg3 rfl rfl) ?_
                  refine lex.gpure (want_t rfl rfl (show _ = Value.bool (decide (s_1_1 = 1)) from rfl) hq184) (v := .bool (decide (s_1_1 = (-1)))) (pu_eql (k := .i64) (a := s_1_1) (b := (-1)) rfl rfl) ?_
                  refine lex.pure (v := .bool (decide (s_1_1 = (-1)))) (pu_pickF (q := (decide (s_1_1 = 1))) rfl hq184 rfl) ?_
                  refine lex.pure (v := .bool (decide (s_1_1 = (-1)))) (pu_move rfl) ?_
                  rcases bS (decide (s_1_1 = (-1))) with hq185 | hq185
                  · replace hb := (cT hq185).symm.trans hb
                    refine lex.gpure (want_t rfl rfl (show _ = Value.bool (decide (s_1_1 = (-1))) from rfl) hq185) (v := .pointer (some ((⟨g6, 0, none⟩ : Addr).add 2))) (pu_field (sz := 1) Try.underlying33 rfl Try.sizeOf3 (by decide) rfl e3) ?_
                    refine lex.gval (want_t rfl rfl (show _ = Value.bool (decide (s_1_1 = (-1))) from rfl) hq185) (v := .int .i64 s_1_2) (ld_fld (hC.bx (i := 4) rfl) Try.isAgg3 rfl rfl) ?_
                    refine lex.gpure (want_t rfl rfl (show _ = Value.bool (decide (s_1_1 = (-1))) from rfl) hq185) (v := .bool (decide (s_1_2 = 0))) (pu_eql (k := .i64) (a := s_1_2) (b := 0) rfl rfl) ?_
                    refine lex.pure (v := .bool (decide (s_1_2 = 0))) (pu_pickT (q := (decide (s_1_1 = (-1)))) rfl hq185 rfl) ?_
                    refine lex.pure (v := .bool (decide (s_1_2 = 0))) (pu_assign rfl) ?_
                    refine lex.nil ?_
                    exact hK183 _ _ ⟨(decide (s_1_2 = 0)), e2, e3, e4, e5, e6, e7, rfl, e12, e13, e14, hC.sel [2, 3, 4, 5, 6, 1, 0] (by decide), hb⟩
                  · replace hb := (cF hq185).symm.trans hb
                    refine lex.gskip (want_f rfl rfl (show _ = Value.bool (decide (s_1_1 = (-1))) from rfl) hq185) ?_
                    refine lex.gskip (want_f rfl rfl (show _ = Value.bool (decide (s_1_1 = (-1))) from rfl) hq185) ?_
                    refine lex.gskip (want_f rfl rfl (show _ = Value.bool (decide (s_1_1 = (-1))) from rfl) hq185) ?_
                    refine lex.pure (v := .bool false) (pu_pickF (q := (decide (s_1_1 = (-1)))) rfl hq185 rfl) ?_
                    refine lex.pure (v := .bool false) (pu_assign rfl) ?_
                    refine lex.nil ?_
                    exact hK183 _ _ ⟨false, e2, e3, e4, e5, e6, e7, rfl, e12, e13, e14, hC.sel [2, 3, 4, 5, 6, 1, 0] (by decide), hb⟩
              · clear hb hC
                rintro E187 w186 ⟨v11_7, e2, e3, e4, e5, e6, e7, e11, e12, e13, e14, hC, hb⟩
                unfold F.ref36_Apply_j7 at hb
                refine Wc.seq fun K188 hK188 => ?_
                refine Wc.region (by decide +kernel) ?_
                refine lex.pure (v := .pointer (some ((⟨g40, 0, none⟩ : Addr).add 0))) (pu_field (sz := 1) Try.underlying32 rfl Try.sizeOf3 (by decide) rfl e13) ?_
                refine lex.val (v := .int .i64 b_0_0) (ld_fld (hC.bx (i := 5) rfl) Try.isAgg3 rfl rfl) ?_
                refine lex.pure (v := .int .i64 (wr (b_0_0 + 1))) (pu_addw (a := b_0_0) (b := 1) rfl rfl) ?_
                refine lex.pure (v := .pointer (some ((⟨g40, 0, none⟩ : Addr).add 0))) (pu_field (sz := 1) Try.underlying32 rfl Try.sizeOf3 (by decide) rfl e13) ?_
                refine lex.sk (hC.setf (i := 5) (k := 0) (v := .int .i64 (wr (b_0_0 + 1))) rfl Try.sizeOf3 rfl rfl rfl rfl) ?_
                rintro w189 ⟨hC, hF⟩
                refine lex.nil ?_
                refine hK188 _ _ ?_
                refine Wc.seq fun K190 hK190 => ?_
                refine Wc.regionPlan [156, 158] (frm [156, 158] ([] : List Fact) [.box g40 32 [.int .i64 (wr (b_0_0 + 1)), .slice none 0 0]]) (chainP [1, 3, 4, 5, 6, 7] (.alt (chainP [0] (.alt (chainP [2] (chainP [8, 9, 10, 11] .done)) (chainP [8] (chainP [2, 9, 10, 11] .done)))) (chainP [8] (chainP [0, 2, 9, 10, 11] .done)))) (fun _ => rfl) mixed (by decide +kernel) (by decide +kernel) fun w192 hw191 => ?_
                replace hC := hC.step (Fr.of_drew hw191)
                have hM := Fr.refl (fun k => k ∈ blocks ([] : List Fact)) w192
                clear hw191
                have hS := hC
                have hD : Fr (fun k => k ∈ blocks (([] : List Fact) ++ [.box g40 32 [.int .i64 (wr (b_0_0 + 1)), .slice none 0 0]])) w192 w192 := hM.wide
                have hUf42 : g40 < w192.heap.size → g40 ∈ blocks (([] : List Fact) ++ [.box g40 32 [.int .i64 (wr (b_0_0 + 1)), .slice none 0 0]]) := fun _ => box_in (i := 0) rfl
                refine mixPE_chain ?_
                refine mixE.pure (v := .slice Ab_0_1 b_0_1.length cb_0_1) (pu_move e7) ?_
                refine mixE.pure (v := .pointer (some ((⟨g6, 0, none⟩ : Addr).add 1))) (pu_field (sz := 1) Try.underlying33 rfl Try.sizeOf3 (by decide) rfl e3) ?_
                refine mixE.steady hD (v := .int .i64 s_1_1) (fun _ hF => ld_fld (hS.bx2 (i := 2) rfl [5] (by decide) hF) Try.isAgg3 rfl rfl) ?_
                refine mixE.pure (v := .pointer (some ((⟨g3, 0, none⟩ : Addr).add 0))) (pu_field (sz := 1) Try.underlying32 rfl Try.sizeOf3 (by decide) rfl e2) ?_
                refine mixE.steady hD (v := .int .i64 b_0_0) (fun _ hF => ld_fld (hS.bx2 (i := 0) rfl [5] (by decide) hF) Try.isAgg3 rfl rfl) ?_
                refine mixE.pure (v := .int .i64 (wr (s_1_1 * b_0_0))) (pu_mulw (a := s_1_1) (b := b_0_0) rfl rfl) ?_
                refine mixE.nil ?_
                refine mixPE_alt ?_ ?_
                ·
                  skip
                  refine mixPE_chain ?_
                  refine mixE.op hM (hC.lit (s := (.int .i64)) (vs := []) (xs := []) Try.underlying22 Try.type3 rfl rfl (Nat.le_of_ble_eq_true rfl) rfl rfl (by simp [Value.cells, Sh.n]) rfl (show Elems _ _ (.int .i64) ([]) ([] : List Int) from Elems.nil _ _ _)) ?_
                  rintro _ w197 ⟨A193, c194, rfl, hl195, hc196, hC, hF, hN⟩
                  have hBf198 := Beside.new hM hN
                  have hUf198 := Beside.new (hM.wide (H := [.box g40 32 [.int .i64 (wr (b_0_0 + 1)), .slice none 0 0]])) hN
                  replace hM := hM.none hF
                  replace hD := hM.wide (H := [.box g40 32 [.int .i64 (wr (b_0_0 + 1)), .slice none 0 0]])
                  refine ⟨hM, ?_⟩
                  clear hF hN
                  refine mixE.nil ?_
                  refine mixPE_alt ?_ ?_
                  ·
                    skip
                    refine mixPE_chain ?_
                    obtain ⟨u199, h200, hb⟩ := bd hb
                    refine mixE.op hM (hC.app (i := 0) (s := (.int .i64)) (xs := ([] : List Int)) (ys := b_0_1) (m := b_0_1.length) rfl Try.underlying22 Try.underlying22 Try.type3 rfl rfl rfl (hC.srcr (i := 2) rfl) rfl rfl (by have := lim_some h200; simp at this ⊢; omega) (by decide)) ?_
                    rintro _ w205 ⟨A201, c202, rfl, hl203, hc204, hC, hF, hN⟩
                    have hB := hBf198
                    replace hBf198 := hB.app hM hN
                    replace hM := hM.beside hB hF
                    clear hB
                    replace hD := hM.wide (H := [.box g40 32 [.int .i64 (wr (b_0_0 + 1)), .slice none 0 0]])
                    refine ⟨hM, ?_⟩
                    clear hF hN
                    refine mixE.nil ?_
                    refine mixPE_chain ?_
                    refine mixE.op hM (hC.lit (s := (.int .i64)) (vs := [.int .i64 (wr (s_1_1 * b_0_0))]) (xs := [(wr (s_1_1 * b_0_0))]) Try.underlying22 Try.type3 rfl rfl (Nat.le_of_ble_eq_true rfl) rfl rfl (by simp [Value.cells, Sh.n]) rfl (show Elems _ _ (.int .i64) ([.int .i64 (wr (s_1_1 * b_0_0))] ++ ([])) ([(wr (s_1_1 * b_0_0))] : List Int) from Elems.cons (⟨rfl, I64.wr (I64_wr _)⟩) (Elems.nil _ _ _))) ?_
                    rintro _ w210 ⟨A206, c207, rfl, hl208, hc209, hC, hF, hN⟩
                    have hBf211 := Beside.new hM hN
                    have hUf211 := Beside.new (hM.wide (H := [.box g40 32 [.int .i64 (wr (b_0_0 + 1)), .slice none 0 0]])) hN
                    replace hM := hM.none hF
                    replace hD := hM.wide (H := [.box g40 32 [.int .i64 (wr (b_0_0 + 1)), .slice none 0 0]])
                    refine ⟨hM, ?_⟩
                    clear hF hN
                    obtain ⟨u212, h213, hb⟩ := bd hb
                    refine mixE.op hM (hC.app (i := 1) (s := (.int .i64)) (xs := (([] : List Int) ++ b_0_1)) (ys := ([(wr (s_1_1 * b_0_0))] : List Int)) (m := ((([(wr (s_1_1 * b_0_0))] : List Int)).length)) rfl Try.underlying22 Try.underlying22 Try.type3 rfl rfl rfl (hC.srco (i := 0) rfl) rfl rfl (by have := lim_some h213; simp at this ⊢; omega) (by decide)) ?_
                    rintro _ w218 ⟨A214, c215, rfl, hl216, hc217, hC, hF, hN⟩
                    have hB := hBf198
                    replace hBf198 := hB.app hM hN
                    replace hM := hM.beside hB hF
                    clear hB
                    replace hD := hM.wide (H := [.box g40 32 [.int .i64 (wr (b_0_0 + 1)), .slice none 0 0]])
                    refine ⟨hM, ?_⟩
                    clear hF hN
                    refine mixE.pure (v := .pointer (some ((⟨g40, 0, none⟩ : Addr).add 1))) (pu_field (sz := 1) Try.underlying32 rfl Try.sizeOf22 (by decide) rfl e13) ?_
                    refine mixE.sk hD (hC.setf (i := 7) (k := 1) (v := .slice A214 (((([] : List Int) ++ b_0_1) ++ ([(wr (s_1_1 * b_0_0))] : List Int)).length) c215) rfl Try.sizeOf22 rfl rfl rfl rfl) ?_
                    rintro w219 ⟨hC, hF⟩
                    replace hD := hD.besideG hUf42 hF
                    clear hF
                    refine ⟨hD, ?_⟩
                    refine mixE.nil ?_
                    clear hS hM
                    clear hD
                    refine hK190 _ _ ?_
                    refine Wc.region (by decide +kernel) ?_
                    refine lex.pure (v := .agg #[.int .i64 3, .int .i64 0, .int .i64 0]) (pu_builds (places := [(0, 1), (1, 1), (2, 1)]) (pv := [(0, .int .i64 3)]) Try.type33 Try.underlying33 rfl (mp_cons Try.type3 (mp_cons Try.type3 (mp_cons Try.type3 mp_nil rfl rfl) rfl rfl) rfl rfl) rfl (by simp [Instr.fill, Value.cells])) ?_
                    refine lex.sk (hC.seta (i := 8) (ds := [.int .i64 3, .int .i64 0, .int .i64 0]) rfl Try.type33 rfl rfl rfl e14 rfl) ?_
                    rintro w220 ⟨hC, hF⟩
                    refine lex.nil ?_
                    replace hC := hC.freeze (i := 1) rfl (hC.own_new (i := 1) rfl)
                    exact hK48 _ _ ⟨v11_7, true, (wr (b_0_0 + 1)), ((([] : List Int) ++ b_0_1) ++ ([(wr (s_1_1 * b_0_0))] : List Int)), 3, 0, 0, A214, ((([] : List Int) ++ b_0_1) ++ ([(wr (s_1_1 * b_0_0))] : List Int)).length, c215, e4, e5, e6, e11, e12, e13, e14, (I64_wr _), (show I64 3 from by unfold I64; omega), (show I64 0 from by unfold I64; omega), (show I64 0 from by unfold I64; omega), hC.sel [5, 6, 7, 1, 8] (by decide), hb⟩
                  ·
                    skip
                    refine mixPE_chain ?_
                    refine mixE.op hM (hC.lit (s := (.int .i64)) (vs := [.int .i64 (wr (s_1_1 * b_0_0))]) (xs := [(wr (s_1_1 * b_0_0))]) Try.underlying22 Try.type3 rfl rfl (Nat.le_of_ble_eq_true rfl) rfl rfl (by simp [Value.cells, Sh.n]) rfl (show Elems _ _ (.int .i64) ([.int .i64 (wr (s_1_1 * b_0_0))] ++ ([])) ([(wr (s_1_1 * b_0_0))] : List Int) from Elems.cons (⟨rfl, I64.wr (I64_wr _)⟩) (Elems.nil _ _ _))) ?_
                    rintro _ w225 ⟨A221, c222, rfl, hl223, hc224, hC, hF, hN⟩
                    have hBf226 := Beside.new hM hN
                    have hUf226 := Beside.new (hM.wide (H := [.box g40 32 [.int .i64 (wr (b_0_0 + 1)), .slice none 0 0]])) hN
                    replace hM := hM.none hF
                    replace hD := hM.wide (H := [.box g40 32 [.int .i64 (wr (b_0_0 + 1)), .slice none 0 0]])
                    refine ⟨hM, ?_⟩
                    clear hF hN
                    refine mixE.nil ?_
                    refine mixPE_chain ?_
                    obtain ⟨u227, h228, hb⟩ := bd hb
                    refine mixE.op hM (hC.app (i := 1) (s := (.int .i64)) (xs := ([] : List Int)) (ys := b_0_1) (m := b_0_1.length) rfl Try.underlying22 Try.underlying22 Try.type3 rfl rfl rfl (hC.srcr (i := 3) rfl) rfl rfl (by have := lim_some h228; simp at this ⊢; omega) (by decide)) ?_
                    rintro _ w233 ⟨A229, c230, rfl, hl231, hc232, hC, hF, hN⟩
                    have hB := hBf198
                    replace hBf198 := hB.app hM hN
                    replace hM := hM.beside hB hF
                    clear hB
                    replace hD := hM.wide (H := [.box g40 32 [.int .i64 (wr (b_0_0 + 1)), .slice none 0 0]])
                    refine ⟨hM, ?_⟩
                    clear hF hN
                    obtain ⟨u234, h235, hb⟩ := bd hb
                    refine mixE.op hM (hC.app (i := 1) (s := (.int .i64)) (xs := (([] : List Int) ++ b_0_1)) (ys := ([(wr (s_1_1 * b_0_0))] : List Int)) (m := ((([(wr (s_1_1 * b_0_0))] : List Int)).length)) rfl Try.underlying22 Try.underlying22 Try.type3 rfl rfl rfl (hC.srco (i := 0) rfl) rfl rfl (by have := lim_some h235; simp at this ⊢; omega) (by decide)) ?_
                    rintro _ w240 ⟨A236, c237, rfl, hl238, hc239, hC, hF, hN⟩
                    have hB := hBf198
                    replace hBf198 := hB.app hM hN
                    replace hM := hM.beside hB hF
                    clear hB
                    replace hD := hM.wide (H := [.box g40 32 [.int .i64 (wr (b_0_0 + 1)), .slice none 0 0]])
                    refine ⟨hM, ?_⟩
                    clear hF hN
                    refine mixE.pure (v := .pointer (some ((⟨g40, 0, none⟩ : Addr).add 1))) (pu_field (sz := 1) Try.underlying32 rfl Try.sizeOf22 (by decide) rfl e13) ?_
                    refine mixE.sk hD (hC.setf (i := 7) (k := 1) (v := .slice A236 (((([] : List Int) ++ b_0_1) ++ ([(wr (s_1_1 * b_0_0))] : List Int)).length) c237) rfl Try.sizeOf22 rfl rfl rfl rfl) ?_
                    rintro w241 ⟨hC, hF⟩
                    replace hD := hD.besideG hUf42 hF
                    clear hF
                    refine ⟨hD, ?_⟩
                    refine mixE.nil ?_
                    clear hS hM
                    clear hD
                    refine hK190 _ _ ?_
                    refine Wc.region (by decide +kernel) ?_
                    refine lex.pure (v := .agg #[.int .i64 3, .int .i64 0, .int .i64 0]) (pu_builds (places := [(0, 1), (1, 1), (2, 1)]) (pv := [(0, .int .i64 3)]) Try.type33 Try.underlying33 rfl (mp_cons Try.type3 (mp_cons Try.type3 (mp_cons Try.type3 mp_nil rfl rfl) rfl rfl) rfl rfl) rfl (by simp [Instr.fill, Value.cells])) ?_
                    refine lex.sk (hC.seta (i := 8) (ds := [.int .i64 3, .int .i64 0, .int .i64 0]) rfl Try.type33 rfl rfl rfl e14 rfl) ?_
                    rintro w242 ⟨hC, hF⟩
                    refine lex.nil ?_
                    replace hC := hC.freeze (i := 1) rfl (hC.own_new (i := 1) rfl)
                    exact hK48 _ _ ⟨v11_7, true, (wr (b_0_0 + 1)), ((([] : List Int) ++ b_0_1) ++ ([(wr (s_1_1 * b_0_0))] : List Int)), 3, 0, 0, A236, ((([] : List Int) ++ b_0_1) ++ ([(wr (s_1_1 * b_0_0))] : List Int)).length, c237, e4, e5, e6, e11, e12, e13, e14, (I64_wr _), (show I64 3 from by unfold I64; omega), (show I64 0 from by unfold I64; omega), (show I64 0 from by unfold I64; omega), hC.sel [5, 6, 7, 1, 8] (by decide), hb⟩
                ·
                  skip
                  refine mixPE_chain ?_
                  refine mixE.op hM (hC.lit (s := (.int .i64)) (vs := [.int .i64 (wr (s_1_1 * b_0_0))]) (xs := [(wr (s_1_1 * b_0_0))]) Try.underlying22 Try.type3 rfl rfl (Nat.le_of_ble_eq_true rfl) rfl rfl (by simp [Value.cells, Sh.n]) rfl (show Elems _ _ (.int .i64) ([.int .i64 (wr (s_1_1 * b_0_0))] ++ ([])) ([(wr (s_1_1 * b_0_0))] : List Int) from Elems.cons (⟨rfl, I64.wr (I64_wr _)⟩) (Elems.nil _ _ _))) ?_
                  rintro _ w247 ⟨A243, c244, rfl, hl245, hc246, hC, hF, hN⟩
                  have hBf248 := Beside.new hM hN
                  have hUf248 := Beside.new (hM.wide (H := [.box g40 32 [.int .i64 (wr (b_0_0 + 1)), .slice none 0 0]])) hN
                  replace hM := hM.none hF
                  replace hD := hM.wide (H := [.box g40 32 [.int .i64 (wr (b_0_0 + 1)), .slice none 0 0]])
                  refine ⟨hM, ?_⟩
                  clear hF hN
                  refine mixE.nil ?_
                  refine mixPE_chain ?_
                  refine mixE.op hM (hC.lit (s := (.int .i64)) (vs := []) (xs := []) Try.underlying22 Try.type3 rfl rfl (Nat.le_of_ble_eq_true rfl) rfl rfl (by simp [Value.cells, Sh.n]) rfl (show Elems _ _ (.int .i64) ([]) ([] : List Int) from Elems.nil _ _ _)) ?_
                  rintro _ w253 ⟨A249, c250, rfl, hl251, hc252, hC, hF, hN⟩
                  have hBf254 := Beside.new hM hN
                  have hUf254 := Beside.new (hM.wide (H := [.box g40 32 [.int .i64 (wr (b_0_0 + 1)), .slice none 0 0]])) hN
                  replace hM := hM.none hF
                  replace hD := hM.wide (H := [.box g40 32 [.int .i64 (wr (b_0_0 + 1)), .slice none 0 0]])
                  refine ⟨hM, ?_⟩
                  clear hF hN
                  obtain ⟨u255, h256, hb⟩ := bd hb
                  refine mixE.op hM (hC.app (i := 0) (s := (.int .i64)) (xs := ([] : List Int)) (ys := b_0_1) (m := b_0_1.length) rfl Try.underlying22 Try.underlying22 Try.type3 rfl rfl rfl (hC.srcr (i := 3) rfl) rfl rfl (by have := lim_some h256; simp at this ⊢; omega) (by decide)) ?_
                  rintro _ w261 ⟨A257, c258, rfl, hl259, hc260, hC, hF, hN⟩
                  have hB := hBf254
                  replace hBf254 := hB.app hM hN
                  replace hM := hM.beside hB hF
                  clear hB
                  replace hD := hM.wide (H := [.box g40 32 [.int .i64 (wr (b_0_0 + 1)), .slice none 0 0]])
                  refine ⟨hM, ?_⟩
                  clear hF hN
                  obtain ⟨u262, h263, hb⟩ := bd hb
                  refine mixE.op hM (hC.app (i := 0) (s := (.int .i64)) (xs := (([] : List Int) ++ b_0_1)) (ys := ([(wr (s_1_1 * b_0_0))] : List Int)) (m := ((([(wr (s_1_1 * b_0_0))] : List Int)).length)) rfl Try.underlying22 Try.underlying22 Try.type3 rfl rfl rfl (hC.srco (i := 1) rfl) rfl rfl (by have := lim_some h263; simp at this ⊢; omega) (by decide)) ?_
                  rintro _ w268 ⟨A264, c265, rfl, hl266, hc267, hC, hF, hN⟩
                  have hB := hBf254
                  replace hBf254 := hB.app hM hN
                  replace hM := hM.beside hB hF
                  clear hB
                  replace hD := hM.wide (H := [.box g40 32 [.int .i64 (wr (b_0_0 + 1)), .slice none 0 0]])
                  refine ⟨hM, ?_⟩
                  clear hF hN
                  refine mixE.pure (v := .pointer (some ((⟨g40, 0, none⟩ : Addr).add 1))) (pu_field (sz := 1) Try.underlying32 rfl Try.sizeOf22 (by decide) rfl e13) ?_
                  refine mixE.sk hD (hC.setf (i := 7) (k := 1) (v := .slice A264 (((([] : List Int) ++ b_0_1) ++ ([(wr (s_1_1 * b_0_0))] : List Int)).length) c265) rfl Try.sizeOf22 rfl rfl rfl rfl) ?_
                  rintro w269 ⟨hC, hF⟩
                  replace hD := hD.besideG hUf42 hF
                  clear hF
                  refine ⟨hD, ?_⟩
                  refine mixE.nil ?_
                  clear hS hM
                  clear hD
                  refine hK190 _ _ ?_
                  refine Wc.region (by decide +kernel) ?_
                  refine lex.pure (v := .agg #[.int .i64 3, .int .i64 0, .int .i64 0]) (pu_builds (places := [(0, 1), (1, 1), (2, 1)]) (pv := [(0, .int .i64 3)]) Try.type33 Try.underlying33 rfl (mp_cons Try.type3 (mp_cons Try.type3 (mp_cons Try.type3 mp_nil rfl rfl) rfl rfl) rfl rfl) rfl (by simp [Instr.fill, Value.cells])) ?_
                  refine lex.sk (hC.seta (i := 8) (ds := [.int .i64 3, .int .i64 0, .int .i64 0]) rfl Try.type33 rfl rfl rfl e14 rfl) ?_
                  rintro w270 ⟨hC, hF⟩
                  refine lex.nil ?_
                  replace hC := hC.freeze (i := 0) rfl (hC.own_new (i := 0) rfl)
                  exact hK48 _ _ ⟨v11_7, true, (wr (b_0_0 + 1)), ((([] : List Int) ++ b_0_1) ++ ([(wr (s_1_1 * b_0_0))] : List Int)), 3, 0, 0, A264, ((([] : List Int) ++ b_0_1) ++ ([(wr (s_1_1 * b_0_0))] : List Int)).length, c265, e4, e5, e6, e11, e12, e13, e14, (I64_wr _), (show I64 3 from by unfold I64; omega), (show I64 0 from by unfold I64; omega), (show I64 0 from by unfold I64; omega), hC.sel [5, 6, 7, 0, 8] (by decide), hb⟩
            · replace hb := (cF hq182).symm.trans hb
              refine Wc.seq fun K271 hK271 => ?_
              refine Wc.region (by decide +kernel) ?_
              refine lex.pure (v := .bool (decide (s_1_0 = 3))) (pu_eql (k := .i64) (a := s_1_0) (b := 3) e65 rfl) ?_
              refine lex.pure (v := .bool (decide (s_1_0 = 3))) (pu_assign rfl) ?_
              refine lex.nil ?_
              refine hK271 _ _ ?_
              refine Wc.cond (t := (decide (s_1_0 = 3))) (rfl) (fun hq272 => ?_) (fun hq272 => ?_)
              · replace hb := (cT hq272).symm.trans hb
                refine Wc.seqJ (fun E wv => ∃ (v11_8 : Bool), E 2 = .pointer (some ⟨g3, 0, none⟩) ∧ E 4 = .pointer (some ⟨g9, 0, none⟩) ∧ E 5 = .pointer (some ⟨g12, 0, none⟩) ∧ E 6 = .int .i64 0 ∧ E 7 = .slice Ab_0_1 b_0_1.length cb_0_1 ∧ E 8 = .int .i64 (b_0_1.length : Int) ∧ E 11 = .bool v11_8 ∧ E 12 = .bool true ∧ E 13 = .pointer (some ⟨g40, 0, none⟩) ∧ E 14 = .pointer (some ⟨g43, 0, none⟩) ∧ Cx (fun _ => False) O0 w wv [.box g3 32 [.int .i64 b_0_0, .slice Ab_0_1 b_0_1.length cb_0_1], .ro (.sl (.int .i64)) [.slice Ab_0_1 b_0_1.length cb_0_1] b_0_1, .box g9 32 [.int .i64 0, .slice none 0 0], .box g12 33 [.int .i64 0, .int .i64 0, .int .i64 0], .box g40 32 [.int .i64 b_0_0, .slice none 0 0], .box g43 33 [.int .i64 0, .int .i64 0, .int .i64 0]] ∧ F.ref36_Apply_j8 n b_0_0 b_0_1 v11_8 = some r) (fun K273 hK273 => ?_) ?_
                ·
                  skip
                  refine Wc.region (by decide +kernel) ?_
                  refine lex.pure (v := .pointer (some ((⟨g6, 0, none⟩ : Addr).add 1))) (pu_field (sz := 1) Try.underlying33 rfl Try.sizeOf3 (by decide) rfl e3) ?_
                  refine lex.val (v := .int .i64 s_1_1) (ld_fld (hC.bx (i := 4) rfl) Try.isAgg3 rfl rfl) ?_
                  refine lex.pure (v := .bool (decide (s_1_1 = 0))) (pu_eql (k := .i64) (a := s_1_1) (b := 0) rfl rfl) ?_
                  refine lex.pure (v := .bool (decide (s_1_1 = 0))) (pu_move rfl) ?_
                  rcases bS (decide (s_1_1 = 0)) with hq274 | hq274
                  · replace hb := (cT hq274).symm.trans hb
                    refine lex.gpure (want_t rfl rfl (show _ = Value.bool (decide (s_1_1 = 0)) from rfl) hq274) (v := .pointer (some ((⟨g6, 0, none⟩ : Addr).add 2))) (pu_field (sz := 1) Try.underlying33 rfl Try.sizeOf3 (by decide) rfl e3) ?_
                    refine lex.gval (want_t rfl rfl (show _ = Value.bool (decide (s_1_1 = 0)) from rfl) hq274) (v := .int .i64 s_1_2) (ld_fld (hC.bx (i := 4) rfl) Try.isAgg3 rfl rfl) ?_
                    refine lex.gpure (want_t rfl rfl (show _ = Value.bool (decide (s_1_1 = 0)) from rfl) hq274) (v := .bool (decide (s_1_2 = 0))) (pu_eql (k := .i64) (a := s_1_2) (b := 0) rfl rfl) ?_
                    refine lex.pure (v := .bool (decide (s_1_2 = 0))) (pu_pickT (q := (decide (s_1_1 = 0))) rfl hq274 rfl) ?_
                    refine lex.pure (v := .bool (decide (s_1_2 = 0))) (pu_assign rfl) ?_
                    refine lex.nil ?_
                    exact hK273 _ _ ⟨(decide (s_1_2 = 0)), e2, e4, e5, e6, e7, e8, rfl, e12, e13, e14, hC.sel [2, 3, 5, 6, 1, 0] (by decide), hb⟩
                  · replace hb := (cF hq274).symm.trans hb
                    refine lex.gskip (want_f rfl rfl (show _ = Value.bool (decide (s_1_1 = 0)) from rfl) hq274) ?_
                    refine lex.gskip (want_f rfl rfl (show _ = Value.bool (decide (s_1_1 = 0)) from rfl) hq274) ?_
                    refine lex.gskip (want_f rfl rfl (show _ = Value.bool (decide (s_1_1 = 0)) from rfl) hq274) ?_
                    refine lex.pure (v := .bool false) (pu_pickF (q := (decide (s_1_1 = 0))) rfl hq274 rfl) ?_
                    refine lex.pure (v := .bool false) (pu_assign rfl) ?_
                    refine lex.nil ?_
                    exact hK273 _ _ ⟨false, e2, e4, e5, e6, e7, e8, rfl, e12, e13, e14, hC.sel [2, 3, 5, 6, 1, 0] (by decide), hb⟩
                · clear hb hC
                  rintro E276 w275 ⟨v11_8, e2, e4, e5, e6, e7, e8, e11, e12, e13, e14, hC, hb⟩
                  unfold F.ref36_Apply_j8 at hb
                  refine Wc.seqJ (fun E wv => ∃ (v12_9 : Bool), E 2 = .pointer (some ⟨g3, 0, none⟩) ∧ E 4 = .pointer (some ⟨g9, 0, none⟩) ∧ E 5 = .pointer (some ⟨g12, 0, none⟩) ∧ E 6 = .int .i64 0 ∧ E 7 = .slice Ab_0_1 b_0_1.length cb_0_1 ∧ E 8 = .int .i64 (b_0_1.length : Int) ∧ E 11 = .bool v11_8 ∧ E 12 = .bool v12_9 ∧ E 13 = .pointer (some ⟨g40, 0, none⟩) ∧ E 14 = .pointer (some ⟨g43, 0, none⟩) ∧ Cx (fun _ => False) O0 w wv [.box g3 32 [.int .i64 b_0_0, .slice Ab_0_1 b_0_1.length cb_0_1], .ro (.sl (.int .i64)) [.slice Ab_0_1 b_0_1.length cb_0_1] b_0_1, .box g9 32 [.int .i64 0, .slice none 0 0], .box g12 33 [.int .i64 0, .int .i64 0, .int .i64 0], .box g40 32 [.int .i64 b_0_0, .slice none 0 0], .box g43 33 [.int .i64 0, .int .i64 0, .int .i64 0]] ∧ F.ref36_Apply_j9 n b_0_0 b_0_1 v11_8 v12_9 = some r) (fun K277 hK277 => ?_) ?_
                  ·
                    skip
                    refine Wc.regionMix [] (frm [] ([] : List Fact) ([] : List Fact)) (fun _ => rfl) mixed (by decide +kernel) (by decide +kernel) fun w279 hw278 => ?_
                    replace hC := hC.step (Fr.of_drew hw278)
                    have hM := Fr.refl (fun k => k ∈ blocks ([] : List Fact)) w279
                    clear hw278
                    have hS := hC
                    refine mixE.pure (v := .pointer (some ((⟨g3, 0, none⟩ : Addr).add 0))) (pu_field (sz := 1) Try.underlying32 rfl Try.sizeOf3 (by decide) rfl e2) ?_
                    refine mixE.load hM (v := .int .i64 b_0_0) (fun _ hF => ld_fld (hS.bx2 (i := 0) rfl [] (by decide) hF) Try.isAgg3 rfl rfl) ?_
                    refine mixE.pure (v := .bool (decide (2 ≤ b_0_0))) (pu_geq (k := .i64) (a := b_0_0) (b := 2) rfl rfl) ?_
                    refine mixE.pure (v := .bool (decide (2 ≤ b_0_0))) (pu_move rfl) ?_
                    rcases bS (decide (2 ≤ b_0_0)) with hq280 | hq280
                    · replace hb := (cT hq280).symm.trans hb
                      refine mixE.gpure rfl (want_t rfl rfl (show _ = Value.bool (decide (2 ≤ b_0_0)) from rfl) hq280) (v := .int .i64 (b_0_1.length : Int)) (pu_move e8) ?_
                      refine mixE.gpure rfl (want_t rfl rfl (show _ = Value.bool (decide (2 ≤ b_0_0)) from rfl) hq280) (v := .bool (decide (1 ≤ (b_0_1.length : Int)))) (pu_geq (k := .i64) (a := (b_0_1.length : Int)) (b := 1) rfl rfl) ?_
                      refine mixE.pure (v := .bool (decide (1 ≤ (b_0_1.length : Int)))) (pu_pickT (q := (decide (2 ≤ b_0_0))) rfl hq280 rfl) ?_
                      refine mixE.pure (v := .bool (decide (1 ≤ (b_0_1.length : Int)))) (pu_move rfl) ?_
                      rcases bS (decide (1 ≤ (b_0_1.length : Int))) with hq281 | hq281
                      · replace hb := (cT hq281).symm.trans hb
                        refine mixE.gpure rfl (want_t rfl rfl (show _ = Value.bool (decide (1 ≤ (b_0_1.length : Int))) from rfl) hq281) (v := .slice Ab_0_1 b_0_1.length cb_0_1) (pu_move e7) ?_
                        refine mixE.gpure rfl (want_t rfl rfl (show _ = Value.bool (decide (1 ≤ (b_0_1.length : Int))) from rfl) hq281) (v := .int .i64 (b_0_1.length : Int)) (pu_move e8) ?_
                        refine mixE.gpure rfl (want_t rfl rfl (show _ = Value.bool (decide (1 ≤ (b_0_1.length : Int))) from rfl) hq281) (v := .int .i64 (wr ((b_0_1.length : Int) - 1))) (pu_subw (a := (b_0_1.length : Int)) (b := 1) rfl rfl) ?_
                        obtain ⟨x282, h283, hb⟩ := bd hb
                        obtain ⟨ad284, cs285, hA, ho288, hc286, hr287⟩ := hS.elr2 (i := 1) rfl (get_some h283).2 []
                        subst hA
                        refine mixE.gpure rfl (want_t rfl rfl (show _ = Value.bool (decide (1 ≤ (b_0_1.length : Int))) from rfl) hq281) (v := .pointer (some (ad284.add ((wr ((b_0_1.length : Int) - 1)).toNat * 1)))) (pu_index (a := (wr ((b_0_1.length : Int) - 1))) Try.underlying22 Try.sizeOf3 rfl rfl (get_some h283).1) ?_
                        obtain ⟨rfl, hr287'⟩ := hr287
                        refine mixE.gload rfl (want_t rfl rfl (show _ = Value.bool (decide (1 ≤ (b_0_1.length : Int))) from rfl) hq281) hM (v := .int .i64 x282) (fun _ hF => ld_one Try.isAgg3 rfl (hF.cell (hc286 0 _ rfl) (off1 ho288))) ?_
                        obtain ⟨y289, h290, hb⟩ := bd hb
                        refine mixE.gcl rfl (want_t rfl rfl (show _ = Value.bool (decide (1 ≤ (b_0_1.length : Int))) from rfl) hq281) hM (⟨_, _, op_call (vs := [.int .i64 x282]) Try.call34 rfl rfl rfl, ref33_Abs_ok n hC.lt (wrap_I64 hr287') h290⟩) ?_
                        rintro _ w292 ⟨rfl, hr291, hK⟩
                        replace hM := hM.none hK.fr
                        refine ⟨hM, ?_⟩
                        replace hC := hC.merge hK
                        clear hK
                        refine mixE.gpure rfl (want_t rfl rfl (show _ = Value.bool (decide (1 ≤ (b_0_1.length : Int))) from rfl) hq281) (v := .pointer (some ((⟨g3, 0, none⟩ : Addr).add 0))) (pu_field (sz := 1) Try.underlying32 rfl Try.sizeOf3 (by decide) rfl e2) ?_
                        refine mixE.gload rfl (want_t rfl rfl (show _ = Value.bool (decide (1 ≤ (b_0_1.length : Int))) from rfl) hq281) hM (v := .int .i64 b_0_0) (fun _ hF => ld_fld (hS.bx2 (i := 0) rfl [] (by decide) hF) Try.isAgg3 rfl rfl) ?_
                        refine mixE.gpure rfl (want_t rfl rfl (show _ = Value.bool (decide (1 ≤ (b_0_1.length : Int))) from rfl) hq281) (v := .int .i64 (wr (b_0_0 - 1))) (pu_subw (a := b_0_0) (b := 1) rfl rfl) ?_
                        refine mixE.gpure rfl (want_t rfl rfl (show _ = Value.bool (decide (1 ≤ (b_0_1.length : Int))) from rfl) hq281) (v := .bool (decide (y289 = (wr (b_0_0 - 1))))) (pu_eql (k := .i64) (a := y289) (b := (wr (b_0_0 - 1))) rfl rfl) ?_
                        refine mixE.pure (v := .bool (decide (y289 = (wr (b_0_0 - 1))))) (pu_pickT (q := (decide (1 ≤ (b_0_1.length : Int)))) rfl hq281 rfl) ?_
                        refine mixE.pure (v := .bool (decide (y289 = (wr (b_0_0 - 1))))) (pu_assign rfl) ?_
                        refine mixE.nil ?_
                        clear hS hM
                        exact hK277 _ _ ⟨(decide (y289 = (wr (b_0_0 - 1)))), e2, e4, e5, e6, e7, e8, e11, rfl, e13, e14, hC.sel [0, 1, 2, 3, 4, 5] (by decide), hb⟩
                      · replace hb := (cF hq281).symm.trans hb
                        refine mixE.gskip (want_f rfl rfl (show _ = Value.bool (decide (1 ≤ (b_0_1.length : Int))) from rfl) hq281) ?_
                        refine mixE.gskip (want_f rfl rfl (show _ = Value.bool (decide (1 ≤ (b_0_1.length : Int))) from rfl) hq281) ?_
                        refine mixE.gskip (want_f rfl rfl (show _ = Value.bool (decide (1 ≤ (b_0_1.length : Int))) from rfl) hq281) ?_
                        refine mixE.gskip (want_f rfl rfl (show _ = Value.bool (decide (1 ≤ (b_0_1.length : Int))) from rfl) hq281) ?_
                        refine mixE.gskip (want_f rfl rfl (show _ = Value.bool (decide (1 ≤ (b_0_1.length : Int))) from rfl) hq281) ?_
                        refine mixE.gskip (want_f rfl rfl (show _ = Value.bool (decide (1 ≤ (b_0_1.length : Int))) from rfl) hq281) ?_
                        refine mixE.gskip (want_f rfl rfl (show _ = Value.bool (decide (1 ≤ (b_0_1.length : Int))) from rfl) hq281) ?_
                        refine mixE.gskip (want_f rfl rfl (show _ = Value.bool (decide (1 ≤ (b_0_1.length : Int))) from rfl) hq281) ?_
                        refine mixE.gskip (want_f rfl rfl (show _ = Value.bool (decide (1 ≤ (b_0_1.length : Int))) from rfl) hq281) ?_
                        refine mixE.gskip (want_f rfl rfl (show _ = Value.bool (decide (1 ≤ (b_0_1.length : Int))) from rfl) hq281) ?_
                        refine mixE.pure (v := .bool false) (pu_pickF (q := (decide (1 ≤ (b_0_1.length : Int)))) rfl hq281 rfl) ?_
                        refine mixE.pure (v := .bool false) (pu_assign rfl) ?_
                        refine mixE.nil ?_
                        clear hS hM
                        exact hK277 _ _ ⟨false, e2, e4, e5, e6, e7, e8, e11, rfl, e13, e14, hC.sel [0, 1, 2, 3, 4, 5] (by decide), hb⟩
                    · replace hb := (cF hq280).symm.trans hb
                      refine mixE.gskip (want_f rfl rfl (show _ = Value.bool (decide (2 ≤ b_0_0)) from rfl) hq280) ?_
                      refine mixE.gskip (want_f rfl rfl (show _ = Value.bool (decide (2 ≤ b_0_0)) from rfl) hq280) ?_
                      refine mixE.pure (v := .bool false) (pu_pickF (q := (decide (2 ≤ b_0_0))) rfl hq280 rfl) ?_
                      refine mixE.pure (v := .bool false) (pu_move rfl) ?_
                      refine mixE.gskip (want_f rfl rfl (show _ = Value.bool false from rfl) rfl) ?_
                      refine mixE.gskip (want_f rfl rfl (show _ = Value.bool false from rfl) rfl) ?_
                      refine mixE.gskip (want_f rfl rfl (show _ = Value.bool false from rfl) rfl) ?_
                      refine mixE.gskip (want_f rfl rfl (show _ = Value.bool false from rfl) rfl) ?_
                      refine mixE.gskip (want_f rfl rfl (show _ = Value.bool false from rfl) rfl) ?_
                      refine mixE.gskip (want_f rfl rfl (show _ = Value.bool false from rfl) rfl) ?_
                      refine mixE.gskip (want_f rfl rfl (show _ = Value.bool false from rfl) rfl) ?_
                      refine mixE.gskip (want_f rfl rfl (show _ = Value.bool false from rfl) rfl) ?_
                      refine mixE.gskip (want_f rfl rfl (show _ = Value.bool false from rfl) rfl) ?_
                      refine mixE.gskip (want_f rfl rfl (show _ = Value.bool false from rfl) rfl) ?_
                      refine mixE.pure (v := .bool false) (pu_pickF (q := false) rfl rfl rfl) ?_
                      refine mixE.pure (v := .bool false) (pu_assign rfl) ?_
                      refine mixE.nil ?_
                      clear hS hM
                      exact hK277 _ _ ⟨false, e2, e4, e5, e6, e7, e8, e11, rfl, e13, e14, hC.sel [0, 1, 2, 3, 4, 5] (by decide), hb⟩
                  · clear hb hC
                    rintro E294 w293 ⟨v12_9, e2, e4, e5, e6, e7, e8, e11, e12, e13, e14, hC, hb⟩
                    unfold F.ref36_Apply_j9 at hb
                    refine Wc.seq fun K295 hK295 => ?_
                    refine Wc.seq fun K296 hK296 => ?_
                    refine Wc.region (by decide +kernel) ?_
                    refine lex.pure (v := .int .i64 0) (pu_assign rfl) ?_
                    refine lex.nil ?_
                    refine hK296 _ _ ?_
                    obtain ⟨o297, hl10, hb⟩ := bd hb
                    refine Wc.cut (fun E wv => ∃ (v12_10 : Bool) (v15_10 : Int), E 4 = .pointer (some ⟨g9, 0, none⟩) ∧ E 5 = .pointer (some ⟨g12, 0, none⟩) ∧ E 6 = .int .i64 0 ∧ E 7 = .slice Ab_0_1 b_0_1.length cb_0_1 ∧ E 8 = .int .i64 (b_0_1.length : Int) ∧ E 11 = .bool v11_8 ∧ E 12 = .bool v12_10 ∧ E 13 = .pointer (some ⟨g40, 0, none⟩) ∧ E 14 = .pointer (some ⟨g43, 0, none⟩) ∧ I64 v15_10 ∧ Cx (fun _ => False) O0 w wv [.box g9 32 [.int .i64 0, .slice none 0 0], .box g12 33 [.int .i64 0, .int .i64 0, .int .i64 0], .ro (.sl (.int .i64)) [.slice Ab_0_1 b_0_1.length cb_0_1] b_0_1, .box g40 32 [.int .i64 b_0_0, .slice none 0 0], .box g43 33 [.int .i64 0, .int .i64 0, .int .i64 0]] ∧ (cond v12_10 ((cut 0 (wr ((b_0_1.length : Int) - 1)) b_0_1.length).bind fun u329 => (get b_0_1 (wr ((b_0_1.length : Int) - 1))).bind fun x343 => cond (decide (x343 < 0)) (F.ref36_Apply_j2 n v11_8 v12_10 (wr (b_0_0 - 1)) ((b_0_1.drop (0 : Int).toNat).take ((wr ((b_0_1.length : Int) - 1)).toNat - (0 : Int).toNat)) 2 (-1) 0) (F.ref36_Apply_j2 n v11_8 v12_10 (wr (b_0_0 - 1)) ((b_0_1.drop (0 : Int).toNat).take ((wr ((b_0_1.length : Int) - 1)).toNat - (0 : Int).toNat)) 2 1 0)) (F.ref36_Apply_j2 n v11_8 v12_10 b_0_0 ([] : List Int) 0 0 0)) = some r) (fun K298 hK298 => ?_) ?_
                    · refine Wc.block ?_
                      refine Wc.loop (fun m E wv => ∃ (v12_10 : Bool) (v15_10 : Int), E 2 = .pointer (some ⟨g3, 0, none⟩) ∧ E 4 = .pointer (some ⟨g9, 0, none⟩) ∧ E 5 = .pointer (some ⟨g12, 0, none⟩) ∧ E 6 = .int .i64 0 ∧ E 7 = .slice Ab_0_1 b_0_1.length cb_0_1 ∧ E 8 = .int .i64 (b_0_1.length : Int) ∧ E 11 = .bool v11_8 ∧ E 12 = .bool v12_10 ∧ E 13 = .pointer (some ⟨g40, 0, none⟩) ∧ E 14 = .pointer (some ⟨g43, 0, none⟩) ∧ E 15 = .int .i64 v15_10 ∧ I64 v15_10 ∧ Cx (fun _ => False) O0 w wv [.box g3 32 [.int .i64 b_0_0, .slice Ab_0_1 b_0_1.length cb_0_1], .ro (.sl (.int .i64)) [.slice Ab_0_1 b_0_1.length cb_0_1] b_0_1, .box g9 32 [.int .i64 0, .slice none 0 0], .box g12 33 [.int .i64 0, .int .i64 0, .int .i64 0], .box g40 32 [.int .i64 b_0_0, .slice none 0 0], .box g43 33 [.int .i64 0, .int .i64 0, .int .i64 0]] ∧ loopN m (F.ref36_Apply_b10 n b_0_0 b_0_1) (v12_10, v15_10) = some o297) n ⟨v12_9, 0, e2, e4, e5, e6, e7, e8, e11, e12, e13, e14, rfl, (show I64 0 from by unfold I64; omega), hC.sel [0, 1, 2, 3, 4, 5] (by decide), hl10⟩ ?_
                      have hbK10 := hb
                      clear hb hC hl10
                      rintro m300 E302 w301 ⟨v12_10, v15_10, e2, e4, e5, e6, e7, e8, e11, e12, e13, e14, e15, hrv15_10, hC, hl10⟩ K299 hK299
                      obtain ⟨m300', o303, rfl, hb, hl10⟩ := loopN_some hl10
                      unfold F.ref36_Apply_b10 at hb
                      refine Wc.seq fun K304 hK304 => ?_
                      refine Wc.seq fun K305 hK305 => ?_
                      refine Wc.region (by decide +kernel) ?_
                      refine lex.pure (v := .int .i64 v15_10) (pu_move e15) ?_
                      refine lex.pure (v := .int .i64 (b_0_1.length : Int)) (pu_move e8) ?_
                      refine lex.pure (v := .int .i64 (wr ((b_0_1.length : Int) - 1))) (pu_subw (a := (b_0_1.length : Int)) (b := 1) rfl rfl) ?_
                      refine lex.pure (v := .bool (decide (v15_10 < (wr ((b_0_1.length : Int) - 1))))) (pu_lss (k := .i64) (a := v15_10) (b := (wr ((b_0_1.length : Int) - 1))) rfl rfl) ?_
                      refine lex.nil ?_
                      refine hK305 _ _ ?_
                      refine Wc.cond (t := (decide (v15_10 < (wr ((b_0_1.length : Int) - 1))))) (rfl) (fun hq306 => ?_) (fun hq306 => ?_)
                      · replace hb := (cT hq306).symm.trans hb
                        refine Wc.skip ?_
                        refine hK304 _ _ ?_
                        refine Wc.seq fun K307 hK307 => ?_
                        refine Wc.block ?_
                        refine Wc.regionMix [] (frm [] ([] : List Fact) ([] : List Fact)) (fun _ => rfl) mixed (by decide +kernel) (by decide +kernel) fun w309 hw308 => ?_
                        replace hC := hC.step (Fr.of_drew hw308)
                        have hM := Fr.refl (fun k => k ∈ blocks ([] : List Fact)) w309
                        clear hw308
                        have hS := hC
                        refine mixE.pure (v := .bool v12_10) (pu_move e12) ?_
                        refine mixE.pure (v := .bool v12_10) (pu_move rfl) ?_
                        rcases bS v12_10 with hq310 | hq310
                        · replace hb := (cT hq310).symm.trans hb
                          refine mixE.gpure rfl (want_t rfl rfl (show _ = Value.bool v12_10 from rfl) hq310) (v := .slice Ab_0_1 b_0_1.length cb_0_1) (pu_move e7) ?_
                          refine mixE.gpure rfl (want_t rfl rfl (show _ = Value.bool v12_10 from rfl) hq310) (v := .int .i64 v15_10) (pu_move e15) ?_
                          obtain ⟨x311, h312, hb⟩ := bd hb
                          obtain ⟨ad313, cs314, hA, ho317, hc315, hr316⟩ := hS.elr2 (i := 1) rfl (get_some h312).2 []
                          subst hA
                          refine mixE.gpure rfl (want_t rfl rfl (show _ = Value.bool v12_10 from rfl) hq310) (v := .pointer (some (ad313.add (v15_10.toNat * 1)))) (pu_index (a := v15_10) Try.underlying22 Try.sizeOf3 rfl rfl (get_some h312).1) ?_
                          obtain ⟨rfl, hr316'⟩ := hr316
                          refine mixE.gload rfl (want_t rfl rfl (show _ = Value.bool v12_10 from rfl) hq310) hM (v := .int .i64 x311) (fun _ hF => ld_one Try.isAgg3 rfl (hF.cell (hc315 0 _ rfl) (off1 ho317))) ?_
                          obtain ⟨y318, h319, hb⟩ := bd hb
                          refine mixE.gcl rfl (want_t rfl rfl (show _ = Value.bool v12_10 from rfl) hq310) hM (⟨_, _, op_call (vs := [.int .i64 x311]) Try.call34 rfl rfl rfl, ref33_Abs_ok n hC.lt (wrap_I64 hr316') h319⟩) ?_
                          rintro _ w321 ⟨rfl, hr320, hK⟩
                          replace hM := hM.none hK.fr
                          refine ⟨hM, ?_⟩
                          replace hC := hC.merge hK
                          clear hK
                          refine mixE.gpure rfl (want_t rfl rfl (show _ = Value.bool v12_10 from rfl) hq310) (v := .pointer (some ((⟨g3, 0, none⟩ : Addr).add 0))) (pu_field (sz := 1) Try.underlying32 rfl Try.sizeOf3 (by decide) rfl e2) ?_
                          refine mixE.gload rfl (want_t rfl rfl (show _ = Value.bool v12_10 from rfl) hq310) hM (v := .int .i64 b_0_0) (fun _ hF => ld_fld (hS.bx2 (i := 0) rfl [] (by decide) hF) Try.isAgg3 rfl rfl) ?_
                          refine mixE.gpure rfl (want_t rfl rfl (show _ = Value.bool v12_10 from rfl) hq310) (v := .int .i64 (wr (b_0_0 - 1))) (pu_subw (a := b_0_0) (b := 1) rfl rfl) ?_
                          refine mixE.gpure rfl (want_t rfl rfl (show _ = Value.bool v12_10 from rfl) hq310) (v := .bool (!(decide (y318 = (wr (b_0_0 - 1)))))) (pu_neq (k := .i64) (a := y318) (b := (wr (b_0_0 - 1))) rfl rfl) ?_
                          refine mixE.pure (v := .bool (!(decide (y318 = (wr (b_0_0 - 1)))))) (pu_pickT (q := v12_10) rfl hq310 rfl) ?_
                          refine mixE.pure (v := .bool (!(decide (y318 = (wr (b_0_0 - 1)))))) (pu_assign rfl) ?_
                          refine mixE.nil ?_
                          clear hS hM
                          refine hK307 _ _ ?_
                          refine Wc.region (by decide +kernel) ?_
                          refine lex.pure (v := .int .i64 v15_10) (pu_move e15) ?_
                          refine lex.pure (v := .int .i64 (wr (v15_10 + 1))) (pu_addw (a := v15_10) (b := 1) rfl rfl) ?_
                          refine lex.pure (v := .int .i64 (wr (v15_10 + 1))) (pu_assign rfl) ?_
                          refine lex.nil ?_
                          obtain rfl := Option.some.inj hb
                          exact hK299 m300' _ _ (Nat.lt_succ_self _) ⟨(!(decide (y318 = (wr (b_0_0 - 1))))), (wr (v15_10 + 1)), e2, e4, e5, e6, e7, e8, e11, rfl, e13, e14, rfl, (I64_wr _), hC.sel [0, 1, 2, 3, 4, 5] (by decide), lN hl10⟩
                        · replace hb := (cF hq310).symm.trans hb
                          refine mixE.gskip (want_f rfl rfl (show _ = Value.bool v12_10 from rfl) hq310) ?_
                          refine mixE.gskip (want_f rfl rfl (show _ = Value.bool v12_10 from rfl) hq310) ?_
                          refine mixE.gskip (want_f rfl rfl (show _ = Value.bool v12_10 from rfl) hq310) ?_
                          refine mixE.gskip (want_f rfl rfl (show _ = Value.bool v12_10 from rfl) hq310) ?_
                          refine mixE.gskip (want_f rfl rfl (show _ = Value.bool v12_10 from rfl) hq310) ?_
                          refine mixE.gskip (want_f rfl rfl (show _ = Value.bool v12_10 from rfl) hq310) ?_
                          refine mixE.gskip (want_f rfl rfl (show _ = Value.bool v12_10 from rfl) hq310) ?_
                          refine mixE.gskip (want_f rfl rfl (show _ = Value.bool v12_10 from rfl) hq310) ?_
                          refine mixE.gskip (want_f rfl rfl (show _ = Value.bool v12_10 from rfl) hq310) ?_
                          refine mixE.pure (v := .bool false) (pu_pickF (q := v12_10) rfl hq310 rfl) ?_
                          refine mixE.pure (v := .bool false) (pu_assign rfl) ?_
                          refine mixE.nil ?_
                          clear hS hM
                          refine hK307 _ _ ?_
                          refine Wc.region (by decide +kernel) ?_
                          refine lex.pure (v := .int .i64 v15_10) (pu_move e15) ?_
                          refine lex.pure (v := .int .i64 (wr (v15_10 + 1))) (pu_addw (a := v15_10) (b := 1) rfl rfl) ?_
                          refine lex.pure (v := .int .i64 (wr (v15_10 + 1))) (pu_assign rfl) ?_
                          refine lex.nil ?_
                          obtain rfl := Option.some.inj hb
                          exact hK299 m300' _ _ (Nat.lt_succ_self _) ⟨false, (wr (v15_10 + 1)), e2, e4, e5, e6, e7, e8, e11, rfl, e13, e14, rfl, (I64_wr _), hC.sel [0, 1, 2, 3, 4, 5] (by decide), lN hl10⟩
                      · replace hb := (cF hq306).symm.trans hb
                        refine Wc.exit rfl ?_
                        obtain rfl := Option.some.inj hb
                        obtain rfl := (lX hl10).symm
                        exact hK298 _ _ ⟨v12_10, v15_10, e4, e5, e6, e7, e8, e11, e12, e13, e14, hrv15_10, hC.sel [2, 3, 1, 4, 5] (by decide), hbK10⟩
                    · clear hb hC hl10
                      rintro E323 w322 ⟨v12_10, v15_10, e4, e5, e6, e7, e8, e11, e12, e13, e14, hrv15_10, hC, hb⟩
                      refine hK295 _ _ ?_
                      refine Wc.seq fun K324 hK324 => ?_
                      refine Wc.region (by decide +kernel) ?_
                      refine lex.pure (v := .bool v12_10) (pu_move e12) ?_
                      refine lex.nil ?_
                      refine hK324 _ _ ?_
                      refine Wc.cond (t := v12_10) (rfl) (fun hq325 => ?_) (fun hq325 => ?_)
                      · replace hb := (cT hq325).symm.trans hb
                        refine Wc.seq fun K326 hK326 => ?_
                        refine Wc.region (by decide +kernel) ?_
                        refine lex.pure (v := .pointer (some ((⟨g40, 0, none⟩ : Addr).add 0))) (pu_field (sz := 1) Try.underlying32 rfl Try.sizeOf3 (by decide) rfl e13) ?_
                        refine lex.val (v := .int .i64 b_0_0) (ld_fld (hC.bx (i := 3) rfl) Try.isAgg3 rfl rfl) ?_
                        refine lex.pure (v := .int .i64 (wr (b_0_0 - 1))) (pu_subw (a := b_0_0) (b := 1) rfl rfl) ?_
                        refine lex.pure (v := .pointer (some ((⟨g40, 0, none⟩ : Addr).add 0))) (pu_field (sz := 1) Try.underlying32 rfl Try.sizeOf3 (by decide) rfl e13) ?_
                        refine lex.sk (hC.setf (i := 3) (k := 0) (v := .int .i64 (wr (b_0_0 - 1))) rfl Try.sizeOf3 rfl rfl rfl rfl) ?_
                        rintro w327 ⟨hC, hF⟩
                        refine lex.nil ?_
                        refine hK326 _ _ ?_
                        refine Wc.seq fun K328 hK328 => ?_
                        refine Wc.region (by decide +kernel) ?_
                        refine lex.pure (v := .slice Ab_0_1 b_0_1.length cb_0_1) (pu_move e7) ?_
                        refine lex.pure (v := .int .i64 (b_0_1.length : Int)) (pu_move e8) ?_
                        refine lex.pure (v := .int .i64 (wr ((b_0_1.length : Int) - 1))) (pu_subw (a := (b_0_1.length : Int)) (b := 1) rfl rfl) ?_
                        obtain ⟨u329, h330, hb⟩ := bd hb
                        obtain ⟨A331, c332, hp335, hR336⟩ := pu_part_h (b := (wr ((b_0_1.length : Int) - 1))) Try.underlying22 Try.sizeOf3 (hC.rd (i := 2) rfl) rfl (cut_some h330)
                        refine lex.pure (v := .slice A331 (((b_0_1.drop (0 : Int).toNat).take ((wr ((b_0_1.length : Int) - 1)).toNat - (0 : Int).toNat)).length) c332) (hp335 rfl  rfl) ?_
                        replace hC := hC.ro hR336
                        obtain ⟨-, hl333, hc334⟩ := (hC.rd (i := 0) rfl).sl_len
                        refine lex.pure (v := .pointer (some ((⟨g40, 0, none⟩ : Addr).add 1))) (pu_field (sz := 1) Try.underlying32 rfl Try.sizeOf22 (by decide) rfl e13) ?_
                        refine lex.sk (hC.setf (i := 4) (k := 1) (v := .slice A331 (((b_0_1.drop (0 : Int).toNat).take ((wr ((b_0_1.length : Int) - 1)).toNat - (0 : Int).toNat)).length) c332) rfl Try.sizeOf22 rfl rfl rfl rfl) ?_
                        rintro w338 ⟨hC, hF⟩
                        refine lex.nil ?_
                        refine hK328 _ _ ?_
                        refine Wc.fresh fun E339 hE => ?_
                        have e4 : E339 4 = .pointer (some ⟨g9, 0, none⟩) := (congrFun hE 4).trans e4
                        have e5 : E339 5 = .pointer (some ⟨g12, 0, none⟩) := (congrFun hE 5).trans e5
                        have e6 : E339 6 = .int .i64 0 := (congrFun hE 6).trans e6
                        have e7 : E339 7 = .slice Ab_0_1 b_0_1.length cb_0_1 := (congrFun hE 7).trans e7
                        have e8 : E339 8 = .int .i64 (b_0_1.length : Int) := (congrFun hE 8).trans e8
                        have e11 : E339 11 = .bool v11_8 := (congrFun hE 11).trans e11
                        have e12 : E339 12 = .bool v12_10 := (congrFun hE 12).trans e12
                        have e13 : E339 13 = .pointer (some ⟨g40, 0, none⟩) := (congrFun hE 13).trans e13
                        have e14 : E339 14 = .pointer (some ⟨g43, 0, none⟩) := (congrFun hE 14).trans e14
                        clear hE
                        refine Wc.seq fun K340 hK340 => ?_
                        refine Wc.region (by decide +kernel) ?_
                        refine lex.pure (v := .agg #[.int .i64 2, .int .i64 1, .int .i64 0]) (pu_builds (places := [(0, 1), (1, 1), (2, 1)]) (pv := [(0, .int .i64 2), (1, .int .i64 1)]) Try.type33 Try.underlying33 rfl (mp_cons Try.type3 (mp_cons Try.type3 (mp_cons Try.type3 mp_nil rfl rfl) rfl rfl) rfl rfl) rfl (by simp [Instr.fill, Value.cells])) ?_
                        refine lex.sk (hC.seta (i := 5) (ds := [.int .i64 2, .int .i64 1, .int .i64 0]) rfl Try.type33 rfl rfl rfl e14 rfl) ?_
                        rintro w341 ⟨hC, hF⟩
                        refine lex.nil ?_
                        refine hK340 _ _ ?_
                        refine Wc.seq fun K342 hK342 => ?_
                        refine Wc.region (by decide +kernel) ?_
                        refine lex.pure (v := .slice Ab_0_1 b_0_1.length cb_0_1) (pu_move e7) ?_
                        refine lex.pure (v := .int .i64 (b_0_1.length : Int)) (pu_move e8) ?_
                        refine lex.pure (v := .int .i64 (wr ((b_0_1.length : Int) - 1))) (pu_subw (a := (b_0_1.length : Int)) (b := 1) rfl rfl) ?_
                        obtain ⟨x343, h344, hb⟩ := bd hb
                        obtain ⟨ad345, cs346, hA, hc347, hr348⟩ := hC.elr (i := 3) rfl (get_some h344).2
                        subst hA
                        refine lex.pure (v := .pointer (some (ad345.add ((wr ((b_0_1.length : Int) - 1)).toNat * 1)))) (pu_index (a := (wr ((b_0_1.length : Int) - 1))) Try.underlying22 Try.sizeOf3 rfl rfl (get_some h344).1) ?_
                        obtain ⟨rfl, hr348'⟩ := hr348
                        refine lex.val (v := .int .i64 x343) (ld_one Try.isAgg3 rfl (hc347 0 _ rfl)) ?_
                        refine lex.pure (v := .bool (decide (x343 < 0))) (pu_lss (k := .i64) (a := x343) (b := 0) rfl rfl) ?_
                        refine lex.nil ?_
                        refine hK342 _ _ ?_
                        refine Wc.cond (t := (decide (x343 < 0))) (rfl) (fun hq349 => ?_) (fun hq349 => ?_)
                        · replace hb := (cT hq349).symm.trans hb
                          refine Wc.region (by decide +kernel) ?_
                          refine lex.pure (v := .pointer (some ((⟨g43, 0, none⟩ : Addr).add 1))) (pu_field (sz := 1) Try.underlying33 rfl Try.sizeOf3 (by decide) rfl e14) ?_
                          refine lex.sk (hC.setf (i := 5) (k := 1) (v := .int .i64 (-1)) rfl Try.sizeOf3 rfl rfl rfl rfl) ?_
                          rintro w350 ⟨hC, hF⟩
                          refine lex.nil ?_
                          exact hK48 _ _ ⟨v11_8, v12_10, (wr (b_0_0 - 1)), ((b_0_1.drop (0 : Int).toNat).take ((wr ((b_0_1.length : Int) - 1)).toNat - (0 : Int).toNat)), 2, (-1), 0, A331, ((b_0_1.drop (0 : Int).toNat).take ((wr ((b_0_1.length : Int) - 1)).toNat - (0 : Int).toNat)).length, c332, e4, e5, e6, e11, e12, e13, e14, (I64_wr _), (show I64 2 from by unfold I64; omega), (show I64 (-1) from by unfold I64; omega), (show I64 0 from by unfold I64; omega), hC.sel [1, 2, 4, 0, 5] (by decide), hb⟩
                        · replace hb := (cF hq349).symm.trans hb
                          refine Wc.skip ?_
                          exact hK48 _ _ ⟨v11_8, v12_10, (wr (b_0_0 - 1)), ((b_0_1.drop (0 : Int).toNat).take ((wr ((b_0_1.length : Int) - 1)).toNat - (0 : Int).toNat)), 2, 1, 0, A331, ((b_0_1.drop (0 : Int).toNat).take ((wr ((b_0_1.length : Int) - 1)).toNat - (0 : Int).toNat)).length, c332, e4, e5, e6, e11, e12, e13, e14, (I64_wr _), (show I64 2 from by unfold I64; omega), (show I64 1 from by unfold I64; omega), (show I64 0 from by unfold I64; omega), hC.sel [1, 2, 4, 0, 5] (by decide), hb⟩
                      · replace hb := (cF hq325).symm.trans hb
                        refine Wc.skip ?_
                        replace hC := hC.ro (show Rep _ _ (.sl (.int .i64)) [.slice none 0 0] [] from ⟨none, 0, rfl, Nat.le_refl _, by omega, fun h => absurd h (by simp)⟩)
                        exact hK48 _ _ ⟨v11_8, v12_10, b_0_0, ([] : List Int), 0, 0, 0, none, 0, 0, e4, e5, e6, e11, e12, e13, e14, hb_0_0, (show I64 0 from by unfold I64; omega), (show I64 0 from by unfold I64; omega), (show I64 0 from by unfold I64; omega), hC.sel [1, 2, 4, 0, 5] (by decide), hb⟩
              · replace hb := (cF hq272).symm.trans hb
                refine Wc.seq fun K352 hK352 => ?_
                refine Wc.region (by decide +kernel) ?_
                refine lex.pure (v := .bool (decide (s_1_0 = 4))) (pu_eql (k := .i64) (a := s_1_0) (b := 4) e65 rfl) ?_
                refine lex.pure (v := .bool (decide (s_1_0 = 4))) (pu_assign rfl) ?_
                refine lex.nil ?_
                refine hK352 _ _ ?_
                refine Wc.cond (t := (decide (s_1_0 = 4))) (rfl) (fun hq353 => ?_) (fun hq353 => ?_)
                · replace hb := (cT hq353).symm.trans hb
                  refine Wc.seqJ (fun E wv => ∃ (v11_11 : Bool), E 3 = .pointer (some ⟨g6, 0, none⟩) ∧ E 4 = .pointer (some ⟨g9, 0, none⟩) ∧ E 5 = .pointer (some ⟨g12, 0, none⟩) ∧ E 6 = .int .i64 0 ∧ E 7 = .slice Ab_0_1 b_0_1.length cb_0_1 ∧ E 8 = .int .i64 (b_0_1.length : Int) ∧ E 11 = .bool v11_11 ∧ E 12 = .bool true ∧ E 13 = .pointer (some ⟨g40, 0, none⟩) ∧ E 14 = .pointer (some ⟨g43, 0, none⟩) ∧ Cx (fun _ => False) O0 w wv [.box g6 33 [.int .i64 s_1_0, .int .i64 s_1_1, .int .i64 s_1_2], .box g9 32 [.int .i64 0, .slice none 0 0], .box g12 33 [.int .i64 0, .int .i64 0, .int .i64 0], .ro (.sl (.int .i64)) [.slice Ab_0_1 b_0_1.length cb_0_1] b_0_1, .box g40 32 [.int .i64 b_0_0, .slice none 0 0], .box g43 33 [.int .i64 0, .int .i64 0, .int .i64 0]] ∧ F.ref36_Apply_j11 n b_0_0 b_0_1 s_1_0 s_1_1 s_1_2 v11_11 = some r) (fun K354 hK354 => ?_) ?_
                  ·
                    skip
                    refine Wc.region (by decide +kernel) ?_
                    refine lex.pure (v := .pointer (some ((⟨g6, 0, none⟩ : Addr).add 1))) (pu_field (sz := 1) Try.underlying33 rfl Try.sizeOf3 (by decide) rfl e3) ?_
                    refine lex.val (v := .int .i64 s_1_1) (ld_fld (hC.bx (i := 4) rfl) Try.isAgg3 rfl rfl) ?_
                    refine lex.pure (v := .bool (decide (s_1_1 = 0))) (pu_eql (k := .i64) (a := s_1_1) (b := 0) rfl rfl) ?_
                    refine lex.pure (v := .bool (decide (s_1_1 = 0))) (pu_move rfl) ?_
                    rcases bS (decide (s_1_1 = 0)) with hq355 | hq355
                    · replace hb := (cT hq355).symm.trans hb
                      refine lex.gpure (want_t rfl rfl (show _ = Value.bool (decide (s_1_1 = 0)) from rfl) hq355) (v := .bool v10_1) (pu_move e10) ?_
                      refine lex.pure (v := .bool v10_1) (pu_pickT (q := (decide (s_1_1 = 0))) rfl hq355 rfl) ?_
                      refine lex.pure (v := .bool v10_1) (pu_assign rfl) ?_
                      refine lex.nil ?_
                      exact hK354 _ _ ⟨v10_1, e3, e4, e5, e6, e7, e8, rfl, e12, e13, e14, hC.sel [4, 5, 6, 3, 1, 0] (by decide), hb⟩
                    · replace hb := (cF hq355).symm.trans hb
                      refine lex.gskip (want_f rfl rfl (show _ = Value.bool (decide (s_1_1 = 0)) from rfl) hq355) ?_
                      refine lex.pure (v := .bool false) (pu_pickF (q := (decide (s_1_1 = 0))) rfl hq355 rfl) ?_
                      refine lex.pure (v := .bool false) (pu_assign rfl) ?_
                      refine lex.nil ?_
                      exact hK354 _ _ ⟨false, e3, e4, e5, e6, e7, e8, rfl, e12, e13, e14, hC.sel [4, 5, 6, 3, 1, 0] (by decide), hb⟩
                  · clear hb hC
                    rintro E357 w356 ⟨v11_11, e3, e4, e5, e6, e7, e8, e11, e12, e13, e14, hC, hb⟩
                    unfold F.ref36_Apply_j11 at hb
                    refine Wc.seqJ (fun E wv => ∃ (v12_12 : Bool), E 3 = .pointer (some ⟨g6, 0, none⟩) ∧ E 4 = .pointer (some ⟨g9, 0, none⟩) ∧ E 5 = .pointer (some ⟨g12, 0, none⟩) ∧ E 6 = .int .i64 0 ∧ E 7 = .slice Ab_0_1 b_0_1.length cb_0_1 ∧ E 11 = .bool v11_11 ∧ E 12 = .bool v12_12 ∧ E 13 = .pointer (some ⟨g40, 0, none⟩) ∧ E 14 = .pointer (some ⟨g43, 0, none⟩) ∧ Cx (fun _ => False) O0 w wv [.box g6 33 [.int .i64 s_1_0, .int .i64 s_1_1, .int .i64 s_1_2], .box g9 32 [.int .i64 0, .slice none 0 0], .box g12 33 [.int .i64 0, .int .i64 0, .int .i64 0], .ro (.sl (.int .i64)) [.slice Ab_0_1 b_0_1.length cb_0_1] b_0_1, .box g40 32 [.int .i64 b_0_0, .slice none 0 0], .box g43 33 [.int .i64 0, .int .i64 0, .int .i64 0]] ∧ F.ref36_Apply_j12 n b_0_0 b_0_1 s_1_0 s_1_1 s_1_2 v11_11 v12_12 = some r) (fun K358 hK358 => ?_) ?_
                    ·
                      skip
                      refine Wc.region (by decide +kernel) ?_
                      refine lex.pure (v := .bool v11_11) (pu_move e11) ?_
                      refine lex.pure (v := .bool v11_11) (pu_move rfl) ?_
                      rcases bS v11_11 with hq359 | hq359
                      · replace hb := (cT hq359).symm.trans hb
                        refine lex.gpure (want_t rfl rfl (show _ = Value.bool v11_11 from rfl) hq359) (v := .pointer (some ((⟨g6, 0, none⟩ : Addr).add 2))) (pu_field (sz := 1) Try.underlying33 rfl Try.sizeOf3 (by decide) rfl e3) ?_
                        refine lex.gval (want_t rfl rfl (show _ = Value.bool v11_11 from rfl) hq359) (v := .int .i64 s_1_2) (ld_fld (hC.bx (i := 0) rfl) Try.isAgg3 rfl rfl) ?_
                        refine lex.gpure (want_t rfl rfl (show _ = Value.bool v11_11 from rfl) hq359) (v := .int .i64 (wr (s_1_2 + 1))) (pu_addw (a := s_1_2) (b := 1) rfl rfl) ?_
                        refine lex.gpure (want_t rfl rfl (show _ = Value.bool v11_11 from rfl) hq359) (v := .int .i64 (b_0_1.length : Int)) (pu_move e8) ?_
                        refine lex.gpure (want_t rfl rfl (show _ = Value.bool v11_11 from rfl) hq359) (v := .bool (decide ((wr (s_1_2 + 1)) < (b_0_1.length : Int)))) (pu_lss (k := .i64) (a := (wr (s_1_2 + 1))) (b := (b_0_1.length : Int)) rfl rfl) ?_
                        refine lex.pure (v := .bool (decide ((wr (s_1_2 + 1)) < (b_0_1.length : Int)))) (pu_pickT (q := v11_11) rfl hq359 rfl) ?_
                        refine lex.pure (v := .bool (decide ((wr (s_1_2 + 1)) < (b_0_1.length : Int)))) (pu_assign rfl) ?_
                        refine lex.nil ?_
                        exact hK358 _ _ ⟨(decide ((wr (s_1_2 + 1)) < (b_0_1.length : Int))), e3, e4, e5, e6, e7, e11, rfl, e13, e14, hC.sel [0, 1, 2, 3, 4, 5] (by decide), hb⟩
                      · replace hb := (cF hq359).symm.trans hb
                        refine lex.gskip (want_f rfl rfl (show _ = Value.bool v11_11 from rfl) hq359) ?_
                        refine lex.gskip (want_f rfl rfl (show _ = Value.bool v11_11 from rfl) hq359) ?_
                        refine lex.gskip (want_f rfl rfl (show _ = Value.bool v11_11 from rfl) hq359) ?_
                        refine lex.gskip (want_f rfl rfl (show _ = Value.bool v11_11 from rfl) hq359) ?_
                        refine lex.gskip (want_f rfl rfl (show _ = Value.bool v11_11 from rfl) hq359) ?_
                        refine lex.pure (v := .bool false) (pu_pickF (q := v11_11) rfl hq359 rfl) ?_
                        refine lex.pure (v := .bool false) (pu_assign rfl) ?_
                        refine lex.nil ?_
                        exact hK358 _ _ ⟨false, e3, e4, e5, e6, e7, e11, rfl, e13, e14, hC.sel [0, 1, 2, 3, 4, 5] (by decide), hb⟩
                    · clear hb hC
                      rintro E361 w360 ⟨v12_12, e3, e4, e5, e6, e7, e11, e12, e13, e14, hC, hb⟩
                      unfold F.ref36_Apply_j12 at hb
                      refine Wc.seq fun K362 hK362 => ?_
                      refine Wc.seq fun K363 hK363 => ?_
                      refine Wc.region (by decide +kernel) ?_
                      refine lex.pure (v := .bool v12_12) (pu_move e12) ?_
                      refine lex.nil ?_
                      refine hK363 _ _ ?_
                      refine Wc.cond (t := v12_12) (rfl) (fun hq364 => ?_) (fun hq364 => ?_)
                      · replace hb := (cT hq364).symm.trans hb
                        refine Wc.seq fun K365 hK365 => ?_
                        refine Wc.regionMix [] (frm [] ([] : List Fact) ([] : List Fact)) (fun _ => rfl) mixed (by decide +kernel) (by decide +kernel) fun w367 hw366 => ?_
                        replace hC := hC.step (Fr.of_drew hw366)
                        have hM := Fr.refl (fun k => k ∈ blocks ([] : List Fact)) w367
                        clear hw366
                        have hS := hC
                        refine mixE.pure (v := .slice Ab_0_1 b_0_1.length cb_0_1) (pu_move e7) ?_
                        refine mixE.pure (v := .pointer (some ((⟨g6, 0, none⟩ : Addr).add 2))) (pu_field (sz := 1) Try.underlying33 rfl Try.sizeOf3 (by decide) rfl e3) ?_
                        refine mixE.load hM (v := .int .i64 s_1_2) (fun _ hF => ld_fld (hS.bx2 (i := 0) rfl [] (by decide) hF) Try.isAgg3 rfl rfl) ?_
                        obtain ⟨x368, h369, hb⟩ := bd hb
                        obtain ⟨ad370, cs371, hA, ho374, hc372, hr373⟩ := hS.elr2 (i := 3) rfl (get_some h369).2 []
                        subst hA
                        refine mixE.pure (v := .pointer (some (ad370.add (s_1_2.toNat * 1)))) (pu_index (a := s_1_2) Try.underlying22 Try.sizeOf3 rfl rfl (get_some h369).1) ?_
                        obtain ⟨rfl, hr373'⟩ := hr373
                        refine mixE.load hM (v := .int .i64 x368) (fun _ hF => ld_one Try.isAgg3 rfl (hF.cell (hc372 0 _ rfl) (off1 ho374))) ?_
                        obtain ⟨y375, h376, hb⟩ := bd hb
                        refine mixE.cl hM (⟨_, _, op_call (vs := [.int .i64 x368]) Try.call34 rfl rfl rfl, ref33_Abs_ok n hC.lt (wrap_I64 hr373') h376⟩) ?_
                        rintro _ w378 ⟨rfl, hr377, hK⟩
                        replace hM := hM.none hK.fr
                        refine ⟨hM, ?_⟩
                        replace hC := hC.merge hK
                        clear hK
                        refine mixE.pure (v := .slice (some ad370) b_0_1.length cb_0_1) (pu_move e7) ?_
                        refine mixE.pure (v := .pointer (some ((⟨g6, 0, none⟩ : Addr).add 2))) (pu_field (sz := 1) Try.underlying33 rfl Try.sizeOf3 (by decide) rfl e3) ?_
                        refine mixE.load hM (v := .int .i64 s_1_2) (fun _ hF => ld_fld (hS.bx2 (i := 0) rfl [] (by decide) hF) Try.isAgg3 rfl rfl) ?_
                        refine mixE.pure (v := .int .i64 (wr (s_1_2 + 1))) (pu_addw (a := s_1_2) (b := 1) rfl rfl) ?_
                        obtain ⟨x379, h380, hb⟩ := bd hb
                        obtain ⟨ad381, cs382, hA, ho385, hc383, hr384⟩ := hS.elr2 (i := 3) rfl (get_some h380).2 []
                        obtain rfl := Option.some.inj hA
                        refine mixE.pure (v := .pointer (some (ad370.add ((wr (s_1_2 + 1)).toNat * 1)))) (pu_index (a := (wr (s_1_2 + 1))) Try.underlying22 Try.sizeOf3 rfl rfl (get_some h380).1) ?_
                        obtain ⟨rfl, hr384'⟩ := hr384
                        refine mixE.load hM (v := .int .i64 x379) (fun _ hF => ld_one Try.isAgg3 rfl (hF.cell (hc383 0 _ rfl) (off1 ho385))) ?_
                        obtain ⟨y386, h387, hb⟩ := bd hb
                        refine mixE.cl hM (⟨_, _, op_call (vs := [.int .i64 x379]) Try.call34 rfl rfl rfl, ref33_Abs_ok n hC.lt (wrap_I64 hr384') h387⟩) ?_
                        rintro _ w389 ⟨rfl, hr388, hK⟩
                        replace hM := hM.none hK.fr
                        refine ⟨hM, ?_⟩
                        replace hC := hC.merge hK
                        clear hK
                        refine mixE.pure (v := .int .i64 (wr (y375 - y386))) (pu_subw (a := y375) (b := y386) rfl rfl) ?_
                        refine mixE.pure (v := .int .i64 (wr (y375 - y386))) (pu_assign rfl) ?_
                        refine mixE.nil ?_
                        clear hS hM
                        refine hK365 _ _ ?_
                        refine Wc.fresh fun E390 hE => ?_
                        have e3 : E390 3 = .pointer (some ⟨g6, 0, none⟩) := (congrFun hE 3).trans e3
                        have e4 : E390 4 = .pointer (some ⟨g9, 0, none⟩) := (congrFun hE 4).trans e4
                        have e5 : E390 5 = .pointer (some ⟨g12, 0, none⟩) := (congrFun hE 5).trans e5
                        have e6 : E390 6 = .int .i64 0 := (congrFun hE 6).trans e6
                        have e7 : E390 7 = .slice (some ad370) b_0_1.length cb_0_1 := (congrFun hE 7).trans e7
                        have e11 : E390 11 = .bool v11_11 := (congrFun hE 11).trans e11
                        have e12 : E390 12 = .bool v12_12 := (congrFun hE 12).trans e12
                        have e13 : E390 13 = .pointer (some ⟨g40, 0, none⟩) := (congrFun hE 13).trans e13
                        have e14 : E390 14 = .pointer (some ⟨g43, 0, none⟩) := (congrFun hE 14).trans e14
                        have e16 : E390 16 = .int .i64 (wr (y375 - y386)) := (congrFun hE 16).trans rfl
                        clear hE
                        refine Wc.seqJ (fun E wv => ∃ (v12_13 : Bool), E 3 = .pointer (some ⟨g6, 0, none⟩) ∧ E 4 = .pointer (some ⟨g9, 0, none⟩) ∧ E 5 = .pointer (some ⟨g12, 0, none⟩) ∧ E 6 = .int .i64 0 ∧ E 7 = .slice (some ad370) b_0_1.length cb_0_1 ∧ E 11 = .bool v11_11 ∧ E 12 = .bool v12_13 ∧ E 13 = .pointer (some ⟨g40, 0, none⟩) ∧ E 14 = .pointer (some ⟨g43, 0, none⟩) ∧ Cx (fun _ => False) O0 w wv [.box g6 33 [.int .i64 s_1_0, .int .i64 s_1_1, .int .i64 s_1_2], .box g9 32 [.int .i64 0, .slice none 0 0], .box g12 33 [.int .i64 0, .int .i64 0, .int .i64 0], .ro (.sl (.int .i64)) [.slice (some ad370) b_0_1.length cb_0_1] b_0_1, .box g40 32 [.int .i64 b_0_0, .slice none 0 0], .box g43 33 [.int .i64 0, .int .i64 0, .int .i64 0]] ∧ F.ref36_Apply_j13 n b_0_0 b_0_1 s_1_0 s_1_1 s_1_2 v11_11 v12_13 = some r) (fun K391 hK391 => ?_) ?_
                        ·
                          skip
                          refine Wc.region (by decide +kernel) ?_
                          refine lex.pure (v := .int .i64 (wr (y375 - y386))) (pu_move e16) ?_
                          refine lex.pure (v := .bool (decide (2 ≤ (wr (y375 - y386))))) (pu_geq (k := .i64) (a := (wr (y375 - y386))) (b := 2) rfl rfl) ?_
                          refine lex.pure (v := .bool (decide (2 ≤ (wr (y375 - y386))))) (pu_move rfl) ?_
                          rcases bS (decide (2 ≤ (wr (y375 - y386)))) with hq392 | hq392
                          · replace hb := (cT hq392).symm.trans hb
                            refine lex.gskip (want_f rfl rfl (show _ = Value.bool (decide (2 ≤ (wr (y375 - y386)))) from rfl) hq392) ?_
                            refine lex.gskip (want_f rfl rfl (show _ = Value.bool (decide (2 ≤ (wr (y375 - y386)))) from rfl) hq392) ?_
                            refine lex.pure (v := .bool true) (pu_pickT (q := (decide (2 ≤ (wr (y375 - y386))))) rfl hq392 rfl) ?_
                            refine lex.pure (v := .bool true) (pu_assign rfl) ?_
                            refine lex.nil ?_
                            exact hK391 _ _ ⟨true, e3, e4, e5, e6, e7, e11, rfl, e13, e14, hC.sel [0, 1, 2, 3, 4, 5] (by decide), hb⟩
                          · replace hb := (cF hq392).symm.trans hb
                            refine lex.gpure (want_t rfl rfl (show _ = Value.bool (decide (2 ≤ (wr (y375 - y386)))) from rfl) hq392) (v := .int .i64 (wr (y375 - y386))) (pu_move e16) ?_
                            refine lex.gpure (want_t rfl rfl (show _ = Value.bool (decide (2 ≤ (wr (y375 - y386)))) from rfl) hq392) (v := .bool (decide ((wr (y375 - y386)) ≤ (-2)))) (pu_leq (k := .i64) (a := (wr (y375 - y386))) (b := (-2)) rfl rfl) ?_
                            refine lex.pure (v := .bool (decide ((wr (y375 - y386)) ≤ (-2)))) (pu_pickF (q := (decide (2 ≤ (wr (y375 - y386))))) rfl hq392 rfl) ?_
                            refine lex.pure (v := .bool (decide ((wr (y375 - y386)) ≤ (-2)))) (pu_assign rfl) ?_
                            refine lex.nil ?_
                            exact hK391 _ _ ⟨(decide ((wr (y375 - y386)) ≤ (-2))), e3, e4, e5, e6, e7, e11, rfl, e13, e14, hC.sel [0, 1, 2, 3, 4, 5] (by decide), hb⟩
                        · clear hb hC
                          rintro E394 w393 ⟨v12_13, e3, e4, e5, e6, e7, e11, e12, e13, e14, hC, hb⟩
                          unfold F.ref36_Apply_j13 at hb
                          refine Wc.regionMix [268, 271, 274, 277, 279] (frm [268, 271, 274, 277, 279] ([] : List Fact) [.box g40 32 [.int .i64 b_0_0, .slice none 0 0]]) (fun _ => rfl) mixed (by decide +kernel) (by decide +kernel) fun w396 hw395 => ?_
                          replace hC := hC.step (Fr.of_drew hw395)
                          have hM := Fr.refl (fun k => k ∈ blocks ([] : List Fact)) w396
                          clear hw395
                          have hS := hC
                          have hD : Fr (fun k => k ∈ blocks (([] : List Fact) ++ [.box g40 32 [.int .i64 b_0_0, .slice none 0 0]])) w396 w396 := hM.wide
                          have hUf42 : g40 < w396.heap.size → g40 ∈ blocks (([] : List Fact) ++ [.box g40 32 [.int .i64 b_0_0, .slice none 0 0]]) := fun _ => box_in (i := 0) rfl
                          refine mixE.pure (v := .slice (some ad370) b_0_1.length cb_0_1) (pu_move e7) ?_
                          refine mixE.pure (v := .pointer (some ((⟨g6, 0, none⟩ : Addr).add 2))) (pu_field (sz := 1) Try.underlying33 rfl Try.sizeOf3 (by decide) rfl e3) ?_
                          refine mixE.steady hD (v := .int .i64 s_1_2) (fun _ hF => ld_fld (hS.bx2 (i := 0) rfl [4] (by decide) hF) Try.isAgg3 rfl rfl) ?_
                          refine mixE.pure (v := .slice (some ad370) b_0_1.length cb_0_1) (pu_move e7) ?_
                          refine mixE.pure (v := .pointer (some ((⟨g6, 0, none⟩ : Addr).add 2))) (pu_field (sz := 1) Try.underlying33 rfl Try.sizeOf3 (by decide) rfl e3) ?_
                          refine mixE.steady hD (v := .int .i64 s_1_2) (fun _ hF => ld_fld (hS.bx2 (i := 0) rfl [4] (by decide) hF) Try.isAgg3 rfl rfl) ?_
                          refine mixE.pure (v := .int .i64 (wr (s_1_2 + 1))) (pu_addw (a := s_1_2) (b := 1) rfl rfl) ?_
                          obtain ⟨x397, h398, hb⟩ := bd hb
                          obtain ⟨ad399, cs400, hA, ho403, hc401, hr402⟩ := hS.elr2 (i := 3) rfl (get_some h398).2 [4]
                          obtain rfl := Option.some.inj hA
                          refine mixE.pure (v := .pointer (some (ad370.add ((wr (s_1_2 + 1)).toNat * 1)))) (pu_index (a := (wr (s_1_2 + 1))) Try.underlying22 Try.sizeOf3 rfl rfl (get_some h398).1) ?_
                          obtain ⟨rfl, hr402'⟩ := hr402
                          refine mixE.steady hD (v := .int .i64 x397) (fun _ hF => ld_one Try.isAgg3 rfl (hF.cell (hc401 0 _ rfl) (off1 ho403))) ?_
                          refine mixE.pure (v := .slice (some ad370) b_0_1.length cb_0_1) (pu_move e7) ?_
                          refine mixE.pure (v := .pointer (some ((⟨g6, 0, none⟩ : Addr).add 2))) (pu_field (sz := 1) Try.underlying33 rfl Try.sizeOf3 (by decide) rfl e3) ?_
                          refine mixE.steady hD (v := .int .i64 s_1_2) (fun _ hF => ld_fld (hS.bx2 (i := 0) rfl [4] (by decide) hF) Try.isAgg3 rfl rfl) ?_
                          obtain ⟨x404, h405, hb⟩ := bd hb
                          obtain ⟨ad406, cs407, hA, ho410, hc408, hr409⟩ := hS.elr2 (i := 3) rfl (get_some h405).2 [4]
                          obtain rfl := Option.some.inj hA
                          refine mixE.pure (v := .pointer (some (ad370.add (s_1_2.toNat * 1)))) (pu_index (a := s_1_2) Try.underlying22 Try.sizeOf3 rfl rfl (get_some h405).1) ?_
                          obtain ⟨rfl, hr409'⟩ := hr409
                          refine mixE.steady hD (v := .int .i64 x404) (fun _ hF => ld_one Try.isAgg3 rfl (hF.cell (hc408 0 _ rfl) (off1 ho410))) ?_
                          refine mixE.op hM (hC.lit (s := (.int .i64)) (vs := [.int .i64 x397, .int .i64 x404]) (xs := [x397, x404]) Try.underlying22 Try.type3 rfl rfl (Nat.le_of_ble_eq_true rfl) rfl rfl (by simp [Value.cells, Sh.n]) rfl (show Elems _ _ (.int .i64) ([.int .i64 x397] ++ ([.int .i64 x404] ++ ([]))) ([x397, x404] : List Int) from Elems.cons (⟨rfl, I64.wr (wrap_I64 hr402')⟩) (Elems.cons (⟨rfl, I64.wr (wrap_I64 hr409')⟩) (Elems.nil _ _ _)))) ?_
                          rintro _ w415 ⟨A411, c412, rfl, hl413, hc414, hC, hF, hN⟩
                          have hBf416 := Beside.new hM hN
                          have hUf416 := Beside.new (hM.wide (H := [.box g40 32 [.int .i64 b_0_0, .slice none 0 0]])) hN
                          replace hM := hM.none hF
                          replace hD := hM.wide (H := [.box g40 32 [.int .i64 b_0_0, .slice none 0 0]])
                          refine ⟨hM, ?_⟩
                          clear hF hN
                          obtain ⟨y417, h418, hb⟩ := bd hb
                          refine mixE.cl hM (⟨_, _, op_call (vs := [.slice (some ad370) b_0_1.length cb_0_1, .int .i64 s_1_2, .int .i64 2, .slice A411 ((([x397, x404] : List Int)).length) c412]) Try.call35 rfl rfl rfl, ref36_splice_ok n (hC.lentLt [.slice A411 ((([x397, x404] : List Int)).length) c412]) ((hC.rd (i := 4) rfl).lent [.slice A411 ((([x397, x404] : List Int)).length) c412]) hs_1_2 (show I64 2 from by unfold I64; omega) ((hC.ow (i := 0) rfl).lend (vs := [.slice A411 ((([x397, x404] : List Int)).length) c412]) (by simp)) h418⟩) ?_
                          rintro _ w423 ⟨A419, m420, c421, rfl, hK⟩
                          replace hM := hM.none hK.fr
                          replace hD := hM.wide (H := [.box g40 32 [.int .i64 b_0_0, .slice none 0 0]])
                          refine ⟨hM, ?_⟩
                          replace hC := hC.mergeF hK rfl
                          clear hK
                          obtain ⟨rfl, hl424, hc425⟩ := (hC.ow (i := 0) rfl).sl_len
                          refine mixE.pure (v := .pointer (some ((⟨g40, 0, none⟩ : Addr).add 1))) (pu_field (sz := 1) Try.underlying32 rfl Try.sizeOf22 (by decide) rfl e13) ?_
                          refine mixE.sk hD (hC.setf (i := 6) (k := 1) (v := .slice A419 y417.length c421) rfl Try.sizeOf22 rfl rfl rfl rfl) ?_
                          rintro w426 ⟨hC, hF⟩
                          replace hD := hD.besideG hUf42 hF
                          clear hF
                          refine ⟨hD, ?_⟩
                          refine mixE.nil ?_
                          clear hS hM
                          clear hD
                          refine hK362 _ _ ?_
                          refine Wc.region (by decide +kernel) ?_
                          refine lex.val (v := .agg #[.int .i64 s_1_0, .int .i64 s_1_1, .int .i64 s_1_2]) (ld_blk (hC.bx (i := 2) rfl) Try.isAgg33 Try.sizeOf33 e3) ?_
                          refine lex.sk (hC.seta (i := 7) (ds := [.int .i64 s_1_0, .int .i64 s_1_1, .int .i64 s_1_2]) rfl Try.type33 rfl rfl rfl e14 rfl) ?_
                          rintro w427 ⟨hC, hF⟩
                          refine lex.nil ?_
                          replace hC := hC.freeze (i := 0) rfl (hC.own_new (i := 0) rfl)
                          exact hK48 _ _ ⟨v11_11, v12_13, b_0_0, y417, s_1_0, s_1_1, s_1_2, A419, y417.length, c421, e4, e5, e6, e11, e12, e13, e14, hb_0_0, hs_1_0, hs_1_1, hs_1_2, hC.sel [3, 4, 6, 0, 7] (by decide), hb⟩
                      · replace hb := (cF hq364).symm.trans hb
                        refine Wc.skip ?_
                        refine hK362 _ _ ?_
                        refine Wc.region (by decide +kernel) ?_
                        refine lex.val (v := .agg #[.int .i64 s_1_0, .int .i64 s_1_1, .int .i64 s_1_2]) (ld_blk (hC.bx (i := 0) rfl) Try.isAgg33 Try.sizeOf33 e3) ?_
                        refine lex.sk (hC.seta (i := 5) (ds := [.int .i64 s_1_0, .int .i64 s_1_1, .int .i64 s_1_2]) rfl Try.type33 rfl rfl rfl e14 rfl) ?_
                        rintro w428 ⟨hC, hF⟩
                        refine lex.nil ?_
                        replace hC := hC.ro (show Rep _ _ (.sl (.int .i64)) [.slice none 0 0] [] from ⟨none, 0, rfl, Nat.le_refl _, by omega, fun h => absurd h (by simp)⟩)
                        exact hK48 _ _ ⟨v11_11, v12_12, b_0_0, ([] : List Int), s_1_0, s_1_1, s_1_2, none, 0, 0, e4, e5, e6, e11, e12, e13, e14, hb_0_0, hs_1_0, hs_1_1, hs_1_2, hC.sel [2, 3, 5, 0, 6] (by decide), hb⟩
                · replace hb := (cF hq353).symm.trans hb
                  refine Wc.seq fun K430 hK430 => ?_
                  refine Wc.region (by decide +kernel) ?_
                  refine lex.pure (v := .bool (decide (s_1_0 = 5))) (pu_eql (k := .i64) (a := s_1_0) (b := 5) e65 rfl) ?_
                  refine lex.pure (v := .bool (decide (s_1_0 = 5))) (pu_assign rfl) ?_
                  refine lex.nil ?_
                  refine hK430 _ _ ?_
                  refine Wc.fresh fun E431 hE => ?_
                  have e3 : E431 3 = .pointer (some ⟨g6, 0, none⟩) := (congrFun hE 3).trans e3
                  have e4 : E431 4 = .pointer (some ⟨g9, 0, none⟩) := (congrFun hE 4).trans e4
                  have e5 : E431 5 = .pointer (some ⟨g12, 0, none⟩) := (congrFun hE 5).trans e5
                  have e6 : E431 6 = .int .i64 0 := (congrFun hE 6).trans e6
                  have e7 : E431 7 = .slice Ab_0_1 b_0_1.length cb_0_1 := (congrFun hE 7).trans e7
                  have e8 : E431 8 = .int .i64 (b_0_1.length : Int) := (congrFun hE 8).trans e8
                  have e9 : E431 9 = .bool v9_0 := (congrFun hE 9).trans e9
                  have e10 : E431 10 = .bool v10_1 := (congrFun hE 10).trans e10
                  have e11 : E431 11 = .bool false := (congrFun hE 11).trans e11
                  have e12 : E431 12 = .bool true := (congrFun hE 12).trans e12
                  have e13 : E431 13 = .pointer (some ⟨g40, 0, none⟩) := (congrFun hE 13).trans e13
                  have e14 : E431 14 = .pointer (some ⟨g43, 0, none⟩) := (congrFun hE 14).trans e14
                  have e65 : E431 65 = .int .i64 s_1_0 := (congrFun hE 65).trans e65
                  have e284 : E431 284 = .bool (decide (s_1_0 = 5)) := (congrFun hE 284).trans rfl
                  clear hE
                  refine Wc.cond (t := (decide (s_1_0 = 5))) (e284) (fun hq432 => ?_) (fun hq432 => ?_)
                  · replace hb := (cT hq432).symm.trans hb
                    refine Wc.seqJ (fun E wv => ∃ (v11_14 : Bool), E 3 = .pointer (some ⟨g6, 0, none⟩) ∧ E 4 = .pointer (some ⟨g9, 0, none⟩) ∧ E 5 = .pointer (some ⟨g12, 0, none⟩) ∧ E 6 = .int .i64 0 ∧ E 7 = .slice Ab_0_1 b_0_1.length cb_0_1 ∧ E 8 = .int .i64 (b_0_1.length : Int) ∧ E 11 = .bool v11_14 ∧ E 12 = .bool true ∧ E 13 = .pointer (some ⟨g40, 0, none⟩) ∧ E 14 = .pointer (some ⟨g43, 0, none⟩) ∧ Cx (fun _ => False) O0 w wv [.box g6 33 [.int .i64 s_1_0, .int .i64 s_1_1, .int .i64 s_1_2], .box g9 32 [.int .i64 0, .slice none 0 0], .box g12 33 [.int .i64 0, .int .i64 0, .int .i64 0], .ro (.sl (.int .i64)) [.slice Ab_0_1 b_0_1.length cb_0_1] b_0_1, .box g40 32 [.int .i64 b_0_0, .slice none 0 0], .box g43 33 [.int .i64 0, .int .i64 0, .int .i64 0]] ∧ F.ref36_Apply_j14 n b_0_0 b_0_1 s_1_0 s_1_1 s_1_2 v11_14 = some r) (fun K433 hK433 => ?_) ?_
                    ·
                      skip
                      refine Wc.region (by decide +kernel) ?_
                      refine lex.pure (v := .pointer (some ((⟨g6, 0, none⟩ : Addr).add 1))) (pu_field (sz := 1) Try.underlying33 rfl Try.sizeOf3 (by decide) rfl e3) ?_
                      refine lex.val (v := .int .i64 s_1_1) (ld_fld (hC.bx (i := 4) rfl) Try.isAgg3 rfl rfl) ?_
                      refine lex.pure (v := .bool (decide (s_1_1 = 0))) (pu_eql (k := .i64) (a := s_1_1) (b := 0) rfl rfl) ?_
                      refine lex.pure (v := .bool (decide (s_1_1 = 0))) (pu_move rfl) ?_
                      rcases bS (decide (s_1_1 = 0)) with hq434 | hq434
                      · replace hb := (cT hq434).symm.trans hb
                        refine lex.gpure (want_t rfl rfl (show _ = Value.bool (decide (s_1_1 = 0)) from rfl) hq434) (v := .bool v10_1) (pu_move e10) ?_
                        refine lex.pure (v := .bool v10_1) (pu_pickT (q := (decide (s_1_1 = 0))) rfl hq434 rfl) ?_
                        refine lex.pure (v := .bool v10_1) (pu_assign rfl) ?_
                        refine lex.nil ?_
                        exact hK433 _ _ ⟨v10_1, e3, e4, e5, e6, e7, e8, rfl, e12, e13, e14, hC.sel [4, 5, 6, 3, 1, 0] (by decide), hb⟩
                      · replace hb := (cF hq434).symm.trans hb
                        refine lex.gskip (want_f rfl rfl (show _ = Value.bool (decide (s_1_1 = 0)) from rfl) hq434) ?_
                        refine lex.pure (v := .bool false) (pu_pickF (q := (decide (s_1_1 = 0))) rfl hq434 rfl) ?_
                        refine lex.pure (v := .bool false) (pu_assign rfl) ?_
                        refine lex.nil ?_
                        exact hK433 _ _ ⟨false, e3, e4, e5, e6, e7, e8, rfl, e12, e13, e14, hC.sel [4, 5, 6, 3, 1, 0] (by decide), hb⟩
                    · clear hb hC
                      rintro E436 w435 ⟨v11_14, e3, e4, e5, e6, e7, e8, e11, e12, e13, e14, hC, hb⟩
                      unfold F.ref36_Apply_j14 at hb
                      refine Wc.seqJ (fun E wv => ∃ (v12_15 : Bool), E 3 = .pointer (some ⟨g6, 0, none⟩) ∧ E 4 = .pointer (some ⟨g9, 0, none⟩) ∧ E 5 = .pointer (some ⟨g12, 0, none⟩) ∧ E 6 = .int .i64 0 ∧ E 7 = .slice Ab_0_1 b_0_1.length cb_0_1 ∧ E 11 = .bool v11_14 ∧ E 12 = .bool v12_15 ∧ E 13 = .pointer (some ⟨g40, 0, none⟩) ∧ E 14 = .pointer (some ⟨g43, 0, none⟩) ∧ Cx (fun _ => False) O0 w wv [.box g6 33 [.int .i64 s_1_0, .int .i64 s_1_1, .int .i64 s_1_2], .box g9 32 [.int .i64 0, .slice none 0 0], .box g12 33 [.int .i64 0, .int .i64 0, .int .i64 0], .ro (.sl (.int .i64)) [.slice Ab_0_1 b_0_1.length cb_0_1] b_0_1, .box g40 32 [.int .i64 b_0_0, .slice none 0 0], .box g43 33 [.int .i64 0, .int .i64 0, .int .i64 0]] ∧ F.ref36_Apply_j15 n b_0_0 b_0_1 s_1_0 s_1_1 s_1_2 v11_14 v12_15 = some r) (fun K437 hK437 => ?_) ?_
                      ·
                        skip
                        refine Wc.region (by decide +kernel) ?_
                        refine lex.pure (v := .bool v11_14) (pu_move e11) ?_
                        refine lex.pure (v := .bool v11_14) (pu_move rfl) ?_
                        rcases bS v11_14 with hq438 | hq438
                        · replace hb := (cT hq438).symm.trans hb
                          refine lex.gpure (want_t rfl rfl (show _ = Value.bool v11_14 from rfl) hq438) (v := .pointer (some ((⟨g6, 0, none⟩ : Addr).add 2))) (pu_field (sz := 1) Try.underlying33 rfl Try.sizeOf3 (by decide) rfl e3) ?_
                          refine lex.gval (want_t rfl rfl (show _ = Value.bool v11_14 from rfl) hq438) (v := .int .i64 s_1_2) (ld_fld (hC.bx (i := 0) rfl) Try.isAgg3 rfl rfl) ?_
                          refine lex.gpure (want_t rfl rfl (show _ = Value.bool v11_14 from rfl) hq438) (v := .int .i64 (wr (s_1_2 + 2))) (pu_addw (a := s_1_2) (b := 2) rfl rfl) ?_
                          refine lex.gpure (want_t rfl rfl (show _ = Value.bool v11_14 from rfl) hq438) (v := .int .i64 (b_0_1.length : Int)) (pu_move e8) ?_
                          refine lex.gpure (want_t rfl rfl (show _ = Value.bool v11_14 from rfl) hq438) (v := .bool (decide ((wr (s_1_2 + 2)) < (b_0_1.length : Int)))) (pu_lss (k := .i64) (a := (wr (s_1_2 + 2))) (b := (b_0_1.length : Int)) rfl rfl) ?_
                          refine lex.pure (v := .bool (decide ((wr (s_1_2 + 2)) < (b_0_1.length : Int)))) (pu_pickT (q := v11_14) rfl hq438 rfl) ?_
                          refine lex.pure (v := .bool (decide ((wr (s_1_2 + 2)) < (b_0_1.length : Int)))) (pu_assign rfl) ?_
                          refine lex.nil ?_
                          exact hK437 _ _ ⟨(decide ((wr (s_1_2 + 2)) < (b_0_1.length : Int))), e3, e4, e5, e6, e7, e11, rfl, e13, e14, hC.sel [0, 1, 2, 3, 4, 5] (by decide), hb⟩
                        · replace hb := (cF hq438).symm.trans hb
                          refine lex.gskip (want_f rfl rfl (show _ = Value.bool v11_14 from rfl) hq438) ?_
                          refine lex.gskip (want_f rfl rfl (show _ = Value.bool v11_14 from rfl) hq438) ?_
                          refine lex.gskip (want_f rfl rfl (show _ = Value.bool v11_14 from rfl) hq438) ?_
                          refine lex.gskip (want_f rfl rfl (show _ = Value.bool v11_14 from rfl) hq438) ?_
                          refine lex.gskip (want_f rfl rfl (show _ = Value.bool v11_14 from rfl) hq438) ?_
                          refine lex.pure (v := .bool false) (pu_pickF (q := v11_14) rfl hq438 rfl) ?_
                          refine lex.pure (v := .bool false) (pu_assign rfl) ?_
                          refine lex.nil ?_
                          exact hK437 _ _ ⟨false, e3, e4, e5, e6, e7, e11, rfl, e13, e14, hC.sel [0, 1, 2, 3, 4, 5] (by decide), hb⟩
                      · clear hb hC
                        rintro E440 w439 ⟨v12_15, e3, e4, e5, e6, e7, e11, e12, e13, e14, hC, hb⟩
                        unfold F.ref36_Apply_j15 at hb
                        refine Wc.seq fun K441 hK441 => ?_
                        refine Wc.seq fun K442 hK442 => ?_
                        refine Wc.region (by decide +kernel) ?_
                        refine lex.pure (v := .bool v12_15) (pu_move e12) ?_
                        refine lex.nil ?_
                        refine hK442 _ _ ?_
                        refine Wc.cond (t := v12_15) (rfl) (fun hq443 => ?_) (fun hq443 => ?_)
                        · replace hb := (cT hq443).symm.trans hb
                          refine Wc.seq fun K444 hK444 => ?_
                          refine Wc.regionMix [] (frm [] ([] : List Fact) ([] : List Fact)) (fun _ => rfl) mixed (by decide +kernel) (by decide +kernel) fun w446 hw445 => ?_
                          replace hC := hC.step (Fr.of_drew hw445)
                          have hM := Fr.refl (fun k => k ∈ blocks ([] : List Fact)) w446
                          clear hw445
                          have hS := hC
                          refine mixE.pure (v := .slice Ab_0_1 b_0_1.length cb_0_1) (pu_move e7) ?_
                          refine mixE.pure (v := .pointer (some ((⟨g6, 0, none⟩ : Addr).add 2))) (pu_field (sz := 1) Try.underlying33 rfl Try.sizeOf3 (by decide) rfl e3) ?_
                          refine mixE.load hM (v := .int .i64 s_1_2) (fun _ hF => ld_fld (hS.bx2 (i := 0) rfl [] (by decide) hF) Try.isAgg3 rfl rfl) ?_
                          obtain ⟨x447, h448, hb⟩ := bd hb
                          obtain ⟨ad449, cs450, hA, ho453, hc451, hr452⟩ := hS.elr2 (i := 3) rfl (get_some h448).2 []
                          subst hA
                          refine mixE.pure (v := .pointer (some (ad449.add (s_1_2.toNat * 1)))) (pu_index (a := s_1_2) Try.underlying22 Try.sizeOf3 rfl rfl (get_some h448).1) ?_
                          obtain ⟨rfl, hr452'⟩ := hr452
                          refine mixE.load hM (v := .int .i64 x447) (fun _ hF => ld_one Try.isAgg3 rfl (hF.cell (hc451 0 _ rfl) (off1 ho453))) ?_
                          refine mixE.pure (v := .slice (some ad449) b_0_1.length cb_0_1) (pu_move e7) ?_
                          refine mixE.pure (v := .pointer (some ((⟨g6, 0, none⟩ : Addr).add 2))) (pu_field (sz := 1) Try.underlying33 rfl Try.sizeOf3 (by decide) rfl e3) ?_
                          refine mixE.load hM (v := .int .i64 s_1_2) (fun _ hF => ld_fld (hS.bx2 (i := 0) rfl [] (by decide) hF) Try.isAgg3 rfl rfl) ?_
                          refine mixE.pure (v := .int .i64 (wr (s_1_2 + 1))) (pu_addw (a := s_1_2) (b := 1) rfl rfl) ?_
                          obtain ⟨x454, h455, hb⟩ := bd hb
                          obtain ⟨ad456, cs457, hA, ho460, hc458, hr459⟩ := hS.elr2 (i := 3) rfl (get_some h455).2 []
                          obtain rfl := Option.some.inj hA
                          refine mixE.pure (v := .pointer (some (ad449.add ((wr (s_1_2 + 1)).toNat * 1)))) (pu_index (a := (wr (s_1_2 + 1))) Try.underlying22 Try.sizeOf3 rfl rfl (get_some h455).1) ?_
                          obtain ⟨rfl, hr459'⟩ := hr459
                          refine mixE.load hM (v := .int .i64 x454) (fun _ hF => ld_one Try.isAgg3 rfl (hF.cell (hc458 0 _ rfl) (off1 ho460))) ?_
                          refine mixE.pure (v := .int .i64 x447) (pu_assign rfl) ?_
                          refine mixE.pure (v := .int .i64 x454) (pu_assign rfl) ?_
                          refine mixE.nil ?_
                          clear hS hM
                          refine hK444 _ _ ?_
                          refine Wc.fresh fun E461 hE => ?_
                          have e3 : E461 3 = .pointer (some ⟨g6, 0, none⟩) := (congrFun hE 3).trans e3
                          have e4 : E461 4 = .pointer (some ⟨g9, 0, none⟩) := (congrFun hE 4).trans e4
                          have e5 : E461 5 = .pointer (some ⟨g12, 0, none⟩) := (congrFun hE 5).trans e5
                          have e6 : E461 6 = .int .i64 0 := (congrFun hE 6).trans e6
                          have e7 : E461 7 = .slice (some ad449) b_0_1.length cb_0_1 := (congrFun hE 7).trans e7
                          have e11 : E461 11 = .bool v11_14 := (congrFun hE 11).trans e11
                          have e12 : E461 12 = .bool v12_15 := (congrFun hE 12).trans e12
                          have e13 : E461 13 = .pointer (some ⟨g40, 0, none⟩) := (congrFun hE 13).trans e13
                          have e14 : E461 14 = .pointer (some ⟨g43, 0, none⟩) := (congrFun hE 14).trans e14
                          have e17 : E461 17 = .int .i64 x447 := (congrFun hE 17).trans rfl
                          have e18 : E461 18 = .int .i64 x454 := (congrFun hE 18).trans rfl
                          clear hE
                          refine Wc.seqJ (fun E wv => ∃ (v12_16 : Bool), E 3 = .pointer (some ⟨g6, 0, none⟩) ∧ E 4 = .pointer (some ⟨g9, 0, none⟩) ∧ E 5 = .pointer (some ⟨g12, 0, none⟩) ∧ E 6 = .int .i64 0 ∧ E 7 = .slice (some ad449) b_0_1.length cb_0_1 ∧ E 11 = .bool v11_14 ∧ E 12 = .bool v12_16 ∧ E 13 = .pointer (some ⟨g40, 0, none⟩) ∧ E 14 = .pointer (some ⟨g43, 0, none⟩) ∧ E 17 = .int .i64 x447 ∧ E 18 = .int .i64 x454 ∧ Cx (fun _ => False) O0 w wv [.box g6 33 [.int .i64 s_1_0, .int .i64 s_1_1, .int .i64 s_1_2], .box g9 32 [.int .i64 0, .slice none 0 0], .box g12 33 [.int .i64 0, .int .i64 0, .int .i64 0], .ro (.sl (.int .i64)) [.slice (some ad449) b_0_1.length cb_0_1] b_0_1, .box g40 32 [.int .i64 b_0_0, .slice none 0 0], .box g43 33 [.int .i64 0, .int .i64 0, .int .i64 0]] ∧ F.ref36_Apply_j16 n b_0_0 b_0_1 s_1_0 s_1_1 s_1_2 v11_14 x447 x454 v12_16 = some r) (fun K462 hK462 => ?_) ?_
                          ·
                            skip
                            refine Wc.region (by decide +kernel) ?_
                            refine lex.pure (v := .slice (some ad449) b_0_1.length cb_0_1) (pu_move e7) ?_
                            refine lex.pure (v := .pointer (some ((⟨g6, 0, none⟩ : Addr).add 2))) (pu_field (sz := 1) Try.underlying33 rfl Try.sizeOf3 (by decide) rfl e3) ?_
                            refine lex.val (v := .int .i64 s_1_2) (ld_fld (hC.bx (i := 0) rfl) Try.isAgg3 rfl rfl) ?_
                            refine lex.pure (v := .int .i64 (wr (s_1_2 + 2))) (pu_addw (a := s_1_2) (b := 2) rfl rfl) ?_
                            obtain ⟨x463, h464, hb⟩ := bd hb
                            obtain ⟨ad465, cs466, hA, hc467, hr468⟩ := hC.elr (i := 3) rfl (get_some h464).2
                            obtain rfl := Option.some.inj hA
                            refine lex.pure (v := .pointer (some (ad449.add ((wr (s_1_2 + 2)).toNat * 1)))) (pu_index (a := (wr (s_1_2 + 2))) Try.underlying22 Try.sizeOf3 rfl rfl (get_some h464).1) ?_
                            obtain ⟨rfl, hr468'⟩ := hr468
                            refine lex.val (v := .int .i64 x463) (ld_one Try.isAgg3 rfl (hc467 0 _ rfl)) ?_
                            refine lex.pure (v := .int .i64 x447) (pu_move e17) ?_
                            refine lex.pure (v := .bool (decide (x463 = x447))) (pu_eql (k := .i64) (a := x463) (b := x447) rfl rfl) ?_
                            refine lex.pure (v := .bool (decide (x463 = x447))) (pu_move rfl) ?_
                            rcases bS (decide (x463 = x447)) with hq469 | hq469
                            · replace hb := (cT hq469).symm.trans hb
                              refine lex.gpure (want_t rfl rfl (show _ = Value.bool (decide (x463 = x447)) from rfl) hq469) (v := .int .i64 x447) (pu_move e17) ?_
                              refine lex.gpure (want_t rfl rfl (show _ = Value.bool (decide (x463 = x447)) from rfl) hq469) (v := .int .i64 x454) (pu_move e18) ?_
                              refine lex.gpure (want_t rfl rfl (show _ = Value.bool (decide (x463 = x447)) from rfl) hq469) (v := .int .i64 (wr (x447 * x454))) (pu_mulw (a := x447) (b := x454) rfl rfl) ?_
                              refine lex.gpure (want_t rfl rfl (show _ = Value.bool (decide (x463 = x447)) from rfl) hq469) (v := .bool (decide (0 < (wr (x447 * x454))))) (pu_gtr (k := .i64) (a := (wr (x447 * x454))) (b := 0) rfl rfl) ?_
                              refine lex.pure (v := .bool (decide (0 < (wr (x447 * x454))))) (pu_pickT (q := (decide (x463 = x447))) rfl hq469 rfl) ?_
                              refine lex.pure (v := .bool (decide (0 < (wr (x447 * x454))))) (pu_move rfl) ?_
                              rcases bS (decide (0 < (wr (x447 * x454)))) with hq470 | hq470
                              · replace hb := (cT hq470).symm.trans hb
                                refine lex.gpure (want_t rfl rfl (show _ = Value.bool (decide (0 < (wr (x447 * x454)))) from rfl) hq470) (v := .int .i64 x447) (pu_move e17) ?_
                                refine lex.gpure (want_t rfl rfl (show _ = Value.bool (decide (0 < (wr (x447 * x454)))) from rfl) hq470) (v := .int .i64 x454) (pu_move e18) ?_
                                refine lex.gpure (want_t rfl rfl (show _ = Value.bool (decide (0 < (wr (x447 * x454)))) from rfl) hq470) (v := .int .i64 (wr (x447 - x454))) (pu_subw (a := x447) (b := x454) rfl rfl) ?_
                                refine lex.gpure (want_t rfl rfl (show _ = Value.bool (decide (0 < (wr (x447 * x454)))) from rfl) hq470) (v := .bool (decide ((wr (x447 - x454)) = 1))) (pu_eql (k := .i64) (a := (wr (x447 - x454))) (b := 1) rfl rfl) ?_
                                refine lex.gpure (want_t rfl rfl (show _ = Value.bool (decide (0 < (wr (x447 * x454)))) from rfl) hq470) (v := .bool (decide ((wr (x447 - x454)) = 1))) (pu_move rfl) ?_
                                rcases bS (decide ((wr (x447 - x454)) = 1)) with hq471 | hq471
                                · replace hb := (cT hq471).symm.trans hb
                                  refine lex.gskip (want_f rfl rfl (show _ = Value.bool (decide ((wr (x447 - x454)) = 1)) from rfl) hq471) ?_
                                  refine lex.gskip (want_f rfl rfl (show _ = Value.bool (decide ((wr (x447 - x454)) = 1)) from rfl) hq471) ?_
                                  refine lex.gskip (want_f rfl rfl (show _ = Value.bool (decide ((wr (x447 - x454)) = 1)) from rfl) hq471) ?_
                                  refine lex.gskip (want_f rfl rfl (show _ = Value.bool (decide ((wr (x447 - x454)) = 1)) from rfl) hq471) ?_
                                  refine lex.gpure (want_t rfl rfl (show _ = Value.bool (decide (0 < (wr (x447 * x454)))) from rfl) hq470) (v := .bool true) (pu_pickT (q := (decide ((wr (x447 - x454)) = 1))) rfl hq471 rfl) ?_
                                  refine lex.pure (v := .bool true) (pu_pickT (q := (decide (0 < (wr (x447 * x454))))) rfl hq470 rfl) ?_
                                  refine lex.pure (v := .bool true) (pu_assign rfl) ?_
                                  refine lex.nil ?_
                                  exact hK462 _ _ ⟨true, e3, e4, e5, e6, e7, e11, rfl, e13, e14, e17, e18, hC.sel [0, 1, 2, 3, 4, 5] (by decide), hb⟩
                                · replace hb := (cF hq471).symm.trans hb
                                  refine lex.gpure (want_t rfl rfl (show _ = Value.bool (decide ((wr (x447 - x454)) = 1)) from rfl) hq471) (v := .int .i64 x454) (pu_move e18) ?_
                                  refine lex.gpure (want_t rfl rfl (show _ = Value.bool (decide ((wr (x447 - x454)) = 1)) from rfl) hq471) (v := .int .i64 x447) (pu_move e17) ?_
                                  refine lex.gpure (want_t rfl rfl (show _ = Value.bool (decide ((wr (x447 - x454)) = 1)) from rfl) hq471) (v := .int .i64 (wr (x454 - x447))) (pu_subw (a := x454) (b := x447) rfl rfl) ?_
                                  refine lex.gpure (want_t rfl rfl (show _ = Value.bool (decide ((wr (x447 - x454)) = 1)) from rfl) hq471) (v := .bool (decide ((wr (x454 - x447)) = 1))) (pu_eql (k := .i64) (a := (wr (x454 - x447))) (b := 1) rfl rfl) ?_
                                  refine lex.gpure (want_t rfl rfl (show _ = Value.bool (decide (0 < (wr (x447 * x454)))) from rfl) hq470) (v := .bool (decide ((wr (x454 - x447)) = 1))) (pu_pickF (q := (decide ((wr (x447 - x454)) = 1))) rfl hq471 rfl) ?_
                                  refine lex.pure (v := .bool (decide ((wr (x454 - x447)) = 1))) (pu_pickT (q := (decide (0 < (wr (x447 * x454))))) rfl hq470 rfl) ?_
                                  refine lex.pure (v := .bool (decide ((wr (x454 - x447)) = 1))) (pu_assign rfl) ?_
                                  refine lex.nil ?_
                                  exact hK462 _ _ ⟨(decide ((wr (x454 - x447)) = 1)), e3, e4, e5, e6, e7, e11, rfl, e13, e14, e17, e18, hC.sel [0, 1, 2, 3, 4, 5] (by decide), hb⟩
                              · replace hb := (cF hq470).symm.trans hb
                                refine lex.gskip (want_f rfl rfl (show _ = Value.bool (decide (0 < (wr (x447 * x454)))) from rfl) hq470) ?_
                                refine lex.gskip (want_f rfl rfl (show _ = Value.bool (decide (0 < (wr (x447 * x454)))) from rfl) hq470) ?_
                                refine lex.gskip (want_f rfl rfl (show _ = Value.bool (decide (0 < (wr (x447 * x454)))) from rfl) hq470) ?_
                                refine lex.gskip (want_f rfl rfl (show _ = Value.bool (decide (0 < (wr (x447 * x454)))) from rfl) hq470) ?_
                                refine lex.gskip (want_f rfl rfl (show _ = Value.bool (decide (0 < (wr (x447 * x454)))) from rfl) hq470) ?_
                                refine lex.gskip (want_n rfl rfl rfl) ?_
                                refine lex.gskip (want_n rfl rfl rfl) ?_
                                refine lex.gskip (want_n rfl rfl rfl) ?_
                                refine lex.gskip (want_n rfl rfl rfl) ?_
                                refine lex.gskip (want_f rfl rfl (show _ = Value.bool (decide (0 < (wr (x447 * x454)))) from rfl) hq470) ?_
                                refine lex.pure (v := .bool false) (pu_pickF (q := (decide (0 < (wr (x447 * x454))))) rfl hq470 rfl) ?_
                                refine lex.pure (v := .bool false) (pu_assign rfl) ?_
                                refine lex.nil ?_
                                exact hK462 _ _ ⟨false, e3, e4, e5, e6, e7, e11, rfl, e13, e14, e17, e18, hC.sel [0, 1, 2, 3, 4, 5] (by decide), hb⟩
                            · replace hb := (cF hq469).symm.trans hb
                              refine lex.gskip (want_f rfl rfl (show _ = Value.bool (decide (x463 = x447)) from rfl) hq469) ?_
                              refine lex.gskip (want_f rfl rfl (show _ = Value.bool (decide (x463 = x447)) from rfl) hq469) ?_
                              refine lex.gskip (want_f rfl rfl (show _ = Value.bool (decide (x463 = x447)) from rfl) hq469) ?_
                              refine lex.gskip (want_f rfl rfl (show _ = Value.bool (decide (x463 = x447)) from rfl) hq469) ?_
                              refine lex.pure (v := .bool false) (pu_pickF (q := (decide (x463 = x447))) rfl hq469 rfl) ?_
                              refine lex.pure (v := .bool false) (pu_move rfl) ?_
                              refine lex.gskip (want_f rfl rfl (show _ = Value.bool false from rfl) rfl) ?_
                              refine lex.gskip (want_f rfl rfl (show _ = Value.bool false from rfl) rfl) ?_
                              refine lex.gskip (want_f rfl rfl (show _ = Value.bool false from rfl) rfl) ?_
                              refine lex.gskip (want_f rfl rfl (show _ = Value.bool false from rfl) rfl) ?_
                              refine lex.gskip (want_f rfl rfl (show _ = Value.bool false from rfl) rfl) ?_
                              refine lex.gskip (want_n rfl rfl rfl) ?_
                              refine lex.gskip (want_n rfl rfl rfl) ?_
                              refine lex.gskip (want_n rfl rfl rfl) ?_
                              refine lex.gskip (want_n rfl rfl rfl) ?_
                              refine lex.gskip (want_f rfl rfl (show _ = Value.bool false from rfl) rfl) ?_
                              refine lex.pure (v := .bool false) (pu_pickF (q := false) rfl rfl rfl) ?_
                              refine lex.pure (v := .bool false) (pu_assign rfl) ?_
                              refine lex.nil ?_
                              exact hK462 _ _ ⟨false, e3, e4, e5, e6, e7, e11, rfl, e13, e14, e17, e18, hC.sel [0, 1, 2, 3, 4, 5] (by decide), hb⟩
                          · clear hb hC
                            rintro E473 w472 ⟨v12_16, e3, e4, e5, e6, e7, e11, e12, e13, e14, e17, e18, hC, hb⟩
                            unfold F.ref36_Apply_j16 at hb
                            refine Wc.region (by decide +kernel) ?_
                            refine lex.pure (v := .slice (some ad449) b_0_1.length cb_0_1) (pu_move e7) ?_
                            refine lex.pure (v := .pointer (some ((⟨g6, 0, none⟩ : Addr).add 2))) (pu_field (sz := 1) Try.underlying33 rfl Try.sizeOf3 (by decide) rfl e3) ?_
                            refine lex.val (v := .int .i64 s_1_2) (ld_fld (hC.bx (i := 0) rfl) Try.isAgg3 rfl rfl) ?_
                            refine lex.pure (v := .int .i64 x454) (pu_move e18) ?_
                            refine lex.pure (v := .int .i64 x447) (pu_move e17) ?_
                            refine lex.pure (v := .int .i64 x454) (pu_move e18) ?_
                            refine lex.op (hC.lit (s := (.int .i64)) (vs := [.int .i64 x454, .int .i64 x447, .int .i64 x454]) (xs := [x454, x447, x454]) Try.underlying22 Try.type3 rfl rfl (Nat.le_of_ble_eq_true rfl) rfl rfl (by simp [Value.cells, Sh.n]) rfl (show Elems _ _ (.int .i64) ([.int .i64 x454] ++ ([.int .i64 x447] ++ ([.int .i64 x454] ++ ([])))) ([x454, x447, x454] : List Int) from Elems.cons (⟨rfl, I64.wr (wrap_I64 hr459')⟩) (Elems.cons (⟨rfl, I64.wr (wrap_I64 hr452')⟩) (Elems.cons (⟨rfl, I64.wr (wrap_I64 hr459')⟩) (Elems.nil _ _ _))))) ?_
                            rintro _ w478 ⟨A474, c475, rfl, hl476, hc477, hC, hF, hN⟩
                            clear hF hN
                            obtain ⟨y480, h481, hb⟩ := bd hb
                            refine lex.cl (⟨_, _, op_call (vs := [.slice (some ad449) b_0_1.length cb_0_1, .int .i64 s_1_2, .int .i64 3, .slice A474 ((([x454, x447, x454] : List Int)).length) c475]) Try.call35 rfl rfl rfl, ref36_splice_ok n (hC.lentLt [.slice A474 ((([x454, x447, x454] : List Int)).length) c475]) ((hC.rd (i := 4) rfl).lent [.slice A474 ((([x454, x447, x454] : List Int)).length) c475]) hs_1_2 (show I64 3 from by unfold I64; omega) ((hC.ow (i := 0) rfl).lend (vs := [.slice A474 ((([x454, x447, x454] : List Int)).length) c475]) (by simp)) h481⟩) ?_
                            rintro _ w486 ⟨A482, m483, c484, rfl, hK⟩
                            replace hC := hC.mergeF hK rfl
                            clear hK
                            obtain ⟨rfl, hl487, hc488⟩ := (hC.ow (i := 0) rfl).sl_len
                            refine lex.pure (v := .pointer (some ((⟨g40, 0, none⟩ : Addr).add 1))) (pu_field (sz := 1) Try.underlying32 rfl Try.sizeOf22 (by decide) rfl e13) ?_
                            refine lex.sk (hC.setf (i := 6) (k := 1) (v := .slice A482 y480.length c484) rfl Try.sizeOf22 rfl rfl rfl rfl) ?_
                            rintro w489 ⟨hC, hF⟩
                            refine lex.nil ?_
                            refine hK441 _ _ ?_
                            refine Wc.region (by decide +kernel) ?_
                            refine lex.val (v := .agg #[.int .i64 s_1_0, .int .i64 s_1_1, .int .i64 s_1_2]) (ld_blk (hC.bx (i := 2) rfl) Try.isAgg33 Try.sizeOf33 e3) ?_
                            refine lex.sk (hC.seta (i := 7) (ds := [.int .i64 s_1_0, .int .i64 s_1_1, .int .i64 s_1_2]) rfl Try.type33 rfl rfl rfl e14 rfl) ?_
                            rintro w490 ⟨hC, hF⟩
                            refine lex.nil ?_
                            replace hC := hC.freeze (i := 0) rfl (hC.own_new (i := 0) rfl)
                            exact hK48 _ _ ⟨v11_14, v12_16, b_0_0, y480, s_1_0, s_1_1, s_1_2, A482, y480.length, c484, e4, e5, e6, e11, e12, e13, e14, hb_0_0, hs_1_0, hs_1_1, hs_1_2, hC.sel [3, 4, 6, 0, 7] (by decide), hb⟩
                        · replace hb := (cF hq443).symm.trans hb
                          refine Wc.skip ?_
                          refine hK441 _ _ ?_
                          refine Wc.region (by decide +kernel) ?_
                          refine lex.val (v := .agg #[.int .i64 s_1_0, .int .i64 s_1_1, .int .i64 s_1_2]) (ld_blk (hC.bx (i := 0) rfl) Try.isAgg33 Try.sizeOf33 e3) ?_
                          refine lex.sk (hC.seta (i := 5) (ds := [.int .i64 s_1_0, .int .i64 s_1_1, .int .i64 s_1_2]) rfl Try.type33 rfl rfl rfl e14 rfl) ?_
                          rintro w491 ⟨hC, hF⟩
                          refine lex.nil ?_
                          replace hC := hC.ro (show Rep _ _ (.sl (.int .i64)) [.slice none 0 0] [] from ⟨none, 0, rfl, Nat.le_refl _, by omega, fun h => absurd h (by simp)⟩)
                          exact hK48 _ _ ⟨v11_14, v12_15, b_0_0, ([] : List Int), s_1_0, s_1_1, s_1_2, none, 0, 0, e4, e5, e6, e11, e12, e13, e14, hb_0_0, hs_1_0, hs_1_1, hs_1_2, hC.sel [2, 3, 5, 0, 6] (by decide), hb⟩
                  · replace hb := (cF hq432).symm.trans hb
                    refine Wc.seq fun K493 hK493 => ?_
                    refine Wc.region (by decide +kernel) ?_
                    refine lex.pure (v := .bool (decide (s_1_0 = 6))) (pu_eql (k := .i64) (a := s_1_0) (b := 6) e65 rfl) ?_
                    refine lex.pure (v := .bool (decide (s_1_0 = 6))) (pu_assign rfl) ?_
                    refine lex.nil ?_
                    refine hK493 _ _ ?_
                    refine Wc.cond (t := (decide (s_1_0 = 6))) (rfl) (fun hq494 => ?_) (fun hq494 => ?_)
                    · replace hb := (cT hq494).symm.trans hb
                      refine Wc.seqJ (fun E wv => ∃ (v11_17 : Bool), E 3 = .pointer (some ⟨g6, 0, none⟩) ∧ E 4 = .pointer (some ⟨g9, 0, none⟩) ∧ E 5 = .pointer (some ⟨g12, 0, none⟩) ∧ E 6 = .int .i64 0 ∧ E 7 = .slice Ab_0_1 b_0_1.length cb_0_1 ∧ E 11 = .bool v11_17 ∧ E 12 = .bool true ∧ E 13 = .pointer (some ⟨g40, 0, none⟩) ∧ E 14 = .pointer (some ⟨g43, 0, none⟩) ∧ Cx (fun _ => False) O0 w wv [.box g6 33 [.int .i64 s_1_0, .int .i64 s_1_1, .int .i64 s_1_2], .box g9 32 [.int .i64 0, .slice none 0 0], .box g12 33 [.int .i64 0, .int .i64 0, .int .i64 0], .ro (.sl (.int .i64)) [.slice Ab_0_1 b_0_1.length cb_0_1] b_0_1, .box g40 32 [.int .i64 b_0_0, .slice none 0 0], .box g43 33 [.int .i64 0, .int .i64 0, .int .i64 0]] ∧ F.ref36_Apply_j17 n b_0_0 b_0_1 s_1_1 s_1_2 v11_17 = some r) (fun K495 hK495 => ?_) ?_
                      ·
                        skip
                        refine Wc.region (by decide +kernel) ?_
                        refine lex.pure (v := .bool v9_0) (pu_move e9) ?_
                        refine lex.pure (v := .bool v9_0) (pu_move rfl) ?_
                        rcases bS v9_0 with hq496 | hq496
                        · replace hb := (cT hq496).symm.trans hb
                          refine lex.gpure (want_t rfl rfl (show _ = Value.bool v9_0 from rfl) hq496) (v := .pointer (some ((⟨g6, 0, none⟩ : Addr).add 2))) (pu_field (sz := 1) Try.underlying33 rfl Try.sizeOf3 (by decide) rfl e3) ?_
                          refine lex.gval (want_t rfl rfl (show _ = Value.bool v9_0 from rfl) hq496) (v := .int .i64 s_1_2) (ld_fld (hC.bx (i := 4) rfl) Try.isAgg3 rfl rfl) ?_
                          refine lex.gpure (want_t rfl rfl (show _ = Value.bool v9_0 from rfl) hq496) (v := .bool (decide (0 ≤ s_1_2))) (pu_geq (k := .i64) (a := s_1_2) (b := 0) rfl rfl) ?_
                          refine lex.pure (v := .bool (decide (0 ≤ s_1_2))) (pu_pickT (q := v9_0) rfl hq496 rfl) ?_
                          refine lex.pure (v := .bool (decide (0 ≤ s_1_2))) (pu_move rfl) ?_
                          rcases bS (decide (0 ≤ s_1_2)) with hq497 | hq497
                          · replace hb := (cT hq497).symm.trans hb
                            refine lex.gpure (want_t rfl rfl (show _ = Value.bool (decide (0 ≤ s_1_2)) from rfl) hq497) (v := .pointer (some ((⟨g6, 0, none⟩ : Addr).add 2))) (pu_field (sz := 1) Try.underlying33 rfl Try.sizeOf3 (by decide) rfl e3) ?_
                            refine lex.gval (want_t rfl rfl (show _ = Value.bool (decide (0 ≤ s_1_2)) from rfl) hq497) (v := .int .i64 s_1_2) (ld_fld (hC.bx (i := 4) rfl) Try.isAgg3 rfl rfl) ?_
                            refine lex.gpure (want_t rfl rfl (show _ = Value.bool (decide (0 ≤ s_1_2)) from rfl) hq497) (v := .int .i64 (b_0_1.length : Int)) (pu_move e8) ?_
                            refine lex.gpure (want_t rfl rfl (show _ = Value.bool (decide (0 ≤ s_1_2)) from rfl) hq497) (v := .bool (decide (s_1_2 ≤ (b_0_1.length : Int)))) (pu_leq (k := .i64) (a := s_1_2) (b := (b_0_1.length : Int)) rfl rfl) ?_
                            refine lex.pure (v := .bool (decide (s_1_2 ≤ (b_0_1.length : Int)))) (pu_pickT (q := (decide (0 ≤ s_1_2))) rfl hq497 rfl) ?_
                            refine lex.pure (v := .bool (decide (s_1_2 ≤ (b_0_1.length : Int)))) (pu_assign rfl) ?_
                            refine lex.nil ?_
                            exact hK495 _ _ ⟨(decide (s_1_2 ≤ (b_0_1.length : Int))), e3, e4, e5, e6, e7, rfl, e12, e13, e14, hC.sel [4, 5, 6, 3, 1, 0] (by decide), hb⟩
                          · replace hb := (cF hq497).symm.trans hb
                            refine lex.gskip (want_f rfl rfl (show _ = Value.bool (decide (0 ≤ s_1_2)) from rfl) hq497) ?_
                            refine lex.gskip (want_f rfl rfl (show _ = Value.bool (decide (0 ≤ s_1_2)) from rfl) hq497) ?_
                            refine lex.gskip (want_f rfl rfl (show _ = Value.bool (decide (0 ≤ s_1_2)) from rfl) hq497) ?_
                            refine lex.gskip (want_f rfl rfl (show _ = Value.bool (decide (0 ≤ s_1_2)) from rfl) hq497) ?_
                            refine lex.pure (v := .bool false) (pu_pickF (q := (decide (0 ≤ s_1_2))) rfl hq497 rfl) ?_
                            refine lex.pure (v := .bool false) (pu_assign rfl) ?_
                            refine lex.nil ?_
                            exact hK495 _ _ ⟨false, e3, e4, e5, e6, e7, rfl, e12, e13, e14, hC.sel [4, 5, 6, 3, 1, 0] (by decide), hb⟩
                        · replace hb := (cF hq496).symm.trans hb
                          refine lex.gskip (want_f rfl rfl (show _ = Value.bool v9_0 from rfl) hq496) ?_
                          refine lex.gskip (want_f rfl rfl (show _ = Value.bool v9_0 from rfl) hq496) ?_
                          refine lex.gskip (want_f rfl rfl (show _ = Value.bool v9_0 from rfl) hq496) ?_
                          refine lex.pure (v := .bool false) (pu_pickF (q := v9_0) rfl hq496 rfl) ?_
                          refine lex.pure (v := .bool false) (pu_move rfl) ?_
                          refine lex.gskip (want_f rfl rfl (show _ = Value.bool false from rfl) rfl) ?_
                          refine lex.gskip (want_f rfl rfl (show _ = Value.bool false from rfl) rfl) ?_
                          refine lex.gskip (want_f rfl rfl (show _ = Value.bool false from rfl) rfl) ?_
                          refine lex.gskip (want_f rfl rfl (show _ = Value.bool false from rfl) rfl) ?_
                          refine lex.pure (v := .bool false) (pu_pickF (q := false) rfl rfl rfl) ?_
                          refine lex.pure (v := .bool false) (pu_assign rfl) ?_
                          refine lex.nil ?_
                          exact hK495 _ _ ⟨false, e3, e4, e5, e6, e7, rfl, e12, e13, e14, hC.sel [4, 5, 6, 3, 1, 0] (by decide), hb⟩
                      · clear hb hC
                        rintro E499 w498 ⟨v11_17, e3, e4, e5, e6, e7, e11, e12, e13, e14, hC, hb⟩
                        unfold F.ref36_Apply_j17 at hb
                        refine Wc.seq fun K500 hK500 => ?_
                        refine Wc.seq fun K501 hK501 => ?_
                        refine Wc.region (by decide +kernel) ?_
                        refine lex.pure (v := .bool v11_17) (pu_move e11) ?_
                        refine lex.nil ?_
                        refine hK501 _ _ ?_
                        refine Wc.cond (t := v11_17) (rfl) (fun hq502 => ?_) (fun hq502 => ?_)
                        · replace hb := (cT hq502).symm.trans hb
                          refine Wc.region (by decide +kernel) ?_
                          refine lex.pure (v := .slice Ab_0_1 b_0_1.length cb_0_1) (pu_move e7) ?_
                          refine lex.pure (v := .pointer (some ((⟨g6, 0, none⟩ : Addr).add 2))) (pu_field (sz := 1) Try.underlying33 rfl Try.sizeOf3 (by decide) rfl e3) ?_
                          refine lex.val (v := .int .i64 s_1_2) (ld_fld (hC.bx (i := 0) rfl) Try.isAgg3 rfl rfl) ?_
                          refine lex.pure (v := .pointer (some ((⟨g6, 0, none⟩ : Addr).add 1))) (pu_field (sz := 1) Try.underlying33 rfl Try.sizeOf3 (by decide) rfl e3) ?_
                          refine lex.val (v := .int .i64 s_1_1) (ld_fld (hC.bx (i := 0) rfl) Try.isAgg3 rfl rfl) ?_
                          refine lex.pure (v := .pointer (some ((⟨g6, 0, none⟩ : Addr).add 1))) (pu_field (sz := 1) Try.underlying33 rfl Try.sizeOf3 (by decide) rfl e3) ?_
                          refine lex.val (v := .int .i64 s_1_1) (ld_fld (hC.bx (i := 0) rfl) Try.isAgg3 rfl rfl) ?_
                          refine lex.pure (v := .int .i64 (wr (-s_1_1))) (pu_negw (a := s_1_1) rfl) ?_
                          refine lex.op (hC.lit (s := (.int .i64)) (vs := [.int .i64 s_1_1, .int .i64 (wr (-s_1_1))]) (xs := [s_1_1, (wr (-s_1_1))]) Try.underlying22 Try.type3 rfl rfl (Nat.le_of_ble_eq_true rfl) rfl rfl (by simp [Value.cells, Sh.n]) rfl (show Elems _ _ (.int .i64) ([.int .i64 s_1_1] ++ ([.int .i64 (wr (-s_1_1))] ++ ([]))) ([s_1_1, (wr (-s_1_1))] : List Int) from Elems.cons (⟨rfl, I64.wr hs_1_1⟩) (Elems.cons (⟨rfl, I64.wr (I64_wr _)⟩) (Elems.nil _ _ _)))) ?_
                          rintro _ w507 ⟨A503, c504, rfl, hl505, hc506, hC, hF, hN⟩
                          clear hF hN
                          obtain ⟨y509, h510, hb⟩ := bd hb
                          refine lex.cl (⟨_, _, op_call (vs := [.slice Ab_0_1 b_0_1.length cb_0_1, .int .i64 s_1_2, .int .i64 0, .slice A503 ((([s_1_1, (wr (-s_1_1))] : List Int)).length) c504]) Try.call35 rfl rfl rfl, ref36_splice_ok n (hC.lentLt [.slice A503 ((([s_1_1, (wr (-s_1_1))] : List Int)).length) c504]) ((hC.rd (i := 4) rfl).lent [.slice A503 ((([s_1_1, (wr (-s_1_1))] : List Int)).length) c504]) hs_1_2 (show I64 0 from by unfold I64; omega) ((hC.ow (i := 0) rfl).lend (vs := [.slice A503 ((([s_1_1, (wr (-s_1_1))] : List Int)).length) c504]) (by simp)) h510⟩) ?_
                          rintro _ w515 ⟨A511, m512, c513, rfl, hK⟩
                          replace hC := hC.mergeF hK rfl
                          clear hK
                          obtain ⟨rfl, hl516, hc517⟩ := (hC.ow (i := 0) rfl).sl_len
                          refine lex.pure (v := .pointer (some ((⟨g40, 0, none⟩ : Addr).add 1))) (pu_field (sz := 1) Try.underlying32 rfl Try.sizeOf22 (by decide) rfl e13) ?_
                          refine lex.sk (hC.setf (i := 6) (k := 1) (v := .slice A511 y509.length c513) rfl Try.sizeOf22 rfl rfl rfl rfl) ?_
                          rintro w518 ⟨hC, hF⟩
                          refine lex.nil ?_
                          refine hK500 _ _ ?_
                          refine Wc.fresh fun E519 hE => ?_
                          have e3 : E519 3 = .pointer (some ⟨g6, 0, none⟩) := (congrFun hE 3).trans e3
                          have e4 : E519 4 = .pointer (some ⟨g9, 0, none⟩) := (congrFun hE 4).trans e4
                          have e5 : E519 5 = .pointer (some ⟨g12, 0, none⟩) := (congrFun hE 5).trans e5
                          have e6 : E519 6 = .int .i64 0 := (congrFun hE 6).trans e6
                          have e11 : E519 11 = .bool v11_17 := (congrFun hE 11).trans e11
                          have e12 : E519 12 = .bool true := (congrFun hE 12).trans e12
                          have e13 : E519 13 = .pointer (some ⟨g40, 0, none⟩) := (congrFun hE 13).trans e13
                          have e14 : E519 14 = .pointer (some ⟨g43, 0, none⟩) := (congrFun hE 14).trans e14
                          clear hE
                          refine Wc.region (by decide +kernel) ?_
                          refine lex.pure (v := .pointer (some ((⟨g6, 0, none⟩ : Addr).add 2))) (pu_field (sz := 1) Try.underlying33 rfl Try.sizeOf3 (by decide) rfl e3) ?_
                          refine lex.val (v := .int .i64 s_1_2) (ld_fld (hC.bx (i := 2) rfl) Try.isAgg3 rfl rfl) ?_
                          refine lex.pure (v := .agg #[.int .i64 7, .int .i64 0, .int .i64 s_1_2]) (pu_builds (places := [(0, 1), (1, 1), (2, 1)]) (pv := [(0, .int .i64 7), (2, .int .i64 s_1_2)]) Try.type33 Try.underlying33 rfl (mp_cons Try.type3 (mp_cons Try.type3 (mp_cons Try.type3 mp_nil rfl rfl) rfl rfl) rfl rfl) rfl (by simp [Instr.fill, Value.cells])) ?_
                          refine lex.sk (hC.seta (i := 7) (ds := [.int .i64 7, .int .i64 0, .int .i64 s_1_2]) rfl Try.type33 rfl rfl rfl e14 rfl) ?_
                          rintro w520 ⟨hC, hF⟩
                          refine lex.nil ?_
                          replace hC := hC.freeze (i := 0) rfl (hC.own_new (i := 0) rfl)
                          exact hK48 _ _ ⟨v11_17, true, b_0_0, y509, 7, 0, s_1_2, A511, y509.length, c513, e4, e5, e6, e11, e12, e13, e14, hb_0_0, (show I64 7 from by unfold I64; omega), (show I64 0 from by unfold I64; omega), hs_1_2, hC.sel [3, 4, 6, 0, 7] (by decide), hb⟩
                        · replace hb := (cF hq502).symm.trans hb
                          refine Wc.skip ?_
                          refine hK500 _ _ ?_
                          refine Wc.region (by decide +kernel) ?_
                          refine lex.pure (v := .pointer (some ((⟨g6, 0, none⟩ : Addr).add 2))) (pu_field (sz := 1) Try.underlying33 rfl Try.sizeOf3 (by decide) rfl e3) ?_
                          refine lex.val (v := .int .i64 s_1_2) (ld_fld (hC.bx (i := 0) rfl) Try.isAgg3 rfl rfl) ?_
                          refine lex.pure (v := .agg #[.int .i64 7, .int .i64 0, .int .i64 s_1_2]) (pu_builds (places := [(0, 1), (1, 1), (2, 1)]) (pv := [(0, .int .i64 7), (2, .int .i64 s_1_2)]) Try.type33 Try.underlying33 rfl (mp_cons Try.type3 (mp_cons Try.type3 (mp_cons Try.type3 mp_nil rfl rfl) rfl rfl) rfl rfl) rfl (by simp [Instr.fill, Value.cells])) ?_
                          refine lex.sk (hC.seta (i := 5) (ds := [.int .i64 7, .int .i64 0, .int .i64 s_1_2]) rfl Try.type33 rfl rfl rfl e14 rfl) ?_
                          rintro w521 ⟨hC, hF⟩
                          refine lex.nil ?_
                          replace hC := hC.ro (show Rep _ _ (.sl (.int .i64)) [.slice none 0 0] [] from ⟨none, 0, rfl, Nat.le_refl _, by omega, fun h => absurd h (by simp)⟩)
                          exact hK48 _ _ ⟨v11_17, true, b_0_0, ([] : List Int), 7, 0, s_1_2, none, 0, 0, e4, e5, e6, e11, e12, e13, e14, hb_0_0, (show I64 7 from by unfold I64; omega), (show I64 0 from by unfold I64; omega), hs_1_2, hC.sel [2, 3, 5, 0, 6] (by decide), hb⟩
                    · replace hb := (cF hq494).symm.trans hb
                      refine Wc.seq fun K523 hK523 => ?_
                      refine Wc.region (by decide +kernel) ?_
                      refine lex.pure (v := .bool (decide (s_1_0 = 7))) (pu_eql (k := .i64) (a := s_1_0) (b := 7) e65 rfl) ?_
                      refine lex.pure (v := .bool (decide (s_1_0 = 7))) (pu_assign rfl) ?_
                      refine lex.nil ?_
                      refine hK523 _ _ ?_
                      refine Wc.cond (t := (decide (s_1_0 = 7))) (rfl) (fun hq524 => ?_) (fun hq524 => ?_)
                      · replace hb := (cT hq524).symm.trans hb
                        refine Wc.seqJ (fun E wv => ∃ (v11_18 : Bool), E 3 = .pointer (some ⟨g6, 0, none⟩) ∧ E 4 = .pointer (some ⟨g9, 0, none⟩) ∧ E 5 = .pointer (some ⟨g12, 0, none⟩) ∧ E 6 = .int .i64 0 ∧ E 7 = .slice Ab_0_1 b_0_1.length cb_0_1 ∧ E 8 = .int .i64 (b_0_1.length : Int) ∧ E 11 = .bool v11_18 ∧ E 12 = .bool true ∧ E 13 = .pointer (some ⟨g40, 0, none⟩) ∧ E 14 = .pointer (some ⟨g43, 0, none⟩) ∧ Cx (fun _ => False) O0 w wv [.box g6 33 [.int .i64 s_1_0, .int .i64 s_1_1, .int .i64 s_1_2], .box g9 32 [.int .i64 0, .slice none 0 0], .box g12 33 [.int .i64 0, .int .i64 0, .int .i64 0], .ro (.sl (.int .i64)) [.slice Ab_0_1 b_0_1.length cb_0_1] b_0_1, .box g40 32 [.int .i64 b_0_0, .slice none 0 0], .box g43 33 [.int .i64 0, .int .i64 0, .int .i64 0]] ∧ F.ref36_Apply_j18 n b_0_0 b_0_1 s_1_2 v11_18 = some r) (fun K525 hK525 => ?_) ?_
                        ·
                          skip
                          refine Wc.region (by decide +kernel) ?_
                          refine lex.pure (v := .pointer (some ((⟨g6, 0, none⟩ : Addr).add 1))) (pu_field (sz := 1) Try.underlying33 rfl Try.sizeOf3 (by decide) rfl e3) ?_
                          refine lex.val (v := .int .i64 s_1_1) (ld_fld (hC.bx (i := 4) rfl) Try.isAgg3 rfl rfl) ?_
                          refine lex.pure (v := .bool (decide (s_1_1 = 0))) (pu_eql (k := .i64) (a := s_1_1) (b := 0) rfl rfl) ?_
                          refine lex.pure (v := .bool (decide (s_1_1 = 0))) (pu_move rfl) ?_
                          rcases bS (decide (s_1_1 = 0)) with hq526 | hq526
                          · replace hb := (cT hq526).symm.trans hb
                            refine lex.gpure (want_t rfl rfl (show _ = Value.bool (decide (s_1_1 = 0)) from rfl) hq526) (v := .bool v10_1) (pu_move e10) ?_
                            refine lex.pure (v := .bool v10_1) (pu_pickT (q := (decide (s_1_1 = 0))) rfl hq526 rfl) ?_
                            refine lex.pure (v := .bool v10_1) (pu_assign rfl) ?_
                            refine lex.nil ?_
                            exact hK525 _ _ ⟨v10_1, e3, e4, e5, e6, e7, e8, rfl, e12, e13, e14, hC.sel [4, 5, 6, 3, 1, 0] (by decide), hb⟩
                          · replace hb := (cF hq526).symm.trans hb
                            refine lex.gskip (want_f rfl rfl (show _ = Value.bool (decide (s_1_1 = 0)) from rfl) hq526) ?_
                            refine lex.pure (v := .bool false) (pu_pickF (q := (decide (s_1_1 = 0))) rfl hq526 rfl) ?_
                            refine lex.pure (v := .bool false) (pu_assign rfl) ?_
                            refine lex.nil ?_
                            exact hK525 _ _ ⟨false, e3, e4, e5, e6, e7, e8, rfl, e12, e13, e14, hC.sel [4, 5, 6, 3, 1, 0] (by decide), hb⟩
                        · clear hb hC
                          rintro E528 w527 ⟨v11_18, e3, e4, e5, e6, e7, e8, e11, e12, e13, e14, hC, hb⟩
                          unfold F.ref36_Apply_j18 at hb
                          refine Wc.seqJ (fun E wv => ∃ (v12_19 : Bool), E 3 = .pointer (some ⟨g6, 0, none⟩) ∧ E 4 = .pointer (some ⟨g9, 0, none⟩) ∧ E 5 = .pointer (some ⟨g12, 0, none⟩) ∧ E 6 = .int .i64 0 ∧ E 7 = .slice Ab_0_1 b_0_1.length cb_0_1 ∧ E 11 = .bool v11_18 ∧ E 12 = .bool v12_19 ∧ E 13 = .pointer (some ⟨g40, 0, none⟩) ∧ E 14 = .pointer (some ⟨g43, 0, none⟩) ∧ Cx (fun _ => False) O0 w wv [.box g6 33 [.int .i64 s_1_0, .int .i64 s_1_1, .int .i64 s_1_2], .box g9 32 [.int .i64 0, .slice none 0 0], .box g12 33 [.int .i64 0, .int .i64 0, .int .i64 0], .ro (.sl (.int .i64)) [.slice Ab_0_1 b_0_1.length cb_0_1] b_0_1, .box g40 32 [.int .i64 b_0_0, .slice none 0 0], .box g43 33 [.int .i64 0, .int .i64 0, .int .i64 0]] ∧ F.ref36_Apply_j19 n b_0_0 b_0_1 s_1_2 v11_18 v12_19 = some r) (fun K529 hK529 => ?_) ?_
                          ·
                            skip
                            refine Wc.region (by decide +kernel) ?_
                            refine lex.pure (v := .bool v11_18) (pu_move e11) ?_
                            refine lex.pure (v := .bool v11_18) (pu_move rfl) ?_
                            rcases bS v11_18 with hq530 | hq530
                            · replace hb := (cT hq530).symm.trans hb
                              refine lex.gpure (want_t rfl rfl (show _ = Value.bool v11_18 from rfl) hq530) (v := .pointer (some ((⟨g6, 0, none⟩ : Addr).add 2))) (pu_field (sz := 1) Try.underlying33 rfl Try.sizeOf3 (by decide) rfl e3) ?_
                              refine lex.gval (want_t rfl rfl (show _ = Value.bool v11_18 from rfl) hq530) (v := .int .i64 s_1_2) (ld_fld (hC.bx (i := 0) rfl) Try.isAgg3 rfl rfl) ?_
                              refine lex.gpure (want_t rfl rfl (show _ = Value.bool v11_18 from rfl) hq530) (v := .int .i64 (wr (s_1_2 + 1))) (pu_addw (a := s_1_2) (b := 1) rfl rfl) ?_
                              refine lex.gpure (want_t rfl rfl (show _ = Value.bool v11_18 from rfl) hq530) (v := .int .i64 (b_0_1.length : Int)) (pu_move e8) ?_
                              refine lex.gpure (want_t rfl rfl (show _ = Value.bool v11_18 from rfl) hq530) (v := .bool (decide ((wr (s_1_2 + 1)) < (b_0_1.length : Int)))) (pu_lss (k := .i64) (a := (wr (s_1_2 + 1))) (b := (b_0_1.length : Int)) rfl rfl) ?_
                              refine lex.pure (v := .bool (decide ((wr (s_1_2 + 1)) < (b_0_1.length : Int)))) (pu_pickT (q := v11_18) rfl hq530 rfl) ?_
                              refine lex.pure (v := .bool (decide ((wr (s_1_2 + 1)) < (b_0_1.length : Int)))) (pu_assign rfl) ?_
                              refine lex.nil ?_
                              exact hK529 _ _ ⟨(decide ((wr (s_1_2 + 1)) < (b_0_1.length : Int))), e3, e4, e5, e6, e7, e11, rfl, e13, e14, hC.sel [0, 1, 2, 3, 4, 5] (by decide), hb⟩
                            · replace hb := (cF hq530).symm.trans hb
                              refine lex.gskip (want_f rfl rfl (show _ = Value.bool v11_18 from rfl) hq530) ?_
                              refine lex.gskip (want_f rfl rfl (show _ = Value.bool v11_18 from rfl) hq530) ?_
                              refine lex.gskip (want_f rfl rfl (show _ = Value.bool v11_18 from rfl) hq530) ?_
                              refine lex.gskip (want_f rfl rfl (show _ = Value.bool v11_18 from rfl) hq530) ?_
                              refine lex.gskip (want_f rfl rfl (show _ = Value.bool v11_18 from rfl) hq530) ?_
                              refine lex.pure (v := .bool false) (pu_pickF (q := v11_18) rfl hq530 rfl) ?_
                              refine lex.pure (v := .bool false) (pu_assign rfl) ?_
                              refine lex.nil ?_
                              exact hK529 _ _ ⟨false, e3, e4, e5, e6, e7, e11, rfl, e13, e14, hC.sel [0, 1, 2, 3, 4, 5] (by decide), hb⟩
                          · clear hb hC
                            rintro E532 w531 ⟨v12_19, e3, e4, e5, e6, e7, e11, e12, e13, e14, hC, hb⟩
                            unfold F.ref36_Apply_j19 at hb
                            refine Wc.seq fun K533 hK533 => ?_
                            refine Wc.region (by decide +kernel) ?_
                            refine lex.pure (v := .bool v12_19) (pu_move e12) ?_
                            refine lex.nil ?_
                            refine hK533 _ _ ?_
                            refine Wc.cond (t := v12_19) (rfl) (fun hq534 => ?_) (fun hq534 => ?_)
                            · replace hb := (cT hq534).symm.trans hb
                              refine Wc.seq fun K535 hK535 => ?_
                              refine Wc.regionMix [] (frm [] ([] : List Fact) ([] : List Fact)) (fun _ => rfl) mixed (by decide +kernel) (by decide +kernel) fun w537 hw536 => ?_
                              replace hC := hC.step (Fr.of_drew hw536)
                              have hM := Fr.refl (fun k => k ∈ blocks ([] : List Fact)) w537
                              clear hw536
                              have hS := hC
                              refine mixE.pure (v := .slice Ab_0_1 b_0_1.length cb_0_1) (pu_move e7) ?_
                              refine mixE.pure (v := .pointer (some ((⟨g6, 0, none⟩ : Addr).add 2))) (pu_field (sz := 1) Try.underlying33 rfl Try.sizeOf3 (by decide) rfl e3) ?_
                              refine mixE.load hM (v := .int .i64 s_1_2) (fun _ hF => ld_fld (hS.bx2 (i := 0) rfl [] (by decide) hF) Try.isAgg3 rfl rfl) ?_
                              obtain ⟨x538, h539, hb⟩ := bd hb
                              obtain ⟨ad540, cs541, hA, ho544, hc542, hr543⟩ := hS.elr2 (i := 3) rfl (get_some h539).2 []
                              subst hA
                              refine mixE.pure (v := .pointer (some (ad540.add (s_1_2.toNat * 1)))) (pu_index (a := s_1_2) Try.underlying22 Try.sizeOf3 rfl rfl (get_some h539).1) ?_
                              obtain ⟨rfl, hr543'⟩ := hr543
                              refine mixE.load hM (v := .int .i64 x538) (fun _ hF => ld_one Try.isAgg3 rfl (hF.cell (hc542 0 _ rfl) (off1 ho544))) ?_
                              refine mixE.pure (v := .slice (some ad540) b_0_1.length cb_0_1) (pu_move e7) ?_
                              refine mixE.pure (v := .pointer (some ((⟨g6, 0, none⟩ : Addr).add 2))) (pu_field (sz := 1) Try.underlying33 rfl Try.sizeOf3 (by decide) rfl e3) ?_
                              refine mixE.load hM (v := .int .i64 s_1_2) (fun _ hF => ld_fld (hS.bx2 (i := 0) rfl [] (by decide) hF) Try.isAgg3 rfl rfl) ?_
                              refine mixE.pure (v := .int .i64 (wr (s_1_2 + 1))) (pu_addw (a := s_1_2) (b := 1) rfl rfl) ?_
                              obtain ⟨x545, h546, hb⟩ := bd hb
                              obtain ⟨ad547, cs548, hA, ho551, hc549, hr550⟩ := hS.elr2 (i := 3) rfl (get_some h546).2 []
                              obtain rfl := Option.some.inj hA
                              refine mixE.pure (v := .pointer (some (ad540.add ((wr (s_1_2 + 1)).toNat * 1)))) (pu_index (a := (wr (s_1_2 + 1))) Try.underlying22 Try.sizeOf3 rfl rfl (get_some h546).1) ?_
                              obtain ⟨rfl, hr550'⟩ := hr550
                              refine mixE.load hM (v := .int .i64 x545) (fun _ hF => ld_one Try.isAgg3 rfl (hF.cell (hc549 0 _ rfl) (off1 ho551))) ?_
                              refine mixE.pure (v := .int .i64 (wr (-x545))) (pu_negw (a := x545) rfl) ?_
                              refine mixE.pure (v := .bool (decide (x538 = (wr (-x545))))) (pu_eql (k := .i64) (a := x538) (b := (wr (-x545))) rfl rfl) ?_
                              refine mixE.pure (v := .bool (decide (x538 = (wr (-x545))))) (pu_assign rfl) ?_
                              refine mixE.nil ?_
                              clear hS hM
                              refine hK535 _ _ ?_
                              refine Wc.fresh fun E552 hE => ?_
                              have e3 : E552 3 = .pointer (some ⟨g6, 0, none⟩) := (congrFun hE 3).trans e3
                              have e4 : E552 4 = .pointer (some ⟨g9, 0, none⟩) := (congrFun hE 4).trans e4
                              have e5 : E552 5 = .pointer (some ⟨g12, 0, none⟩) := (congrFun hE 5).trans e5
                              have e6 : E552 6 = .int .i64 0 := (congrFun hE 6).trans e6
                              have e7 : E552 7 = .slice (some ad540) b_0_1.length cb_0_1 := (congrFun hE 7).trans e7
                              have e11 : E552 11 = .bool v11_18 := (congrFun hE 11).trans e11
                              have e12 : E552 12 = .bool (decide (x538 = (wr (-x545)))) := (congrFun hE 12).trans rfl
                              have e13 : E552 13 = .pointer (some ⟨g40, 0, none⟩) := (congrFun hE 13).trans e13
                              have e14 : E552 14 = .pointer (some ⟨g43, 0, none⟩) := (congrFun hE 14).trans e14
                              clear hE
                              refine Wc.seq fun K553 hK553 => ?_
                              refine Wc.region (by decide +kernel) ?_
                              refine lex.pure (v := .slice (some ad540) b_0_1.length cb_0_1) (pu_move e7) ?_
                              refine lex.pure (v := .pointer (some ((⟨g6, 0, none⟩ : Addr).add 2))) (pu_field (sz := 1) Try.underlying33 rfl Try.sizeOf3 (by decide) rfl e3) ?_
                              refine lex.val (v := .int .i64 s_1_2) (ld_fld (hC.bx (i := 0) rfl) Try.isAgg3 rfl rfl) ?_
                              obtain ⟨y554, h555, hb⟩ := bd hb
                              refine lex.cl (⟨_, _, op_call (vs := [.slice (some ad540) b_0_1.length cb_0_1, .int .i64 s_1_2, .int .i64 2, .slice none 0 0]) Try.call35 rfl rfl rfl, ref36_splice_ok n hC.lt (hC.rd (i := 3) rfl) hs_1_2 (show I64 2 from by unfold I64; omega) ((show Rep _ _ (.sl (.int .i64)) [.slice none 0 0] ([] : List Int) from ⟨none, 0, rfl, Nat.le_refl _, by omega, fun h => absurd h (by simp)⟩)) h555⟩) ?_
                              rintro _ w560 ⟨A556, m557, c558, rfl, hK⟩
                              replace hC := hC.merge hK
                              clear hK
                              obtain ⟨rfl, hl561, hc562⟩ := (hC.ow (i := 0) rfl).sl_len
                              refine lex.pure (v := .pointer (some ((⟨g40, 0, none⟩ : Addr).add 1))) (pu_field (sz := 1) Try.underlying32 rfl Try.sizeOf22 (by decide) rfl e13) ?_
                              refine lex.sk (hC.setf (i := 5) (k := 1) (v := .slice A556 y554.length c558) rfl Try.sizeOf22 rfl rfl rfl rfl) ?_
                              rintro w563 ⟨hC, hF⟩
                              refine lex.nil ?_
                              refine hK553 _ _ ?_
                              refine Wc.regionMix [414, 416, 418] (frm [414, 416, 418] ([] : List Fact) [.box g43 33 [.int .i64 0, .int .i64 0, .int .i64 0]]) (fun _ => rfl) mixed (by decide +kernel) (by decide +kernel) fun w565 hw564 => ?_
                              replace hC := hC.step (Fr.of_drew hw564)
                              have hM := Fr.refl (fun k => k ∈ blocks ([] : List Fact)) w565
                              clear hw564
                              have hS := hC
                              have hD : Fr (fun k => k ∈ blocks (([] : List Fact) ++ [.box g43 33 [.int .i64 0, .int .i64 0, .int .i64 0]])) w565 w565 := hM.wide
                              have hUf45 : g43 < w565.heap.size → g43 ∈ blocks (([] : List Fact) ++ [.box g43 33 [.int .i64 0, .int .i64 0, .int .i64 0]]) := fun _ => box_in (i := 0) rfl
                              refine mixE.pure (v := .slice (some ad540) b_0_1.length cb_0_1) (pu_move e7) ?_
                              refine mixE.pure (v := .pointer (some ((⟨g6, 0, none⟩ : Addr).add 2))) (pu_field (sz := 1) Try.underlying33 rfl Try.sizeOf3 (by decide) rfl e3) ?_
                              refine mixE.steady hD (v := .int .i64 s_1_2) (fun _ hF => ld_fld (hS.bx2 (i := 1) rfl [6] (by decide) hF) Try.isAgg3 rfl rfl) ?_
                              obtain ⟨x566, h567, hb⟩ := bd hb
                              obtain ⟨ad568, cs569, hA, ho572, hc570, hr571⟩ := hS.elr2 (i := 4) rfl (get_some h567).2 [6]
                              obtain rfl := Option.some.inj hA
                              refine mixE.pure (v := .pointer (some (ad540.add (s_1_2.toNat * 1)))) (pu_index (a := s_1_2) Try.underlying22 Try.sizeOf3 rfl rfl (get_some h567).1) ?_
                              obtain ⟨rfl, hr571'⟩ := hr571
                              refine mixE.steady hD (v := .int .i64 x566) (fun _ hF => ld_one Try.isAgg3 rfl (hF.cell (hc570 0 _ rfl) (off1 ho572))) ?_
                              refine mixE.pure (v := .pointer (some ((⟨g6, 0, none⟩ : Addr).add 2))) (pu_field (sz := 1) Try.underlying33 rfl Try.sizeOf3 (by decide) rfl e3) ?_
                              refine mixE.steady hD (v := .int .i64 s_1_2) (fun _ hF => ld_fld (hS.bx2 (i := 1) rfl [6] (by decide) hF) Try.isAgg3 rfl rfl) ?_
                              refine mixE.pure (v := .agg #[.int .i64 6, .int .i64 x566, .int .i64 s_1_2]) (pu_builds (places := [(0, 1), (1, 1), (2, 1)]) (pv := [(0, .int .i64 6), (1, .int .i64 x566), (2, .int .i64 s_1_2)]) Try.type33 Try.underlying33 rfl (mp_cons Try.type3 (mp_cons Try.type3 (mp_cons Try.type3 mp_nil rfl rfl) rfl rfl) rfl rfl) rfl (by simp [Instr.fill, Value.cells])) ?_
                              refine mixE.sk hD (hC.seta (i := 6) (ds := [.int .i64 6, .int .i64 x566, .int .i64 s_1_2]) rfl Try.type33 rfl rfl rfl e14 rfl) ?_
                              rintro w573 ⟨hC, hF⟩
                              replace hD := hD.besideG hUf45 hF
                              clear hF
                              refine ⟨hD, ?_⟩
                              refine mixE.nil ?_
                              clear hS hM
                              clear hD
                              replace hC := hC.freeze (i := 0) rfl (hC.own_new (i := 0) rfl)
                              exact hK48 _ _ ⟨v11_18, (decide (x538 = (wr (-x545)))), b_0_0, y554, 6, x566, s_1_2, A556, y554.length, c558, e4, e5, e6, e11, e12, e13, e14, hb_0_0, (show I64 6 from by unfold I64; omega), (wrap_I64 hr571'), hs_1_2, hC.sel [2, 3, 5, 0, 6] (by decide), hb⟩
                            · replace hb := (cF hq534).symm.trans hb
                              refine Wc.skip ?_
                              replace hC := hC.ro (show Rep _ _ (.sl (.int .i64)) [.slice none 0 0] [] from ⟨none, 0, rfl, Nat.le_refl _, by omega, fun h => absurd h (by simp)⟩)
                              exact hK48 _ _ ⟨v11_18, v12_19, b_0_0, ([] : List Int), 0, 0, 0, none, 0, 0, e4, e5, e6, e11, e12, e13, e14, hb_0_0, (show I64 0 from by unfold I64; omega), (show I64 0 from by unfold I64; omega), (show I64 0 from by unfold I64; omega), hC.sel [2, 3, 5, 0, 6] (by decide), hb⟩
                      · replace hb := (cF hq524).symm.trans hb
                        refine Wc.seq fun K575 hK575 => ?_
                        refine Wc.region (by decide +kernel) ?_
                        refine lex.pure (v := .agg #[.int .i64 0, .slice none 0 0]) (pu_builds (places := [(0, 1), (1, 1)]) (pv := []) Try.type32 Try.underlying32 rfl (mp_cons Try.type3 (mp_cons Try.type22 mp_nil rfl rfl) rfl rfl) rfl (by simp [Instr.fill, Value.cells])) ?_
                        refine lex.pure (v := .agg #[.int .i64 0, .int .i64 0, .int .i64 0]) (pu_builds (places := [(0, 1), (1, 1), (2, 1)]) (pv := []) Try.type33 Try.underlying33 rfl (mp_cons Try.type3 (mp_cons Try.type3 (mp_cons Try.type3 mp_nil rfl rfl) rfl rfl) rfl rfl) rfl (by simp [Instr.fill, Value.cells])) ?_
                        refine lex.sk (hC.seta (i := 5) (ds := [.int .i64 0, .slice none 0 0]) rfl Try.type32 rfl rfl rfl e4 rfl) ?_
                        rintro w576 ⟨hC, hF⟩
                        refine lex.sk (hC.seta (i := 6) (ds := [.int .i64 0, .int .i64 0, .int .i64 0]) rfl Try.type33 rfl rfl rfl e5 rfl) ?_
                        rintro w577 ⟨hC, hF⟩
                        refine lex.pure (v := .int .i64 11) (pu_assign rfl) ?_
                        refine lex.nil ?_
                        refine hK575 _ _ ?_
                        replace hC := hC.ro (show Rep _ _ (.sl (.int .i64)) [.slice none 0 0] [] from ⟨none, 0, rfl, Nat.le_refl _, by omega, fun h => absurd h (by simp)⟩)
                        obtain rfl := Option.some.inj hb
                        refine Wc.ret ?_
                        refine hKR _ _ ?_
                        refine ⟨_, res3 Try.results13 ⟨_, e4, loadVar_blk (hC.bx (i := 6) rfl) Try.isAgg32 Try.sizeOf32⟩ ⟨_, e5, loadVar_blk (hC.bx (i := 7) rfl) Try.isAgg33 Try.sizeOf33⟩ (show RV _ _ _ (.tmp _) (.int .i64 11) from rfl), _, rfl, none, 0, 0, rfl, (show I64 0 from by unfold I64; omega), (show I64 0 from by unfold I64; omega), (show I64 0 from by unfold I64; omega), (show I64 0 from by unfold I64; omega), (show I64 11 from by unfold I64; omega), hC.sel [0] (by decide)⟩
        · clear hb hC
          rintro E580 w579 ⟨v11_2, v12_2, bf42_0_2, kf42_1_2, bf45_0_2, bf45_1_2, bf45_2_2, Akf42_1_2, mkf42_1_2, ckf42_1_2, e4, e5, e6, e11, e12, e13, e14, hrbf42_0_2, hrbf45_0_2, hrbf45_1_2, hrbf45_2_2, hC, hb⟩
          unfold F.ref36_Apply_j2 at hb
          obtain ⟨rfl, hlkf42_1_2, hckf42_1_2⟩ := (hC.rd (i := 3) rfl).sl_len
          refine Wc.seq fun K581 hK581 => ?_
          refine Wc.region (by decide +kernel) ?_
          refine lex.pure (v := .int .i64 0) (pu_assign rfl) ?_
          refine lex.nil ?_
          refine hK581 _ _ ?_
          refine Wc.seqJ (fun E wv => ∃ (v19_20 : Int), E 4 = .pointer (some ⟨g9, 0, none⟩) ∧ E 5 = .pointer (some ⟨g12, 0, none⟩) ∧ E 6 = .int .i64 0 ∧ E 13 = .pointer (some ⟨g40, 0, none⟩) ∧ E 14 = .pointer (some ⟨g43, 0, none⟩) ∧ E 19 = .int .i64 v19_20 ∧ I64 v19_20 ∧ Cx (fun _ => False) O0 w wv [.box g9 32 [.int .i64 0, .slice none 0 0], .box g12 33 [.int .i64 0, .int .i64 0, .int .i64 0], .box g40 32 [.int .i64 bf42_0_2, .slice Akf42_1_2 kf42_1_2.length ckf42_1_2], .ro (.sl (.int .i64)) [.slice Akf42_1_2 kf42_1_2.length ckf42_1_2] kf42_1_2, .box g43 33 [.int .i64 bf45_0_2, .int .i64 bf45_1_2, .int .i64 bf45_2_2]] ∧ F.ref36_Apply_j20 n bf42_0_2 kf42_1_2 bf45_0_2 bf45_1_2 bf45_2_2 v19_20 = some r) (fun K582 hK582 => ?_) ?_
          ·
            skip
            refine Wc.seq fun K583 hK583 => ?_
            refine Wc.region (by decide +kernel) ?_
            refine lex.pure (v := .bool v11_2) (pu_move e11) ?_
            refine lex.pure (v := .bool (!v11_2)) (pu_not (q := v11_2) rfl) ?_
            refine lex.nil ?_
            refine hK583 _ _ ?_
            refine Wc.cond (t := (!v11_2)) (rfl) (fun hq584 => ?_) (fun hq584 => ?_)
            · replace hb := (cT hq584).symm.trans hb
              refine Wc.region (by decide +kernel) ?_
              refine lex.pure (v := .int .i64 2) (pu_assign rfl) ?_
              refine lex.nil ?_
              exact hK582 _ _ ⟨2, e4, e5, e6, e13, e14, rfl, (show I64 2 from by unfold I64; omega), hC.sel [0, 1, 2, 3, 4] (by decide), hb⟩
            · replace hb := (cF hq584).symm.trans hb
              refine Wc.seq fun K585 hK585 => ?_
              refine Wc.region (by decide +kernel) ?_
              refine lex.pure (v := .bool v12_2) (pu_move e12) ?_
              refine lex.pure (v := .bool (!v12_2)) (pu_not (q := v12_2) rfl) ?_
              refine lex.nil ?_
              refine hK585 _ _ ?_
              refine Wc.cond (t := (!v12_2)) (rfl) (fun hq586 => ?_) (fun hq586 => ?_)
              · replace hb := (cT hq586).symm.trans hb
                refine Wc.region (by decide +kernel) ?_
                refine lex.pure (v := .int .i64 6) (pu_assign rfl) ?_
                refine lex.nil ?_
                exact hK582 _ _ ⟨6, e4, e5, e6, e13, e14, rfl, (show I64 6 from by unfold I64; omega), hC.sel [0, 1, 2, 3, 4] (by decide), hb⟩
              · replace hb := (cF hq586).symm.trans hb
                refine Wc.seq fun K587 hK587 => ?_
                refine Wc.region (by decide +kernel) ?_
                refine lex.pure (v := .pointer (some ((⟨g40, 0, none⟩ : Addr).add 0))) (pu_field (sz := 1) Try.underlying32 rfl Try.sizeOf3 (by decide) rfl e13) ?_
                refine lex.val (v := .int .i64 bf42_0_2) (ld_fld (hC.bx (i := 2) rfl) Try.isAgg3 rfl rfl) ?_
                refine lex.pure (v := .bool (decide (10 < bf42_0_2))) (pu_gtr (k := .i64) (a := bf42_0_2) (b := 10) rfl rfl) ?_
                refine lex.pure (v := .bool (decide (10 < bf42_0_2))) (pu_move rfl) ?_
                rcases bS (decide (10 < bf42_0_2)) with hq588 | hq588
                · replace hb := (cT hq588).symm.trans hb
                  refine lex.gskip (want_f rfl rfl (show _ = Value.bool (decide (10 < bf42_0_2)) from rfl) hq588) ?_
                  refine lex.gskip (want_f rfl rfl (show _ = Value.bool (decide (10 < bf42_0_2)) from rfl) hq588) ?_
                  refine lex.gskip (want_f rfl rfl (show _ = Value.bool (decide (10 < bf42_0_2)) from rfl) hq588) ?_
                  refine lex.gskip (want_f rfl rfl (show _ = Value.bool (decide (10 < bf42_0_2)) from rfl) hq588) ?_
                  refine lex.pure (v := .bool true) (pu_pickT (q := (decide (10 < bf42_0_2))) rfl hq588 rfl) ?_
                  refine lex.nil ?_
                  refine hK587 _ _ ?_
                  refine Wc.cond_true (rfl) ?_
                  refine Wc.region (by decide +kernel) ?_
                  refine lex.pure (v := .int .i64 5) (pu_assign rfl) ?_
                  refine lex.nil ?_
                  exact hK582 _ _ ⟨5, e4, e5, e6, e13, e14, rfl, (show I64 5 from by unfold I64; omega), hC.sel [0, 1, 2, 3, 4] (by decide), hb⟩
                · replace hb := (cF hq588).symm.trans hb
                  refine lex.gpure (want_t rfl rfl (show _ = Value.bool (decide (10 < bf42_0_2)) from rfl) hq588) (v := .pointer (some ((⟨g40, 0, none⟩ : Addr).add 1))) (pu_field (sz := 1) Try.underlying32 rfl Try.sizeOf22 (by decide) rfl e13) ?_
                  refine lex.gval (want_t rfl rfl (show _ = Value.bool (decide (10 < bf42_0_2)) from rfl) hq588) (v := .slice Akf42_1_2 kf42_1_2.length ckf42_1_2) (ld_fld (hC.bx (i := 2) rfl) Try.isAgg22 rfl rfl) ?_
                  refine lex.gpure (want_t rfl rfl (show _ = Value.bool (decide (10 < bf42_0_2)) from rfl) hq588) (v := .int .i64 (kf42_1_2.length : Int)) (pu_len (A := Akf42_1_2) (n := kf42_1_2.length) (m := ckf42_1_2) Try.underlying22 rfl) ?_
                  refine lex.gpure (want_t rfl rfl (show _ = Value.bool (decide (10 < bf42_0_2)) from rfl) hq588) (v := .bool (decide (200 < (kf42_1_2.length : Int)))) (pu_gtr (k := .i64) (a := (kf42_1_2.length : Int)) (b := 200) rfl rfl) ?_
                  refine lex.pure (v := .bool (decide (200 < (kf42_1_2.length : Int)))) (pu_pickF (q := (decide (10 < bf42_0_2))) rfl hq588 rfl) ?_
                  refine lex.nil ?_
                  refine hK587 _ _ ?_
                  refine Wc.cond (t := (decide (200 < (kf42_1_2.length : Int)))) (rfl) (fun hq589 => ?_) (fun hq589 => ?_)
                  · replace hb := (cT hq589).symm.trans hb
                    refine Wc.region (by decide +kernel) ?_
                    refine lex.pure (v := .int .i64 5) (pu_assign rfl) ?_
                    refine lex.nil ?_
                    exact hK582 _ _ ⟨5, e4, e5, e6, e13, e14, rfl, (show I64 5 from by unfold I64; omega), hC.sel [0, 1, 2, 3, 4] (by decide), hb⟩
                  · replace hb := (cF hq589).symm.trans hb
                    refine Wc.skip ?_
                    exact hK582 _ _ ⟨0, e4, e5, e6, e13, e14, rfl, (show I64 0 from by unfold I64; omega), hC.sel [0, 1, 2, 3, 4] (by decide), hb⟩
          · clear hb hC
            rintro E591 w590 ⟨v19_20, e4, e5, e6, e13, e14, e19, hrv19_20, hC, hb⟩
            unfold F.ref36_Apply_j20 at hb
            refine Wc.seq fun K592 hK592 => ?_
            refine Wc.seq fun K593 hK593 => ?_
            refine Wc.region (by decide +kernel) ?_
            refine lex.pure (v := .int .i64 v19_20) (pu_move e19) ?_
            refine lex.pure (v := .bool (!(decide (v19_20 = 0)))) (pu_neq (k := .i64) (a := v19_20) (b := 0) rfl rfl) ?_
            refine lex.nil ?_
            refine hK593 _ _ ?_
            refine Wc.cond (t := (!(decide (v19_20 = 0)))) (rfl) (fun hq594 => ?_) (fun hq594 => ?_)
            · replace hb := (cT hq594).symm.trans hb
              refine Wc.seq fun K595 hK595 => ?_
              refine Wc.region (by decide +kernel) ?_
              refine lex.pure (v := .agg #[.int .i64 0, .slice none 0 0]) (pu_builds (places := [(0, 1), (1, 1)]) (pv := []) Try.type32 Try.underlying32 rfl (mp_cons Try.type3 (mp_cons Try.type22 mp_nil rfl rfl) rfl rfl) rfl (by simp [Instr.fill, Value.cells])) ?_
              refine lex.pure (v := .agg #[.int .i64 0, .int .i64 0, .int .i64 0]) (pu_builds (places := [(0, 1), (1, 1), (2, 1)]) (pv := []) Try.type33 Try.underlying33 rfl (mp_cons Try.type3 (mp_cons Try.type3 (mp_cons Try.type3 mp_nil rfl rfl) rfl rfl) rfl rfl) rfl (by simp [Instr.fill, Value.cells])) ?_
              refine lex.pure (v := .int .i64 v19_20) (pu_move e19) ?_
              refine lex.sk (hC.seta (i := 0) (ds := [.int .i64 0, .slice none 0 0]) rfl Try.type32 rfl rfl rfl e4 rfl) ?_
              rintro w596 ⟨hC, hF⟩
              refine lex.sk (hC.seta (i := 1) (ds := [.int .i64 0, .int .i64 0, .int .i64 0]) rfl Try.type33 rfl rfl rfl e5 rfl) ?_
              rintro w597 ⟨hC, hF⟩
              refine lex.pure (v := .int .i64 v19_20) (pu_assign rfl) ?_
              refine lex.nil ?_
              refine hK595 _ _ ?_
              replace hC := hC.ro (show Rep _ _ (.sl (.int .i64)) [.slice none 0 0] [] from ⟨none, 0, rfl, Nat.le_refl _, by omega, fun h => absurd h (by simp)⟩)
              obtain rfl := Option.some.inj hb
              refine Wc.ret ?_
              refine hKR _ _ ?_
              refine ⟨_, res3 Try.results13 ⟨_, e4, loadVar_blk (hC.bx (i := 1) rfl) Try.isAgg32 Try.sizeOf32⟩ ⟨_, e5, loadVar_blk (hC.bx (i := 2) rfl) Try.isAgg33 Try.sizeOf33⟩ (show RV _ _ _ (.tmp _) (.int .i64 v19_20) from rfl), _, rfl, none, 0, 0, rfl, (show I64 0 from by unfold I64; omega), (show I64 0 from by unfold I64; omega), (show I64 0 from by unfold I64; omega), (show I64 0 from by unfold I64; omega), hrv19_20, hC.sel [0] (by decide)⟩
            · replace hb := (cF hq594).symm.trans hb
              refine Wc.skip ?_
              refine hK592 _ _ ?_
              refine Wc.seq fun K599 hK599 => ?_
              refine Wc.regionMix [438, 439] (frm [438, 439] ([] : List Fact) [.box g9 32 [.int .i64 0, .slice none 0 0], .box g12 33 [.int .i64 0, .int .i64 0, .int .i64 0]]) (fun _ => rfl) mixed (by decide +kernel) (by decide +kernel) fun w601 hw600 => ?_
              replace hC := hC.step (Fr.of_drew hw600)
              have hM := Fr.refl (fun k => k ∈ blocks ([] : List Fact)) w601
              clear hw600
              have hS := hC
              have hD : Fr (fun k => k ∈ blocks (([] : List Fact) ++ [.box g9 32 [.int .i64 0, .slice none 0 0], .box g12 33 [.int .i64 0, .int .i64 0, .int .i64 0]])) w601 w601 := hM.wide
              have hUf11 : g9 < w601.heap.size → g9 ∈ blocks (([] : List Fact) ++ [.box g9 32 [.int .i64 0, .slice none 0 0], .box g12 33 [.int .i64 0, .int .i64 0, .int .i64 0]]) := fun _ => box_in (i := 0) rfl
              have hUf14 : g12 < w601.heap.size → g12 ∈ blocks (([] : List Fact) ++ [.box g9 32 [.int .i64 0, .slice none 0 0], .box g12 33 [.int .i64 0, .int .i64 0, .int .i64 0]]) := fun _ => box_in (i := 1) rfl
              refine mixE.steady hD (v := .agg #[.int .i64 bf42_0_2, .slice Akf42_1_2 kf42_1_2.length ckf42_1_2]) (fun _ hF => ld_blk (hS.bx2 (i := 2) rfl [0, 1] (by decide) hF) Try.isAgg32 Try.sizeOf32 e13) ?_
              refine mixE.steady hD (v := .agg #[.int .i64 bf45_0_2, .int .i64 bf45_1_2, .int .i64 bf45_2_2]) (fun _ hF => ld_blk (hS.bx2 (i := 4) rfl [0, 1] (by decide) hF) Try.isAgg33 Try.sizeOf33 e14) ?_
              refine mixE.sk hD (hC.seta (i := 0) (ds := [.int .i64 bf42_0_2, .slice Akf42_1_2 kf42_1_2.length ckf42_1_2]) rfl Try.type32 rfl rfl rfl e4 rfl) ?_
              rintro w602 ⟨hC, hF⟩
              replace hD := hD.besideG hUf11 hF
              clear hF
              refine ⟨hD, ?_⟩
              refine mixE.sk hD (hC.seta (i := 1) (ds := [.int .i64 bf45_0_2, .int .i64 bf45_1_2, .int .i64 bf45_2_2]) rfl Try.type33 rfl rfl rfl e5 rfl) ?_
              rintro w603 ⟨hC, hF⟩
              replace hD := hD.besideG hUf14 hF
              clear hF
              refine ⟨hD, ?_⟩
              refine mixE.pure (v := .int .i64 0) (pu_assign rfl) ?_
              refine mixE.nil ?_
              clear hS hM
              clear hD
              refine hK599 _ _ ?_
              obtain rfl := Option.some.inj hb
              refine Wc.ret ?_
              refine hKR _ _ ?_
              refine ⟨_, res3 Try.results13 ⟨_, e4, loadVar_blk (hC.bx (i := 0) rfl) Try.isAgg32 Try.sizeOf32⟩ ⟨_, e5, loadVar_blk (hC.bx (i := 1) rfl) Try.isAgg33 Try.sizeOf33⟩ (show RV _ _ _ (.tmp _) (.int .i64 0) from rfl), _, rfl, Akf42_1_2, kf42_1_2.length, ckf42_1_2, rfl, hrbf42_0_2, hrbf45_0_2, hrbf45_1_2, hrbf45_2_2, (show I64 0 from by unfold I64; omega), hC.sel [3] (by decide)⟩
end Go.Proofs.Ytkjpldmelafooaa
