/- The walks: part 10. -/
import Derived.Test.YtkjpldmelafooaaS
import Derived.Test.YtkjpldmelafooaaG0
import Derived.Test.YtkjpldmelafooaaG1
import Derived.Test.YtkjpldmelafooaaG3
set_option linter.unusedVariables false
set_option linter.unusedSimpArgs false
namespace Go.Proofs.Ytkjpldmelafooaa
open Ev
set_option maxRecDepth 100000 in
set_option maxHeartbeats 4000000 in
theorem markov_Play_ok (n : Nat) {w : World} {O0 : List Nat} (hO : ∀ k ∈ O0, k < w.heap.size) {b_0_0 : Int} (hb_0_0 : I64 b_0_0) {Ab_0_1 : Option Addr} {mb_0_1 cb_0_1 : Nat} {b_0_1 : List Int} (hb_0_1 : Rep O0 w (.sl (.int .i64)) [.slice Ab_0_1 mb_0_1 cb_0_1] b_0_1) {Al_1 : Option Addr} {ml_1 cl_1 : Nat} {l_1 : List (Int × (Int × Int))} (hl_1 : Rep O0 w (.sl (.pr (.int .i64) (.pr (.int .i64) (.int .i64)))) [.slice Al_1 ml_1 cl_1] l_1) {r : Int × (List Int) × Int × Int} (hb : F.markov_Play n b_0_0 b_0_1 l_1 = some r) :
    Calls Try.prog 19 #[.agg #[.int .i64 b_0_0, .slice Ab_0_1 mb_0_1 cb_0_1], .slice Al_1 ml_1 cl_1] w fun e w' => ∃ v, e = .returned v ∧ ∃ (A1 : Option Addr) (m1 c1 : Nat), v = .tuple #[.agg #[.int .i64 r.1, .slice A1 m1 c1], .int .i64 r.2.2.1, .int .i64 r.2.2.2] ∧ I64 r.1 ∧ I64 r.2.2.1 ∧ I64 r.2.2.2 ∧ Cx (fun _ => False) O0 w w' [.ro (.sl (.int .i64)) [.slice A1 m1 c1] r.2.1] := by
  unfold F.markov_Play at hb
  have hC := Cx.start hO
  replace hC := hC.arg rfl hb_0_1
  replace hC := hC.arg rfl hl_1
  clear hO
  obtain ⟨rfl, hlb_0_1, hcb_0_1⟩ := hb_0_1.sl_len
  obtain ⟨rfl, hll_1, hcl_1⟩ := hl_1.sl_len
  refine calls_of_Wc Try.func19 rfl (by rw [Try.ntmps19]; exact Nat.le_of_ble_eq_true rfl) fun KR hKR => ?_
  refine Wc.seq fun K3 hK3 => ?_
  refine Wc.region (by decide +kernel) ?_
  refine lex.op (hC.box (cs := [.int .i64 b_0_0, .slice Ab_0_1 b_0_1.length cb_0_1]) rfl rfl) ?_
  rintro _ w5 ⟨g4, rfl, hC, hF, hG⟩
  clear hG
  refine lex.op (hC.alloc (cs := [.int .i64 0, .slice none 0 0]) Try.zeroValue27 rfl) ?_
  rintro _ w8 ⟨g7, rfl, hC, hF, hG⟩
  clear hG
  refine lex.pure (v := .int .i64 0) (pu_assign rfl) ?_
  refine lex.pure (v := .int .i64 0) (pu_assign rfl) ?_
  refine lex.nil ?_
  refine hK3 _ _ ?_
  refine Wc.seq fun K10 hK10 => ?_
  refine Wc.seq fun K11 hK11 => ?_
  refine Wc.region (by decide +kernel) ?_
  refine lex.val (v := .agg #[.int .i64 b_0_0, .slice Ab_0_1 b_0_1.length cb_0_1]) (ld_blk (hC.bx (i := 1) rfl) Try.isAgg27 Try.sizeOf27 rfl) ?_
  obtain ⟨y12, h13, hb⟩ := bd hb
  refine lex.cl (⟨_, _, op_call (vs := [.agg #[.int .i64 b_0_0, .slice Ab_0_1 b_0_1.length cb_0_1]]) Try.call15 rfl rfl rfl, braid_Valid_ok n hC.lt hb_0_0 (hC.rd (i := 3) rfl) h13⟩) ?_
  rintro _ w14 ⟨rfl, hK⟩
  replace hC := hC.merge hK
  clear hK
  refine lex.pure (v := .bool (!y12)) (pu_not (q := y12) rfl) ?_
  refine lex.nil ?_
  refine hK11 _ _ ?_
  refine Wc.cond (t := (!y12)) (rfl) (fun hq15 => ?_) (fun hq15 => ?_)
  · replace hb := (cT hq15).symm.trans hb
    refine Wc.seq fun K16 hK16 => ?_
    refine Wc.region (by decide +kernel) ?_
    refine lex.pure (v := .agg #[.int .i64 0, .slice none 0 0]) (pu_builds (places := [(0, 1), (1, 1)]) (pv := []) Try.type27 Try.underlying27 rfl (mp_cons Try.type3 (mp_cons Try.type22 mp_nil rfl rfl) rfl rfl) rfl (by simp [Instr.fill, Value.cells])) ?_
    refine lex.sk (hC.seta (i := 0) (ds := [.int .i64 0, .slice none 0 0]) rfl Try.type27 rfl rfl rfl rfl rfl) ?_
    rintro w17 ⟨hC, hF⟩
    refine lex.pure (v := .int .i64 0) (pu_assign rfl) ?_
    refine lex.pure (v := .int .i64 1) (pu_assign rfl) ?_
    refine lex.nil ?_
    refine hK16 _ _ ?_
    replace hC := hC.ro (show Rep _ _ (.sl (.int .i64)) [.slice none 0 0] [] from ⟨none, 0, rfl, Nat.le_refl _, by omega, fun h => absurd h (by simp)⟩)
    obtain rfl := Option.some.inj hb
    refine Wc.ret ?_
    refine hKR _ _ ?_
    refine ⟨_, res3 Try.results19 ⟨_, rfl, loadVar_blk (hC.bx (i := 1) rfl) Try.isAgg27 Try.sizeOf27⟩ (show RV _ _ _ (.tmp _) (.int .i64 0) from rfl) (show RV _ _ _ (.tmp _) (.int .i64 1) from rfl), _, rfl, none, 0, 0, rfl, (show I64 0 from by unfold I64; omega), (show I64 0 from by unfold I64; omega), (show I64 1 from by unfold I64; omega), hC.sel [0] (by decide)⟩
  · replace hb := (cF hq15).symm.trans hb
    refine Wc.skip ?_
    refine hK10 _ _ ?_
    refine Wc.seq fun K19 hK19 => ?_
    refine Wc.region (by decide +kernel) ?_
    refine lex.pure (v := .pointer (some ((⟨g4, 0, none⟩ : Addr).add 1))) (pu_field (sz := 1) Try.underlying27 rfl Try.sizeOf22 (by decide) rfl rfl) ?_
    refine lex.val (v := .slice Ab_0_1 b_0_1.length cb_0_1) (ld_fld (hC.bx (i := 1) rfl) Try.isAgg22 rfl rfl) ?_
    obtain ⟨y20, h21, hb⟩ := bd hb
    refine lex.cl (⟨_, _, op_call (vs := [.slice Ab_0_1 b_0_1.length cb_0_1]) Try.call36 rfl rfl rfl, slices_Clone_Lint_int_ok n hC.lt (hC.rd (i := 3) rfl) h21⟩) ?_
    rintro _ w26 ⟨A22, m23, c24, rfl, hK⟩
    replace hC := hC.merge hK
    clear hK
    obtain ⟨rfl, hl27, hc28⟩ := (hC.ow (i := 0) rfl).sl_len
    refine lex.pure (v := .pointer (some ((⟨g4, 0, none⟩ : Addr).add 1))) (pu_field (sz := 1) Try.underlying27 rfl Try.sizeOf22 (by decide) rfl rfl) ?_
    refine lex.sk (hC.setf (i := 2) (k := 1) (v := .slice A22 y20.length c24) rfl Try.sizeOf22 rfl rfl rfl rfl) ?_
    rintro w29 ⟨hC, hF⟩
    refine lex.nil ?_
    refine hK19 _ _ ?_
    refine Wc.fresh fun E30 hE => ?_
    have e1 : E30 1 = .slice Al_1 l_1.length cl_1 := (congrFun hE 1).trans rfl
    have e2 : E30 2 = .pointer (some ⟨g4, 0, none⟩) := (congrFun hE 2).trans rfl
    have e4 : E30 4 = .pointer (some ⟨g7, 0, none⟩) := (congrFun hE 4).trans rfl
    have e5 : E30 5 = .int .i64 0 := (congrFun hE 5).trans rfl
    have e6 : E30 6 = .int .i64 0 := (congrFun hE 6).trans rfl
    clear hE
    refine Wc.seq fun K31 hK31 => ?_
    refine Wc.seq fun K32 hK32 => ?_
    refine Wc.region (by decide +kernel) ?_
    refine lex.pure (v := .slice Al_1 l_1.length cl_1) (pu_move e1) ?_
    refine lex.pure (v := .int .i64 (l_1.length : Int)) (pu_len (A := Al_1) (n := l_1.length) (m := cl_1) Try.underlying44 rfl) ?_
    refine lex.pure (v := .int .i64 0) (pu_move rfl) ?_
    refine lex.nil ?_
    refine hK32 _ _ ?_
    replace hC := hC.freeze (i := 0) rfl (hC.own_new (i := 0) rfl)
    obtain ⟨o33, hl0, hb⟩ := bd hb
    refine Wc.cut (fun E wv => ∃ (v22_0 : Int) (bf6_0_0 : Int) (kf6_1_0 : List Int) (Akf6_1_0 : Option Addr) (mkf6_1_0 ckf6_1_0 : Nat), E 1 = .slice Al_1 l_1.length cl_1 ∧ E 2 = .pointer (some ⟨g4, 0, none⟩) ∧ E 4 = .pointer (some ⟨g7, 0, none⟩) ∧ E 5 = .int .i64 0 ∧ E 6 = .int .i64 0 ∧ I64 v22_0 ∧ I64 bf6_0_0 ∧ Cx (fun _ => False) O0 w wv [.ro (.sl (.pr (.int .i64) (.pr (.int .i64) (.int .i64)))) [.slice Al_1 l_1.length cl_1] l_1, .box g4 27 [.int .i64 bf6_0_0, .slice Akf6_1_0 mkf6_1_0 ckf6_1_0], .ro (.sl (.int .i64)) [.slice Akf6_1_0 mkf6_1_0 ckf6_1_0] kf6_1_0, .box g7 27 [.int .i64 0, .slice none 0 0]] ∧ (some (bf6_0_0, kf6_1_0, (l_1.length : Int), 0)) = some r) (fun K34 hK34 => ?_) ?_
    · refine Wc.block ?_
      refine Wc.loop (fun m E wv => ∃ (v22_0 : Int) (bf6_0_0 : Int) (kf6_1_0 : List Int) (Akf6_1_0 : Option Addr) (mkf6_1_0 ckf6_1_0 : Nat), E 1 = .slice Al_1 l_1.length cl_1 ∧ E 2 = .pointer (some ⟨g4, 0, none⟩) ∧ E 4 = .pointer (some ⟨g7, 0, none⟩) ∧ E 5 = .int .i64 0 ∧ E 6 = .int .i64 0 ∧ E 20 = .slice Al_1 l_1.length cl_1 ∧ E 21 = .int .i64 (l_1.length : Int) ∧ E 22 = .int .i64 v22_0 ∧ I64 v22_0 ∧ I64 bf6_0_0 ∧ Cx (fun _ => False) O0 w wv [.ro (.sl (.pr (.int .i64) (.pr (.int .i64) (.int .i64)))) [.slice Al_1 l_1.length cl_1] l_1, .box g4 27 [.int .i64 bf6_0_0, .slice Akf6_1_0 mkf6_1_0 ckf6_1_0], .ro (.sl (.int .i64)) [.slice Akf6_1_0 mkf6_1_0 ckf6_1_0] kf6_1_0, .box g7 27 [.int .i64 0, .slice none 0 0]] ∧ loopN m (F.markov_Play_b0 n l_1) (v22_0, bf6_0_0, kf6_1_0) = some o33) n ⟨0, b_0_0, y20, A22, y20.length, c24, e1, e2, e4, e5, e6, rfl, rfl, rfl, (show I64 0 from by unfold I64; omega), hb_0_0, hC.sel [3, 2, 0, 1] (by decide), hl0⟩ ?_
      have hbK0 := hb
      clear hb hC hl0
      rintro m36 E38 w37 ⟨v22_0, bf6_0_0, kf6_1_0, Akf6_1_0, mkf6_1_0, ckf6_1_0, e1, e2, e4, e5, e6, e20, e21, e22, hrv22_0, hrbf6_0_0, hC, hl0⟩ K35 hK35
      obtain ⟨m36', o39, rfl, hb, hl0⟩ := loopN_some hl0
      unfold F.markov_Play_b0 at hb
      obtain ⟨rfl, hlkf6_1_0, hckf6_1_0⟩ := (hC.rd (i := 2) rfl).sl_len
      refine Wc.seq fun K40 hK40 => ?_
      refine Wc.region (by decide +kernel) ?_
      refine lex.pure (v := .bool (decide (v22_0 < (l_1.length : Int)))) (pu_lss (k := .i64) (a := v22_0) (b := (l_1.length : Int)) e22 e21) ?_
      refine lex.nil ?_
      refine hK40 _ _ ?_
      refine Wc.seq fun K41 hK41 => ?_
      refine Wc.cond (t := (decide (v22_0 < (l_1.length : Int)))) (rfl) (fun hq42 => ?_) (fun hq42 => ?_)
      · replace hb := (cT hq42).symm.trans hb
        refine Wc.skip ?_
        refine hK41 _ _ ?_
        refine Wc.seq fun K43 hK43 => ?_
        refine Wc.block ?_
        refine Wc.seq fun K44 hK44 => ?_
        refine Wc.region (by decide +kernel) ?_
        refine lex.pure (v := .int .i64 v22_0) (pu_move e22) ?_
        obtain ⟨x45, h46, hb⟩ := bd hb
        obtain ⟨ad47, cs48, hA, hc49, hr50⟩ := hC.elr (i := 0) rfl (get_some h46).2
        subst hA
        refine lex.pure (v := .pointer (some (ad47.add (v22_0.toNat * 3)))) (pu_index (a := v22_0) Try.underlying44 Try.sizeOf28 e20 e22 (get_some h46).1) ?_
        obtain ⟨k51, k52, rfl, hr53, hr54⟩ := hr50
        obtain ⟨rfl, hr53⟩ := hr53
        obtain ⟨k55, k56, rfl, hr57, hr58⟩ := hr54
        obtain ⟨rfl, hr57⟩ := hr57
        obtain ⟨rfl, hr58⟩ := hr58
        refine lex.val (v := .agg #[.int .i64 x45.1, .int .i64 x45.2.1, .int .i64 x45.2.2]) (ld_agg Try.isAgg28 Try.sizeOf28 rfl rfl hc49) ?_
        refine lex.op (hC.alloc (cs := [.int .i64 0, .int .i64 0, .int .i64 0]) Try.zeroValue28 rfl) ?_
        rintro _ w60 ⟨g59, rfl, hC, hF, hG⟩
        clear hG
        refine lex.pure (v := .int .i64 v22_0) (pu_assign rfl) ?_
        refine lex.sk (hC.seta (i := 0) (ds := [.int .i64 x45.1, .int .i64 x45.2.1, .int .i64 x45.2.2]) rfl Try.type28 rfl rfl rfl rfl rfl) ?_
        rintro w62 ⟨hC, hF⟩
        refine lex.nil ?_
        refine hK44 _ _ ?_
        refine Wc.seq fun K63 hK63 => ?_
        refine Wc.region (by decide +kernel) ?_
        refine lex.val (v := .agg #[.int .i64 bf6_0_0, .slice Akf6_1_0 kf6_1_0.length ckf6_1_0]) (ld_blk (hC.bx (i := 2) rfl) Try.isAgg27 Try.sizeOf27 e2) ?_
        refine lex.val (v := .agg #[.int .i64 x45.1, .int .i64 x45.2.1, .int .i64 x45.2.2]) (ld_blk (hC.bx (i := 0) rfl) Try.isAgg28 Try.sizeOf28 rfl) ?_
        obtain ⟨y64, h65, hb⟩ := bd hb
        refine lex.cl (⟨_, _, op_call (vs := [.agg #[.int .i64 bf6_0_0, .slice Akf6_1_0 kf6_1_0.length ckf6_1_0], .agg #[.int .i64 x45.1, .int .i64 x45.2.1, .int .i64 x45.2.2]]) Try.call12 rfl rfl rfl, markov_Apply_ok n hC.lt hrbf6_0_0 (hC.rd (i := 3) rfl) (wrap_I64 hr53) (wrap_I64 hr57) (wrap_I64 hr58) h65⟩) ?_
        rintro _ w75 ⟨A67, m68, c69, rfl, hr66, hr71, hr72, hr73, hr74, hK⟩
        replace hC := hC.merge hK
        clear hK
        obtain ⟨rfl, hl76, hc77⟩ := (hC.rd (i := 0) rfl).sl_len
        refine lex.pure (v := .tuple #[.agg #[.int .i64 y64.1, .slice A67 y64.2.1.length c69], .agg #[.int .i64 y64.2.2.1, .int .i64 y64.2.2.2.1, .int .i64 y64.2.2.2.2.1], .int .i64 y64.2.2.2.2.2]) (pu_move rfl) ?_
        refine lex.pure (v := .agg #[.int .i64 y64.1, .slice A67 y64.2.1.length c69]) (pu_extract rfl rfl) ?_
        refine lex.pure (v := .agg #[.int .i64 y64.2.2.1, .int .i64 y64.2.2.2.1, .int .i64 y64.2.2.2.2.1]) (pu_extract rfl rfl) ?_
        refine lex.pure (v := .int .i64 y64.2.2.2.2.2) (pu_extract rfl rfl) ?_
        refine lex.op (hC.alloc (cs := [.int .i64 0, .slice none 0 0]) Try.zeroValue27 rfl) ?_
        rintro _ w79 ⟨g78, rfl, hC, hF, hG⟩
        clear hG
        refine lex.op (hC.alloc (cs := [.int .i64 0, .int .i64 0, .int .i64 0]) Try.zeroValue28 rfl) ?_
        rintro _ w82 ⟨g81, rfl, hC, hF, hG⟩
        clear hG
        refine lex.sk (hC.seta (i := 1) (ds := [.int .i64 y64.1, .slice A67 y64.2.1.length c69]) rfl Try.type27 rfl rfl rfl rfl rfl) ?_
        rintro w84 ⟨hC, hF⟩
        refine lex.sk (hC.seta (i := 0) (ds := [.int .i64 y64.2.2.1, .int .i64 y64.2.2.2.1, .int .i64 y64.2.2.2.2.1]) rfl Try.type28 rfl rfl rfl rfl rfl) ?_
        rintro w85 ⟨hC, hF⟩
        refine lex.pure (v := .int .i64 y64.2.2.2.2.2) (pu_assign rfl) ?_
        refine lex.nil ?_
        refine hK63 _ _ ?_
        refine Wc.fresh fun E86 hE => ?_
        have e1 : E86 1 = .slice (some ad47) l_1.length cl_1 := (congrFun hE 1).trans e1
        have e2 : E86 2 = .pointer (some ⟨g4, 0, none⟩) := (congrFun hE 2).trans e2
        have e4 : E86 4 = .pointer (some ⟨g7, 0, none⟩) := (congrFun hE 4).trans e4
        have e5 : E86 5 = .int .i64 0 := (congrFun hE 5).trans e5
        have e6 : E86 6 = .int .i64 0 := (congrFun hE 6).trans e6
        have e7 : E86 7 = .int .i64 v22_0 := (congrFun hE 7).trans rfl
        have e8 : E86 8 = .pointer (some ⟨g59, 0, none⟩) := (congrFun hE 8).trans rfl
        have e9 : E86 9 = .pointer (some ⟨g78, 0, none⟩) := (congrFun hE 9).trans rfl
        have e11 : E86 11 = .int .i64 y64.2.2.2.2.2 := (congrFun hE 11).trans rfl
        have e20 : E86 20 = .slice (some ad47) l_1.length cl_1 := (congrFun hE 20).trans e20
        have e21 : E86 21 = .int .i64 (l_1.length : Int) := (congrFun hE 21).trans e21
        have e22 : E86 22 = .int .i64 v22_0 := (congrFun hE 22).trans e22
        have e23 : E86 23 = .bool (decide (v22_0 < (l_1.length : Int))) := (congrFun hE 23).trans rfl
        clear hE
        refine Wc.seq fun K87 hK87 => ?_
        refine Wc.seq fun K88 hK88 => ?_
        refine Wc.region (by decide +kernel) ?_
        refine lex.pure (v := .int .i64 y64.2.2.2.2.2) (pu_move e11) ?_
        refine lex.pure (v := .bool (!(decide (y64.2.2.2.2.2 = 0)))) (pu_neq (k := .i64) (a := y64.2.2.2.2.2) (b := 0) rfl rfl) ?_
        refine lex.nil ?_
        refine hK88 _ _ ?_
        refine Wc.cond (t := (!(decide (y64.2.2.2.2.2 = 0)))) (rfl) (fun hq89 => ?_) (fun hq89 => ?_)
        · replace hb := (cT hq89).symm.trans hb
          refine Wc.seq fun K90 hK90 => ?_
          refine Wc.region (by decide +kernel) ?_
          refine lex.val (v := .agg #[.int .i64 bf6_0_0, .slice Akf6_1_0 kf6_1_0.length ckf6_1_0]) (ld_blk (hC.bx (i := 5) rfl) Try.isAgg27 Try.sizeOf27 e2) ?_
          refine lex.pure (v := .int .i64 v22_0) (pu_move e7) ?_
          refine lex.pure (v := .int .i64 y64.2.2.2.2.2) (pu_move e11) ?_
          refine lex.sk (hC.seta (i := 7) (ds := [.int .i64 bf6_0_0, .slice Akf6_1_0 kf6_1_0.length ckf6_1_0]) rfl Try.type27 rfl rfl rfl e4 rfl) ?_
          rintro w91 ⟨hC, hF⟩
          refine lex.pure (v := .int .i64 v22_0) (pu_assign rfl) ?_
          refine lex.pure (v := .int .i64 y64.2.2.2.2.2) (pu_assign rfl) ?_
          refine lex.nil ?_
          refine hK90 _ _ ?_
          obtain rfl := Option.some.inj hb
          obtain rfl := lX hl0
          replace hb := hbK0
          obtain rfl := Option.some.inj hb
          refine Wc.ret ?_
          refine hKR _ _ ?_
          refine ⟨_, res3 Try.results19 ⟨_, e4, loadVar_blk (hC.bx (i := 7) rfl) Try.isAgg27 Try.sizeOf27⟩ (show RV _ _ _ (.tmp _) (.int .i64 v22_0) from rfl) (show RV _ _ _ (.tmp _) (.int .i64 y64.2.2.2.2.2) from rfl), _, rfl, Akf6_1_0, kf6_1_0.length, ckf6_1_0, rfl, hrbf6_0_0, hrv22_0, hr74, hC.sel [6] (by decide)⟩
        · replace hb := (cF hq89).symm.trans hb
          refine Wc.skip ?_
          refine hK87 _ _ ?_
          refine Wc.region (by decide +kernel) ?_
          refine lex.val (v := .agg #[.int .i64 y64.1, .slice A67 y64.2.1.length c69]) (ld_blk (hC.bx (i := 1) rfl) Try.isAgg27 Try.sizeOf27 e9) ?_
          refine lex.sk (hC.seta (i := 5) (ds := [.int .i64 y64.1, .slice A67 y64.2.1.length c69]) rfl Try.type27 rfl rfl rfl e2 rfl) ?_
          rintro w92 ⟨hC, hF⟩
          refine lex.nil ?_
          refine hK43 _ _ ?_
          refine Wc.region (by decide +kernel) ?_
          obtain ⟨z93, h94, hb⟩ := bd hb
          refine lex.pure (v := .int .i64 z93) (pu_addc (a := v22_0) (b := 1) e22 rfl h94) ?_
          refine lex.pure (v := .int .i64 z93) (pu_move rfl) ?_
          refine lex.nil ?_
          obtain rfl := Option.some.inj hb
          exact hK35 m36' _ _ (Nat.lt_succ_self _) ⟨z93, y64.1, y64.2.1, A67, y64.2.1.length, c69, e1, e2, e4, e5, e6, e20, e21, rfl, (chk_rng h94), hr66, hC.sel [4, 5, 2, 7] (by decide), lN hl0⟩
      · replace hb := (cF hq42).symm.trans hb
        refine Wc.exit rfl ?_
        obtain rfl := Option.some.inj hb
        obtain rfl := lX hl0
        exact hK34 _ _ ⟨v22_0, bf6_0_0, kf6_1_0, Akf6_1_0, kf6_1_0.length, ckf6_1_0, e1, e2, e4, e5, e6, hrv22_0, hrbf6_0_0, hC.sel [0, 1, 2, 3] (by decide), hbK0⟩
    · clear hb hC hl0
      rintro E96 w95 ⟨v22_0, bf6_0_0, kf6_1_0, Akf6_1_0, mkf6_1_0, ckf6_1_0, e1, e2, e4, e5, e6, hrv22_0, hrbf6_0_0, hC, hb⟩
      obtain ⟨rfl, hlkf6_1_0, hckf6_1_0⟩ := (hC.rd (i := 2) rfl).sl_len
      refine hK31 _ _ ?_
      refine Wc.seq fun K97 hK97 => ?_
      refine Wc.region (by decide +kernel) ?_
      refine lex.val (v := .agg #[.int .i64 bf6_0_0, .slice Akf6_1_0 kf6_1_0.length ckf6_1_0]) (ld_blk (hC.bx (i := 1) rfl) Try.isAgg27 Try.sizeOf27 e2) ?_
      refine lex.pure (v := .slice Al_1 l_1.length cl_1) (pu_move e1) ?_
      refine lex.pure (v := .int .i64 (l_1.length : Int)) (pu_len (A := Al_1) (n := l_1.length) (m := cl_1) Try.underlying44 rfl) ?_
      refine lex.sk (hC.seta (i := 3) (ds := [.int .i64 bf6_0_0, .slice Akf6_1_0 kf6_1_0.length ckf6_1_0]) rfl Try.type27 rfl rfl rfl e4 rfl) ?_
      rintro w98 ⟨hC, hF⟩
      refine lex.pure (v := .int .i64 (l_1.length : Int)) (pu_assign rfl) ?_
      refine lex.pure (v := .int .i64 0) (pu_assign rfl) ?_
      refine lex.nil ?_
      refine hK97 _ _ ?_
      obtain rfl := Option.some.inj hb
      refine Wc.ret ?_
      refine hKR _ _ ?_
      refine ⟨_, res3 Try.results19 ⟨_, e4, loadVar_blk (hC.bx (i := 3) rfl) Try.isAgg27 Try.sizeOf27⟩ (show RV _ _ _ (.tmp _) (.int .i64 (l_1.length : Int)) from rfl) (show RV _ _ _ (.tmp _) (.int .i64 0) from rfl), _, rfl, Akf6_1_0, kf6_1_0.length, ckf6_1_0, rfl, hrbf6_0_0, (I64.len hll_1 hcl_1), (show I64 0 from by unfold I64; omega), hC.sel [2] (by decide)⟩
end Go.Proofs.Ytkjpldmelafooaa
