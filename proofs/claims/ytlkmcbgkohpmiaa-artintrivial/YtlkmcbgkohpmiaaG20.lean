/- The walks: part 20. -/
import Derived.Test.YtlkmcbgkohpmiaaS
import Derived.Test.YtlkmcbgkohpmiaaG0
import Derived.Test.YtlkmcbgkohpmiaaG18
import Derived.Test.YtlkmcbgkohpmiaaG19
set_option linter.unusedVariables false
set_option linter.unusedSimpArgs false
namespace Go.Proofs.Ytlkmcbgkohpmiaa
open Ev
set_option maxRecDepth 100000 in
set_option maxHeartbeats 4000000 in
theorem garside_Form_ok (n : Nat) {w : World} {O0 : List Nat} (hO : ∀ k ∈ O0, k < w.heap.size) {b_0_0 : Int} (hb_0_0 : I64 b_0_0) {Ab_0_1 : Option Addr} {mb_0_1 cb_0_1 : Nat} {b_0_1 : List Int} (hb_0_1 : Rep O0 w (.sl (.int .i64)) [.slice Ab_0_1 mb_0_1 cb_0_1] b_0_1) {r : Int × Int × (List (List Int)) × Int} (hb : F.garside_Form n b_0_0 b_0_1 = some r) :
    Calls Try.prog 43 #[.agg #[.int .i64 b_0_0, .slice Ab_0_1 mb_0_1 cb_0_1]] w fun e w' => ∃ v, e = .returned v ∧ ∃ (A2 : Option Addr) (m2 c2 : Nat), v = .tuple #[.agg #[.int .i64 r.1, .int .i64 r.2.1, .slice A2 m2 c2], .int .i64 r.2.2.2] ∧ I64 r.1 ∧ I64 r.2.1 ∧ I64 r.2.2.2 ∧ Cx (fun _ => False) O0 w w' [.ro (.sl (.sl (.int .i64))) [.slice A2 m2 c2] r.2.2.1] := by
  unfold F.garside_Form at hb
  have hC := Cx.start hO
  replace hC := hC.arg rfl hb_0_1
  clear hO
  obtain ⟨rfl, hlb_0_1, hcb_0_1⟩ := hb_0_1.sl_len
  refine calls_of_Wc Try.func43 rfl (by rw [Try.ntmps43]; exact Nat.le_of_ble_eq_true rfl) fun KR hKR => ?_
  refine Wc.seq fun K2 hK2 => ?_
  refine Wc.region (by decide +kernel) ?_
  refine lex.op (hC.box (cs := [.int .i64 b_0_0, .slice Ab_0_1 b_0_1.length cb_0_1]) rfl rfl) ?_
  rintro _ w4 ⟨g3, rfl, hC, hF, hG⟩
  clear hG
  refine lex.op (hC.alloc (cs := [.int .i64 0, .int .i64 0, .slice none 0 0]) Try.zeroValue79 rfl) ?_
  rintro _ w7 ⟨g6, rfl, hC, hF, hG⟩
  clear hG
  refine lex.pure (v := .int .i64 0) (pu_assign rfl) ?_
  refine lex.nil ?_
  refine hK2 _ _ ?_
  refine Wc.seq fun K9 hK9 => ?_
  refine Wc.seq fun K10 hK10 => ?_
  refine Wc.region (by decide +kernel) ?_
  refine lex.val (v := .agg #[.int .i64 b_0_0, .slice Ab_0_1 b_0_1.length cb_0_1]) (ld_blk (hC.bx (i := 1) rfl) Try.isAgg24 Try.sizeOf24 rfl) ?_
  obtain ⟨y11, h12, hb⟩ := bd hb
  refine lex.cl (⟨_, _, op_call (vs := [.agg #[.int .i64 b_0_0, .slice Ab_0_1 b_0_1.length cb_0_1]]) Try.call16 rfl rfl rfl, braid_Valid_ok n hC.lt hb_0_0 (hC.rd (i := 2) rfl) h12⟩) ?_
  rintro _ w13 ⟨rfl, hK⟩
  replace hC := hC.merge hK
  clear hK
  refine lex.pure (v := .bool (!y11)) (pu_not (q := y11) rfl) ?_
  refine lex.nil ?_
  refine hK10 _ _ ?_
  refine Wc.cond (t := (!y11)) (rfl) (fun hq14 => ?_) (fun hq14 => ?_)
  · replace hb := (cT hq14).symm.trans hb
    refine Wc.seq fun K15 hK15 => ?_
    refine Wc.region (by decide +kernel) ?_
    refine lex.pure (v := .agg #[.int .i64 0, .int .i64 0, .slice none 0 0]) (pu_builds (places := [(0, 1), (1, 1), (2, 1)]) (pv := []) Try.type79 Try.underlying79 rfl (mp_cons Try.type3 (mp_cons Try.type3 (mp_cons Try.type77 mp_nil rfl rfl) rfl rfl) rfl rfl) rfl (by simp [Instr.fill, Value.cells])) ?_
    refine lex.sk (hC.seta (i := 0) (ds := [.int .i64 0, .int .i64 0, .slice none 0 0]) rfl Try.type79 rfl rfl rfl rfl rfl) ?_
    rintro w16 ⟨hC, hF⟩
    refine lex.pure (v := .int .i64 1) (pu_assign rfl) ?_
    refine lex.nil ?_
    refine hK15 _ _ ?_
    replace hC := hC.ro (show Rep _ _ (.sl (.sl (.int .i64))) [.slice none 0 0] [] from ⟨none, 0, rfl, Nat.le_refl _, by omega, fun h => absurd h (by simp)⟩)
    obtain rfl := Option.some.inj hb
    refine Wc.ret ?_
    refine hKR _ _ ?_
    refine ⟨_, res2 Try.results43 ⟨_, rfl, loadVar_blk (hC.bx (i := 1) rfl) Try.isAgg79 Try.sizeOf79⟩ (show RV _ _ _ (.tmp _) (.int .i64 1) from rfl), _, rfl, none, 0, 0, rfl, (show I64 0 from by unfold I64; omega), (show I64 0 from by unfold I64; omega), (show I64 1 from by unfold I64; omega), hC.sel [0] (by decide)⟩
  · replace hb := (cF hq14).symm.trans hb
    refine Wc.skip ?_
    refine hK9 _ _ ?_
    refine Wc.seq fun K18 hK18 => ?_
    refine Wc.region (by decide +kernel) ?_
    refine lex.pure (v := .pointer (some ((⟨g3, 0, none⟩ : Addr).add 0))) (pu_field (sz := 1) Try.underlying24 rfl Try.sizeOf3 (by decide) rfl rfl) ?_
    refine lex.val (v := .int .i64 b_0_0) (ld_fld (hC.bx (i := 1) rfl) Try.isAgg3 rfl rfl) ?_
    refine lex.pure (v := .agg #[.int .i64 b_0_0, .int .i64 0, .slice none 0 0]) (pu_builds (places := [(0, 1), (1, 1), (2, 1)]) (pv := [(0, .int .i64 b_0_0)]) Try.type79 Try.underlying79 rfl (mp_cons Try.type3 (mp_cons Try.type3 (mp_cons Try.type77 mp_nil rfl rfl) rfl rfl) rfl rfl) rfl (by simp [Instr.fill, Value.cells])) ?_
    refine lex.op (hC.alloc (cs := [.int .i64 0, .int .i64 0, .slice none 0 0]) Try.zeroValue79 rfl) ?_
    rintro _ w20 ⟨g19, rfl, hC, hF, hG⟩
    clear hG
    refine lex.sk (hC.seta (i := 0) (ds := [.int .i64 b_0_0, .int .i64 0, .slice none 0 0]) rfl Try.type79 rfl rfl rfl rfl rfl) ?_
    rintro w22 ⟨hC, hF⟩
    refine lex.nil ?_
    refine hK18 _ _ ?_
    refine Wc.fresh fun E23 hE => ?_
    have e1 : E23 1 = .pointer (some ⟨g3, 0, none⟩) := (congrFun hE 1).trans rfl
    have e2 : E23 2 = .pointer (some ⟨g6, 0, none⟩) := (congrFun hE 2).trans rfl
    have e3 : E23 3 = .int .i64 0 := (congrFun hE 3).trans rfl
    have e4 : E23 4 = .pointer (some ⟨g19, 0, none⟩) := (congrFun hE 4).trans rfl
    clear hE
    refine Wc.seq fun K24 hK24 => ?_
    refine Wc.region (by decide +kernel) ?_
    refine lex.pure (v := .pointer (some ((⟨g3, 0, none⟩ : Addr).add 0))) (pu_field (sz := 1) Try.underlying24 rfl Try.sizeOf3 (by decide) rfl e1) ?_
    refine lex.val (v := .int .i64 b_0_0) (ld_fld (hC.bx (i := 2) rfl) Try.isAgg3 rfl rfl) ?_
    obtain ⟨y25, h26, hb⟩ := bd hb
    refine lex.cl (⟨_, _, op_call (vs := [.int .i64 b_0_0]) Try.call61 rfl rfl rfl, garside_halfTwist_ok n hC.lt hb_0_0 h26⟩) ?_
    rintro _ w31 ⟨A27, m28, c29, rfl, hK⟩
    replace hC := hC.merge hK
    clear hK
    obtain ⟨rfl, hl32, hc33⟩ := (hC.ow (i := 0) rfl).sl_len
    refine lex.pure (v := .slice A27 y25.length c29) (pu_assign rfl) ?_
    refine lex.nil ?_
    refine hK24 _ _ ?_
    refine Wc.seq fun K34 hK34 => ?_
    refine Wc.seq fun K35 hK35 => ?_
    refine Wc.region (by decide +kernel) ?_
    refine lex.pure (v := .pointer (some ((⟨g3, 0, none⟩ : Addr).add 1))) (pu_field (sz := 1) Try.underlying24 rfl Try.sizeOf22 (by decide) rfl e1) ?_
    refine lex.val (v := .slice Ab_0_1 b_0_1.length cb_0_1) (ld_fld (hC.bx (i := 3) rfl) Try.isAgg22 rfl rfl) ?_
    refine lex.pure (v := .int .i64 (b_0_1.length : Int)) (pu_len (A := Ab_0_1) (n := b_0_1.length) (m := cb_0_1) Try.underlying22 rfl) ?_
    refine lex.pure (v := .int .i64 0) (pu_move rfl) ?_
    refine lex.nil ?_
    refine hK35 _ _ ?_
    replace hC := hC.nil 52 .raw
    replace hC : Cx (fun _ => False) O0 w w31 ([.own 52 .raw (.slice none 0 0) ([] : List Value), .own 3 (.int .i64) (.slice A27 y25.length c29) y25, .box g19 79 [.int .i64 b_0_0, .int .i64 0, .slice none 0 0], .box g6 79 [.int .i64 0, .int .i64 0, .slice none 0 0], .box g3 24 [.int .i64 b_0_0, .slice Ab_0_1 b_0_1.length cb_0_1], .ro (.sl (.int .i64)) [.slice Ab_0_1 b_0_1.length cb_0_1] b_0_1] ++ rowsF 3 (.int .i64) ([] : List Value) ([] : List (List Int))) := hC
    obtain ⟨o37, hl0, hb⟩ := bd hb
    refine Wc.cut (fun E wv => ∃ (v25_0 : Int) (bf21_1_0 : Int) (kf21_2_0 : List (List Int)) (Akf21_2_0 : Option Addr) (mkf21_2_0 ckf21_2_0 : Nat) (hskf21_2_0 : List Value), E 2 = .pointer (some ⟨g6, 0, none⟩) ∧ E 3 = .int .i64 0 ∧ E 4 = .pointer (some ⟨g19, 0, none⟩) ∧ I64 v25_0 ∧ I64 bf21_1_0 ∧ hskf21_2_0.length = kf21_2_0.length ∧ Cx (fun _ => False) O0 w wv ([.box g6 79 [.int .i64 0, .int .i64 0, .slice none 0 0], .box g19 79 [.int .i64 b_0_0, .int .i64 bf21_1_0, .slice Akf21_2_0 mkf21_2_0 ckf21_2_0], .own 52 .raw (.slice Akf21_2_0 mkf21_2_0 ckf21_2_0) hskf21_2_0] ++ rowsF 3 (.int .i64) hskf21_2_0 kf21_2_0) ∧ (some (b_0_0, bf21_1_0, kf21_2_0, 0) : Option (Int × Int × (List (List Int)) × Int)) = some r) (fun K38 hK38 => ?_) ?_
    · refine Wc.block ?_
      refine Wc.loop (fun m E wv => ∃ (v25_0 : Int) (bf21_1_0 : Int) (kf21_2_0 : List (List Int)) (Akf21_2_0 : Option Addr) (mkf21_2_0 ckf21_2_0 : Nat) (hskf21_2_0 : List Value), E 1 = .pointer (some ⟨g3, 0, none⟩) ∧ E 2 = .pointer (some ⟨g6, 0, none⟩) ∧ E 3 = .int .i64 0 ∧ E 4 = .pointer (some ⟨g19, 0, none⟩) ∧ E 5 = .slice A27 y25.length c29 ∧ E 23 = .slice Ab_0_1 b_0_1.length cb_0_1 ∧ E 24 = .int .i64 (b_0_1.length : Int) ∧ E 25 = .int .i64 v25_0 ∧ I64 v25_0 ∧ I64 bf21_1_0 ∧ hskf21_2_0.length = kf21_2_0.length ∧ Cx (fun _ => False) O0 w wv ([.box g3 24 [.int .i64 b_0_0, .slice Ab_0_1 b_0_1.length cb_0_1], .ro (.sl (.int .i64)) [.slice Ab_0_1 b_0_1.length cb_0_1] b_0_1, .box g6 79 [.int .i64 0, .int .i64 0, .slice none 0 0], .box g19 79 [.int .i64 b_0_0, .int .i64 bf21_1_0, .slice Akf21_2_0 mkf21_2_0 ckf21_2_0], .own 52 .raw (.slice Akf21_2_0 mkf21_2_0 ckf21_2_0) hskf21_2_0, .own 3 (.int .i64) (.slice A27 y25.length c29) y25] ++ rowsF 3 (.int .i64) hskf21_2_0 kf21_2_0) ∧ loopN m (F.garside_Form_b0 n b_0_0 b_0_1 y25) (v25_0, bf21_1_0, kf21_2_0) = some o37) n ⟨0, 0, ([] : List (List Int)), none, 0, 0, ([] : List Value), e1, e2, e3, e4, rfl, rfl, rfl, rfl, (show I64 0 from by unfold I64; omega), (show I64 0 from by unfold I64; omega), rfl, hC.selT [4, 5, 3, 2, 0, 1] (by decide), hl0⟩ ?_
      have hbK0 := hb
      clear hb hC hl0
      rintro m40 E42 w41 ⟨v25_0, bf21_1_0, kf21_2_0, Akf21_2_0, mkf21_2_0, ckf21_2_0, hskf21_2_0, e1, e2, e3, e4, e5, e23, e24, e25, hrv25_0, hrbf21_1_0, hNkf21_2_0, hC, hl0⟩ K39 hK39
      obtain ⟨m40', o43, rfl, hb, hl0⟩ := loopN_some hl0
      unfold F.garside_Form_b0 at hb
      obtain ⟨hm, hlkf21_2_0, hckf21_2_0⟩ := (hC.ow (i := 4) rfl).sl_len
      rw [hNkf21_2_0] at hm hlkf21_2_0
      subst hm
      refine Wc.seq fun K44 hK44 => ?_
      refine Wc.region (by decide +kernel) ?_
      replace hC : Cx (fun _ => False) O0 w w41 ([.box g3 24 [.int .i64 b_0_0, .slice Ab_0_1 b_0_1.length cb_0_1], .ro (.sl (.int .i64)) [.slice Ab_0_1 b_0_1.length cb_0_1] b_0_1, .box g6 79 [.int .i64 0, .int .i64 0, .slice none 0 0], .box g19 79 [.int .i64 b_0_0, .int .i64 bf21_1_0, .slice Akf21_2_0 kf21_2_0.length ckf21_2_0], .own 52 .raw (.slice Akf21_2_0 kf21_2_0.length ckf21_2_0) hskf21_2_0, .own 3 (.int .i64) (.slice A27 y25.length c29) y25] ++ rowsF 3 (.int .i64) hskf21_2_0 kf21_2_0) := hC
      refine lex.pure (v := .bool (decide (v25_0 < (b_0_1.length : Int)))) (pu_lss (k := .i64) (a := v25_0) (b := (b_0_1.length : Int)) e25 e24) ?_
      refine lex.nil ?_
      refine hK44 _ _ ?_
      refine Wc.seq fun K45 hK45 => ?_
      refine Wc.cond (t := (decide (v25_0 < (b_0_1.length : Int)))) (rfl) (fun hq46 => ?_) (fun hq46 => ?_)
      · replace hb := (cT hq46).symm.trans hb
        refine Wc.skip ?_
        refine hK45 _ _ ?_
        refine Wc.seq fun K47 hK47 => ?_
        refine Wc.block ?_
        refine Wc.seq fun K48 hK48 => ?_
        refine Wc.region (by decide +kernel) ?_
        obtain ⟨x49, h50, hb⟩ := bd hb
        obtain ⟨ad51, cs52, hA, hc53, hr54⟩ := hC.elr (i := 1) rfl (get_some h50).2
        subst hA
        refine lex.pure (v := .pointer (some (ad51.add (v25_0.toNat * 1)))) (pu_index (a := v25_0) Try.underlying22 Try.sizeOf3 e23 e25 (get_some h50).1) ?_
        replace hC : Cx (fun _ => False) O0 w w41 ([.box g3 24 [.int .i64 b_0_0, .slice (some ad51) b_0_1.length cb_0_1], .ro (.sl (.int .i64)) [.slice (some ad51) b_0_1.length cb_0_1] b_0_1, .box g6 79 [.int .i64 0, .int .i64 0, .slice none 0 0], .box g19 79 [.int .i64 b_0_0, .int .i64 bf21_1_0, .slice Akf21_2_0 kf21_2_0.length ckf21_2_0], .own 52 .raw (.slice Akf21_2_0 kf21_2_0.length ckf21_2_0) hskf21_2_0, .own 3 (.int .i64) (.slice A27 y25.length c29) y25] ++ rowsF 3 (.int .i64) hskf21_2_0 kf21_2_0) := hC
        obtain ⟨rfl, hr54'⟩ := hr54
        refine lex.val (v := .int .i64 x49) (ld_one Try.isAgg3 rfl (hc53 0 _ rfl)) ?_
        refine lex.pure (v := .int .i64 x49) (pu_assign rfl) ?_
        refine lex.nil ?_
        refine hK48 _ _ ?_
        refine Wc.seq fun K55 hK55 => ?_
        refine Wc.region (by decide +kernel) ?_
        refine lex.pure (v := .pointer (some ((⟨g3, 0, none⟩ : Addr).add 0))) (pu_field (sz := 1) Try.underlying24 rfl Try.sizeOf3 (by decide) rfl e1) ?_
        refine lex.val (v := .int .i64 b_0_0) (ld_fld (hC.bx (i := 0) rfl) Try.isAgg3 rfl rfl) ?_
        obtain ⟨y56, h57, hb⟩ := bd hb
        refine lex.cl (⟨_, _, op_call (vs := [.int .i64 b_0_0]) Try.call62 rfl rfl rfl, garside_identity_ok n hC.lt hb_0_0 h57⟩) ?_
        rintro _ w62 ⟨A58, m59, c60, rfl, hK⟩
        replace hC := hC.merge hK
        clear hK
        obtain ⟨rfl, hl63, hc64⟩ := (hC.ow (i := 0) rfl).sl_len
        replace hC : Cx (fun _ => False) O0 w w62 ([.own 3 (.int .i64) (.slice A58 y56.length c60) y56, .box g3 24 [.int .i64 b_0_0, .slice (some ad51) b_0_1.length cb_0_1], .ro (.sl (.int .i64)) [.slice (some ad51) b_0_1.length cb_0_1] b_0_1, .box g6 79 [.int .i64 0, .int .i64 0, .slice none 0 0], .box g19 79 [.int .i64 b_0_0, .int .i64 bf21_1_0, .slice Akf21_2_0 kf21_2_0.length ckf21_2_0], .own 52 .raw (.slice Akf21_2_0 kf21_2_0.length ckf21_2_0) hskf21_2_0, .own 3 (.int .i64) (.slice A27 y25.length c29) y25] ++ rowsF 3 (.int .i64) hskf21_2_0 kf21_2_0) := hC
        refine lex.pure (v := .slice A58 y56.length c60) (pu_assign rfl) ?_
        refine lex.nil ?_
        refine hK55 _ _ ?_
        refine Wc.seq fun K65 hK65 => ?_
        refine Wc.region (by decide +kernel) ?_
        refine lex.pure (v := .int .i64 x49) (pu_move rfl) ?_
        refine lex.pure (v := .int .i64 x49) (pu_move rfl) ?_
        obtain ⟨z66, h67, hb⟩ := bd hb
        refine lex.pure (v := .int .i64 z66) (pu_negc (a := x49) rfl h67) ?_
        refine lex.pure (v := .int .i64 (max x49 z66)) (pu_max (a := x49) (b := z66) rfl rfl) ?_
        refine lex.pure (v := .int .i64 (max x49 z66)) (pu_assign rfl) ?_
        refine lex.nil ?_
        refine hK65 _ _ ?_
        refine Wc.fresh fun E68 hE => ?_
        have e1 : E68 1 = .pointer (some ⟨g3, 0, none⟩) := (congrFun hE 1).trans e1
        have e2 : E68 2 = .pointer (some ⟨g6, 0, none⟩) := (congrFun hE 2).trans e2
        have e3 : E68 3 = .int .i64 0 := (congrFun hE 3).trans e3
        have e4 : E68 4 = .pointer (some ⟨g19, 0, none⟩) := (congrFun hE 4).trans e4
        have e5 : E68 5 = .slice A27 y25.length c29 := (congrFun hE 5).trans e5
        have e7 : E68 7 = .int .i64 x49 := (congrFun hE 7).trans rfl
        have e8 : E68 8 = .slice A58 y56.length c60 := (congrFun hE 8).trans rfl
        have e9 : E68 9 = .int .i64 (max x49 z66) := (congrFun hE 9).trans rfl
        have e23 : E68 23 = .slice (some ad51) b_0_1.length cb_0_1 := (congrFun hE 23).trans e23
        have e24 : E68 24 = .int .i64 (b_0_1.length : Int) := (congrFun hE 24).trans e24
        have e25 : E68 25 = .int .i64 v25_0 := (congrFun hE 25).trans e25
        have e26 : E68 26 = .bool (decide (v25_0 < (b_0_1.length : Int))) := (congrFun hE 26).trans rfl
        clear hE
        refine Wc.seqJ (fun E wv => ∃ (l8_1 : List Int) (v9_1 : Int) (v37_1 : Bool) (bf21_1_1 : Int) (qFf21_2_0_1 : List (List Int)) (Al8_1 : Option Addr) (ml8_1 cl8_1 : Nat), E 1 = .pointer (some ⟨g3, 0, none⟩) ∧ E 2 = .pointer (some ⟨g6, 0, none⟩) ∧ E 3 = .int .i64 0 ∧ E 4 = .pointer (some ⟨g19, 0, none⟩) ∧ E 5 = .slice A27 y25.length c29 ∧ E 7 = .int .i64 x49 ∧ E 8 = .slice Al8_1 ml8_1 cl8_1 ∧ E 9 = .int .i64 v9_1 ∧ E 23 = .slice (some ad51) b_0_1.length cb_0_1 ∧ E 24 = .int .i64 (b_0_1.length : Int) ∧ E 25 = .int .i64 v25_0 ∧ E 26 = .bool (decide (v25_0 < (b_0_1.length : Int))) ∧ E 37 = .bool v37_1 ∧ I64 v9_1 ∧ I64 bf21_1_1 ∧ hskf21_2_0.length = qFf21_2_0_1.length ∧ Cx (fun _ => False) O0 w wv ([.box g3 24 [.int .i64 b_0_0, .slice (some ad51) b_0_1.length cb_0_1], .ro (.sl (.int .i64)) [.slice (some ad51) b_0_1.length cb_0_1] b_0_1, .box g6 79 [.int .i64 0, .int .i64 0, .slice none 0 0], .box g19 79 [.int .i64 b_0_0, .int .i64 bf21_1_1, .slice Akf21_2_0 kf21_2_0.length ckf21_2_0], .own 52 .raw (.slice Akf21_2_0 kf21_2_0.length ckf21_2_0) hskf21_2_0, .own 3 (.int .i64) (.slice A27 y25.length c29) y25, .own 3 (.int .i64) (.slice Al8_1 ml8_1 cl8_1) l8_1] ++ rowsF 3 (.int .i64) hskf21_2_0 qFf21_2_0_1) ∧ F.garside_Form_j1 n y25 v25_0 l8_1 v9_1 v37_1 bf21_1_1 qFf21_2_0_1 = some o43) (fun K69 hK69 => ?_) ?_
        ·
          skip
          refine Wc.seq fun K70 hK70 => ?_
          refine Wc.region (by decide +kernel) ?_
          refine lex.pure (v := .int .i64 x49) (pu_move e7) ?_
          refine lex.pure (v := .bool (decide (x49 < 0))) (pu_lss (k := .i64) (a := x49) (b := 0) rfl rfl) ?_
          refine lex.nil ?_
          refine hK70 _ _ ?_
          refine Wc.cond (t := (decide (x49 < 0))) (rfl) (fun hq71 => ?_) (fun hq71 => ?_)
          · replace hb := (cT hq71).symm.trans hb
            refine Wc.seq fun K72 hK72 => ?_
            refine Wc.region (by decide +kernel) ?_
            refine lex.pure (v := .pointer (some ((⟨g19, 0, none⟩ : Addr).add 1))) (pu_field (sz := 1) Try.underlying79 rfl Try.sizeOf3 (by decide) rfl e4) ?_
            refine lex.val (v := .int .i64 bf21_1_0) (ld_fld (hC.bx (i := 4) rfl) Try.isAgg3 rfl rfl) ?_
            obtain ⟨z73, h74, hb⟩ := bd hb
            have ez73 := (chk_some h74).1
            refine lex.pure (v := .int .i64 z73) (pu_subc (a := bf21_1_0) (b := 1) rfl rfl h74) ?_
            refine lex.pure (v := .pointer (some ((⟨g19, 0, none⟩ : Addr).add 1))) (pu_field (sz := 1) Try.underlying79 rfl Try.sizeOf3 (by decide) rfl e4) ?_
            refine lex.sk (hC.setf (i := 4) (k := 1) (v := .int .i64 z73) rfl Try.sizeOf3 rfl rfl rfl rfl) ?_
            rintro w75 ⟨hC, hF⟩
            refine lex.nil ?_
            refine hK72 _ _ ?_
            refine Wc.seq fun K76 hK76 => ?_
            refine Wc.seq fun K77 hK77 => ?_
            refine Wc.region (by decide +kernel) ?_
            replace hC : Cx (fun _ => False) O0 w w75 ([.own 3 (.int .i64) (.slice A58 y56.length c60) y56, .box g3 24 [.int .i64 b_0_0, .slice (some ad51) b_0_1.length cb_0_1], .ro (.sl (.int .i64)) [.slice (some ad51) b_0_1.length cb_0_1] b_0_1, .box g6 79 [.int .i64 0, .int .i64 0, .slice none 0 0], .box g19 79 [.int .i64 b_0_0, .int .i64 z73, .slice Akf21_2_0 kf21_2_0.length ckf21_2_0], .own 52 .raw (.slice Akf21_2_0 kf21_2_0.length ckf21_2_0) hskf21_2_0, .own 3 (.int .i64) (.slice A27 y25.length c29) y25] ++ rowsF 3 (.int .i64) hskf21_2_0 kf21_2_0) := hC
            refine lex.pure (v := .pointer (some ((⟨g19, 0, none⟩ : Addr).add 2))) (pu_field (sz := 1) Try.underlying79 rfl Try.sizeOf77 (by decide) rfl e4) ?_
            refine lex.val (v := .slice Akf21_2_0 kf21_2_0.length ckf21_2_0) (ld_fld (hC.bx (i := 4) rfl) Try.isAgg77 rfl rfl) ?_
            refine lex.pure (v := .int .i64 (kf21_2_0.length : Int)) (pu_len (A := Akf21_2_0) (n := kf21_2_0.length) (m := ckf21_2_0) Try.underlying77 rfl) ?_
            refine lex.pure (v := .int .i64 0) (pu_move rfl) ?_
            refine lex.nil ?_
            refine hK77 _ _ ?_
            refine Wc.fresh fun E78 hE => ?_
            have e1 : E78 1 = .pointer (some ⟨g3, 0, none⟩) := (congrFun hE 1).trans e1
            have e2 : E78 2 = .pointer (some ⟨g6, 0, none⟩) := (congrFun hE 2).trans e2
            have e3 : E78 3 = .int .i64 0 := (congrFun hE 3).trans e3
            have e4 : E78 4 = .pointer (some ⟨g19, 0, none⟩) := (congrFun hE 4).trans e4
            have e5 : E78 5 = .slice A27 y25.length c29 := (congrFun hE 5).trans e5
            have e7 : E78 7 = .int .i64 x49 := (congrFun hE 7).trans e7
            have e8 : E78 8 = .slice A58 y56.length c60 := (congrFun hE 8).trans e8
            have e9 : E78 9 = .int .i64 (max x49 z66) := (congrFun hE 9).trans e9
            have e23 : E78 23 = .slice (some ad51) b_0_1.length cb_0_1 := (congrFun hE 23).trans e23
            have e24 : E78 24 = .int .i64 (b_0_1.length : Int) := (congrFun hE 24).trans e24
            have e25 : E78 25 = .int .i64 v25_0 := (congrFun hE 25).trans e25
            have e26 : E78 26 = .bool (decide (v25_0 < (b_0_1.length : Int))) := (congrFun hE 26).trans e26
            have e37 : E78 37 = .bool (decide (x49 < 0)) := (congrFun hE 37).trans rfl
            have e43 : E78 43 = .slice Akf21_2_0 kf21_2_0.length ckf21_2_0 := (congrFun hE 43).trans rfl
            have e44 : E78 44 = .int .i64 (kf21_2_0.length : Int) := (congrFun hE 44).trans rfl
            have e45 : E78 45 = .int .i64 0 := (congrFun hE 45).trans rfl
            clear hE
            obtain ⟨o79, hl2, hb⟩ := bd hb
            refine Wc.cut (fun E wv => ∃ (v45_2 : Int) (qFf21_2_0_2 : List (List Int)), E 1 = .pointer (some ⟨g3, 0, none⟩) ∧ E 2 = .pointer (some ⟨g6, 0, none⟩) ∧ E 3 = .int .i64 0 ∧ E 4 = .pointer (some ⟨g19, 0, none⟩) ∧ E 5 = .slice A27 y25.length c29 ∧ E 7 = .int .i64 x49 ∧ E 8 = .slice A58 y56.length c60 ∧ E 9 = .int .i64 (max x49 z66) ∧ E 23 = .slice (some ad51) b_0_1.length cb_0_1 ∧ E 24 = .int .i64 (b_0_1.length : Int) ∧ E 25 = .int .i64 v25_0 ∧ E 26 = .bool (decide (v25_0 < (b_0_1.length : Int))) ∧ E 37 = .bool (decide (x49 < 0)) ∧ E 43 = .slice Akf21_2_0 kf21_2_0.length ckf21_2_0 ∧ E 44 = .int .i64 (kf21_2_0.length : Int) ∧ E 45 = .int .i64 v45_2 ∧ I64 v45_2 ∧ hskf21_2_0.length = qFf21_2_0_2.length ∧ Cx (fun _ => False) O0 w wv ([.box g3 24 [.int .i64 b_0_0, .slice (some ad51) b_0_1.length cb_0_1], .ro (.sl (.int .i64)) [.slice (some ad51) b_0_1.length cb_0_1] b_0_1, .box g6 79 [.int .i64 0, .int .i64 0, .slice none 0 0], .box g19 79 [.int .i64 b_0_0, .int .i64 z73, .slice Akf21_2_0 kf21_2_0.length ckf21_2_0], .own 52 .raw (.slice Akf21_2_0 kf21_2_0.length ckf21_2_0) hskf21_2_0, .own 3 (.int .i64) (.slice A27 y25.length c29) y25, .own 3 (.int .i64) (.slice A58 y56.length c60) y56] ++ rowsF 3 (.int .i64) hskf21_2_0 qFf21_2_0_2) ∧ ((F.slices_Clone_Perm_int n y25).bind fun y114 => (chk (b_0_0 - (max x49 z66))).bind fun z123 => F.garside_Form_j1 n y25 v25_0 y114 z123 (decide (x49 < 0)) z73 qFf21_2_0_2 : Option ((Int × Int × (List (List Int))) ⊕ ((Int × Int × (List (List Int)))))) = some o43) (fun K80 hK80 => ?_) ?_
            · refine Wc.block ?_
              refine Wc.loop (fun m E wv => ∃ (v45_2 : Int) (qFf21_2_0_2 : List (List Int)), E 1 = .pointer (some ⟨g3, 0, none⟩) ∧ E 2 = .pointer (some ⟨g6, 0, none⟩) ∧ E 3 = .int .i64 0 ∧ E 4 = .pointer (some ⟨g19, 0, none⟩) ∧ E 5 = .slice A27 y25.length c29 ∧ E 7 = .int .i64 x49 ∧ E 8 = .slice A58 y56.length c60 ∧ E 9 = .int .i64 (max x49 z66) ∧ E 23 = .slice (some ad51) b_0_1.length cb_0_1 ∧ E 24 = .int .i64 (b_0_1.length : Int) ∧ E 25 = .int .i64 v25_0 ∧ E 26 = .bool (decide (v25_0 < (b_0_1.length : Int))) ∧ E 37 = .bool (decide (x49 < 0)) ∧ E 43 = .slice Akf21_2_0 kf21_2_0.length ckf21_2_0 ∧ E 44 = .int .i64 (kf21_2_0.length : Int) ∧ E 45 = .int .i64 v45_2 ∧ I64 v45_2 ∧ hskf21_2_0.length = qFf21_2_0_2.length ∧ Cx (fun _ => False) O0 w wv ([.box g3 24 [.int .i64 b_0_0, .slice (some ad51) b_0_1.length cb_0_1], .ro (.sl (.int .i64)) [.slice (some ad51) b_0_1.length cb_0_1] b_0_1, .box g6 79 [.int .i64 0, .int .i64 0, .slice none 0 0], .box g19 79 [.int .i64 b_0_0, .int .i64 z73, .slice Akf21_2_0 kf21_2_0.length ckf21_2_0], .own 52 .raw (.slice Akf21_2_0 kf21_2_0.length ckf21_2_0) hskf21_2_0, .own 3 (.int .i64) (.slice A27 y25.length c29) y25, .own 3 (.int .i64) (.slice A58 y56.length c60) y56] ++ rowsF 3 (.int .i64) hskf21_2_0 qFf21_2_0_2) ∧ loopN m (F.garside_Form_b2 n kf21_2_0) (v45_2, qFf21_2_0_2) = some o79) n ⟨0, kf21_2_0, e1, e2, e3, e4, e5, e7, e8, e9, e23, e24, e25, e26, e37, e43, e44, e45, (show I64 0 from by unfold I64; omega), hNkf21_2_0, hC.selT [1, 2, 3, 4, 5, 6, 0] (by decide), hl2⟩ ?_
              have hbK2 := hb
              clear hb hC hl2
              rintro m82 E84 w83 ⟨v45_2, qFf21_2_0_2, e1, e2, e3, e4, e5, e7, e8, e9, e23, e24, e25, e26, e37, e43, e44, e45, hrv45_2, hNqFf21_2_0_2, hC, hl2⟩ K81 hK81
              obtain ⟨m82', o85, rfl, hb, hl2⟩ := loopN_some hl2
              unfold F.garside_Form_b2 at hb
              refine Wc.seq fun K86 hK86 => ?_
              refine Wc.region (by decide +kernel) ?_
              replace hC : Cx (fun _ => False) O0 w w83 ([.box g3 24 [.int .i64 b_0_0, .slice (some ad51) b_0_1.length cb_0_1], .ro (.sl (.int .i64)) [.slice (some ad51) b_0_1.length cb_0_1] b_0_1, .box g6 79 [.int .i64 0, .int .i64 0, .slice none 0 0], .box g19 79 [.int .i64 b_0_0, .int .i64 z73, .slice Akf21_2_0 kf21_2_0.length ckf21_2_0], .own 52 .raw (.slice Akf21_2_0 kf21_2_0.length ckf21_2_0) hskf21_2_0, .own 3 (.int .i64) (.slice A27 y25.length c29) y25, .own 3 (.int .i64) (.slice A58 y56.length c60) y56] ++ rowsF 3 (.int .i64) hskf21_2_0 qFf21_2_0_2) := hC
              refine lex.pure (v := .bool (decide (v45_2 < (kf21_2_0.length : Int)))) (pu_lss (k := .i64) (a := v45_2) (b := (kf21_2_0.length : Int)) e45 e44) ?_
              refine lex.nil ?_
              refine hK86 _ _ ?_
              refine Wc.seq fun K87 hK87 => ?_
              refine Wc.cond (t := (decide (v45_2 < (kf21_2_0.length : Int)))) (rfl) (fun hq88 => ?_) (fun hq88 => ?_)
              · replace hb := (cT hq88).symm.trans hb
                refine Wc.skip ?_
                refine hK87 _ _ ?_
                refine Wc.seq fun K89 hK89 => ?_
                refine Wc.block ?_
                refine Wc.seq fun K90 hK90 => ?_
                refine Wc.region (by decide +kernel) ?_
                obtain ⟨x91, h92, hb⟩ := bd hb
                obtain ⟨v97, hv98, -⟩ := rowsF_get (e := 3) (s := (.int .i64)) hNqFf21_2_0_2 (get_some h92).2
                obtain ⟨ad93, cs94, hA, hc95, hr96⟩ := hC.elo (i := 4) rfl hv98
                subst hA
                refine lex.pure (v := .pointer (some (ad93.add (v45_2.toNat * 1)))) (pu_index (a := v45_2) Try.underlying77 Try.sizeOf52 e43 e45 (by rw [(hC.ow (i := 4) rfl).sl_len.1, hNqFf21_2_0_2]; exact (get_some h92).1)) ?_
                replace hC : Cx (fun _ => False) O0 w w83 ([.box g3 24 [.int .i64 b_0_0, .slice (some ad51) b_0_1.length cb_0_1], .ro (.sl (.int .i64)) [.slice (some ad51) b_0_1.length cb_0_1] b_0_1, .box g6 79 [.int .i64 0, .int .i64 0, .slice none 0 0], .box g19 79 [.int .i64 b_0_0, .int .i64 z73, .slice (some ad93) kf21_2_0.length ckf21_2_0], .own 52 .raw (.slice (some ad93) kf21_2_0.length ckf21_2_0) hskf21_2_0, .own 3 (.int .i64) (.slice A27 y25.length c29) y25, .own 3 (.int .i64) (.slice A58 y56.length c60) y56] ++ rowsF 3 (.int .i64) hskf21_2_0 qFf21_2_0_2) := hC
                obtain ⟨A99, c100, hvf103, hl101, hc102⟩ := (hC.rowOw hv98 (get_some h92).2).form
                subst hvf103
                obtain ⟨rfl, -⟩ := hr96
                refine lex.val (v := .slice A99 x91.length c100) (ld_one Try.isAgg52 rfl (hc95 0 _ rfl)) ?_
                refine lex.pure (v := .slice A99 x91.length c100) (pu_assign rfl) ?_
                refine lex.nil ?_
                refine hK90 _ _ ?_
                refine Wc.region (by decide +kernel) ?_
                refine lex.pure (v := .slice A99 x91.length c100) (pu_move rfl) ?_
                obtain ⟨y105, h106, hb⟩ := bd hb
                refine lex.cl (⟨_, _, op_call (vs := [.slice A99 x91.length c100]) Try.call63 rfl rfl rfl, garside_turnAround_ok n hC.lt (hC.rowIO hv98 (get_some h92).2) h106⟩) ?_
                rintro _ w107 ⟨rfl, hK⟩
                replace hC := hC.row1 hv98 (get_some h92).2 hK rfl
                clear hK
                have hN108 : hskf21_2_0.length = (qFf21_2_0_2.set v45_2.toNat y105).length := by simp only [List.length_set]; exact hNqFf21_2_0_2
                replace hC : Cx (fun _ => False) O0 w w107 ([.box g3 24 [.int .i64 b_0_0, .slice (some ad51) b_0_1.length cb_0_1], .ro (.sl (.int .i64)) [.slice (some ad51) b_0_1.length cb_0_1] b_0_1, .box g6 79 [.int .i64 0, .int .i64 0, .slice none 0 0], .box g19 79 [.int .i64 b_0_0, .int .i64 z73, .slice (some ad93) kf21_2_0.length ckf21_2_0], .own 52 .raw (.slice (some ad93) kf21_2_0.length ckf21_2_0) hskf21_2_0, .own 3 (.int .i64) (.slice A27 y25.length c29) y25, .own 3 (.int .i64) (.slice A58 y56.length c60) y56] ++ rowsF 3 (.int .i64) hskf21_2_0 (qFf21_2_0_2.set v45_2.toNat y105)) := hC
                refine lex.nil ?_
                refine hK89 _ _ ?_
                refine Wc.region (by decide +kernel) ?_
                obtain ⟨z109, h110, hb⟩ := bd hb
                have ez109 := (chk_some h110).1
                refine lex.pure (v := .int .i64 z109) (pu_addc (a := v45_2) (b := 1) e45 rfl h110) ?_
                refine lex.pure (v := .int .i64 z109) (pu_move rfl) ?_
                refine lex.nil ?_
                obtain rfl := Option.some.inj hb
                exact hK81 m82' _ _ (Nat.lt_succ_self _) ⟨z109, (qFf21_2_0_2.set v45_2.toNat y105), e1, e2, e3, e4, e5, e7, e8, e9, e23, e24, e25, e26, e37, e43, e44, rfl, (chk_rng h110), hN108, hC.selT [0, 1, 2, 3, 4, 5, 6] (by decide), lN hl2⟩
              · replace hb := (cF hq88).symm.trans hb
                refine Wc.exit rfl ?_
                obtain rfl := Option.some.inj hb
                obtain rfl := (lX hl2).symm
                exact hK80 _ _ ⟨v45_2, qFf21_2_0_2, e1, e2, e3, e4, e5, e7, e8, e9, e23, e24, e25, e26, e37, e43, e44, e45, hrv45_2, hNqFf21_2_0_2, hC.selT [0, 1, 2, 3, 4, 5, 6] (by decide), hbK2⟩
            · clear hb hC hl2
              rintro E112 w111 ⟨v45_2, qFf21_2_0_2, e1, e2, e3, e4, e5, e7, e8, e9, e23, e24, e25, e26, e37, e43, e44, e45, hrv45_2, hNqFf21_2_0_2, hC, hb⟩
              refine hK76 _ _ ?_
              refine Wc.seq fun K113 hK113 => ?_
              refine Wc.region (by decide +kernel) ?_
              replace hC : Cx (fun _ => False) O0 w w111 ([.box g3 24 [.int .i64 b_0_0, .slice (some ad51) b_0_1.length cb_0_1], .ro (.sl (.int .i64)) [.slice (some ad51) b_0_1.length cb_0_1] b_0_1, .box g6 79 [.int .i64 0, .int .i64 0, .slice none 0 0], .box g19 79 [.int .i64 b_0_0, .int .i64 z73, .slice Akf21_2_0 kf21_2_0.length ckf21_2_0], .own 52 .raw (.slice Akf21_2_0 kf21_2_0.length ckf21_2_0) hskf21_2_0, .own 3 (.int .i64) (.slice A27 y25.length c29) y25, .own 3 (.int .i64) (.slice A58 y56.length c60) y56] ++ rowsF 3 (.int .i64) hskf21_2_0 qFf21_2_0_2) := hC
              refine lex.pure (v := .slice A27 y25.length c29) (pu_move e5) ?_
              obtain ⟨y114, h115, hb⟩ := bd hb
              refine lex.cl (⟨_, _, op_call (vs := [.slice A27 y25.length c29]) Try.call64 rfl rfl rfl, slices_Clone_Perm_int_ok n (hC.lentLt [.slice A27 y25.length c29]) ((hC.ow (i := 5) rfl).lend (vs := [.slice A27 y25.length c29]) (by simp)) h115⟩) ?_
              rintro _ w120 ⟨A116, m117, c118, rfl, hK⟩
              replace hC := hC.mergeF hK rfl
              clear hK
              obtain ⟨rfl, hl121, hc122⟩ := (hC.ow (i := 0) rfl).sl_len
              replace hC : Cx (fun _ => False) O0 w w120 ([.own 3 (.int .i64) (.slice A116 y114.length c118) y114, .box g3 24 [.int .i64 b_0_0, .slice (some ad51) b_0_1.length cb_0_1], .ro (.sl (.int .i64)) [.slice (some ad51) b_0_1.length cb_0_1] b_0_1, .box g6 79 [.int .i64 0, .int .i64 0, .slice none 0 0], .box g19 79 [.int .i64 b_0_0, .int .i64 z73, .slice Akf21_2_0 kf21_2_0.length ckf21_2_0], .own 52 .raw (.slice Akf21_2_0 kf21_2_0.length ckf21_2_0) hskf21_2_0, .own 3 (.int .i64) (.slice A27 y25.length c29) y25, .own 3 (.int .i64) (.slice A58 y56.length c60) y56] ++ rowsF 3 (.int .i64) hskf21_2_0 qFf21_2_0_2) := hC
              refine lex.pure (v := .slice A116 y114.length c118) (pu_assign rfl) ?_
              refine lex.nil ?_
              refine hK113 _ _ ?_
              refine Wc.region (by decide +kernel) ?_
              refine lex.pure (v := .pointer (some ((⟨g3, 0, none⟩ : Addr).add 0))) (pu_field (sz := 1) Try.underlying24 rfl Try.sizeOf3 (by decide) rfl e1) ?_
              refine lex.val (v := .int .i64 b_0_0) (ld_fld (hC.bx (i := 1) rfl) Try.isAgg3 rfl rfl) ?_
              refine lex.pure (v := .int .i64 (max x49 z66)) (pu_move e9) ?_
              obtain ⟨z123, h124, hb⟩ := bd hb
              have ez123 := (chk_some h124).1
              refine lex.pure (v := .int .i64 z123) (pu_subc (a := b_0_0) (b := (max x49 z66)) rfl rfl h124) ?_
              refine lex.pure (v := .int .i64 z123) (pu_assign rfl) ?_
              refine lex.nil ?_
              exact hK69 _ _ ⟨y114, z123, (decide (x49 < 0)), z73, qFf21_2_0_2, A116, y114.length, c118, e1, e2, e3, e4, e5, e7, rfl, rfl, e23, e24, e25, e26, e37, (chk_rng h124), (chk_rng h74), hNqFf21_2_0_2, hC.selT [1, 2, 3, 4, 5, 6, 0] (by decide), hb⟩
          · replace hb := (cF hq71).symm.trans hb
            refine Wc.skip ?_
            exact hK69 _ _ ⟨y56, (max x49 z66), (decide (x49 < 0)), bf21_1_0, kf21_2_0, A58, y56.length, c60, e1, e2, e3, e4, e5, e7, e8, e9, e23, e24, e25, e26, rfl, (I64.max (wrap_I64 hr54') (chk_rng h67)), hrbf21_1_0, hNkf21_2_0, hC.selT [1, 2, 3, 4, 5, 6, 0] (by decide), hb⟩
        · clear hb hC
          rintro E126 w125 ⟨l8_1, v9_1, v37_1, bf21_1_1, qFf21_2_0_1, Al8_1, ml8_1, cl8_1, e1, e2, e3, e4, e5, e7, e8, e9, e23, e24, e25, e26, e37, hrv9_1, hrbf21_1_1, hNqFf21_2_0_1, hC, hb⟩
          unfold F.garside_Form_j1 at hb
          obtain ⟨rfl, hll8_1, hcl8_1⟩ := (hC.ow (i := 6) rfl).sl_len
          refine Wc.seq fun K127 hK127 => ?_
          refine Wc.regionMix [] (frm [] ([] : List Fact) [.own 3 (.int .i64) (.slice Al8_1 l8_1.length cl8_1) l8_1]) (fun _ => rfl) mixed (by decide +kernel) (by decide +kernel) fun w129 hw128 => ?_
          replace hC := hC.step (Fr.of_drew hw128)
          have hM := Fr.refl (fun k => k ∈ blocks ([] : List Fact)) w129
          clear hw128
          have hS := hC
          have hD : Fr (fun k => k ∈ blocks (([] : List Fact) ++ [.own 3 (.int .i64) (.slice Al8_1 l8_1.length cl8_1) l8_1])) w129 w129 := hM.wide
          have hUF8_1 : Beside (([] : List Fact) ++ [.own 3 (.int .i64) (.slice Al8_1 l8_1.length cl8_1) l8_1]) w129 (.slice Al8_1 l8_1.length cl8_1) := Beside.of (i := 0) rfl
          replace hC : Cx (fun _ => False) O0 w w129 ([.box g3 24 [.int .i64 b_0_0, .slice (some ad51) b_0_1.length cb_0_1], .ro (.sl (.int .i64)) [.slice (some ad51) b_0_1.length cb_0_1] b_0_1, .box g6 79 [.int .i64 0, .int .i64 0, .slice none 0 0], .box g19 79 [.int .i64 b_0_0, .int .i64 bf21_1_1, .slice Akf21_2_0 kf21_2_0.length ckf21_2_0], .own 52 .raw (.slice Akf21_2_0 kf21_2_0.length ckf21_2_0) hskf21_2_0, .own 3 (.int .i64) (.slice A27 y25.length c29) y25, .own 3 (.int .i64) (.slice Al8_1 l8_1.length cl8_1) l8_1] ++ rowsF 3 (.int .i64) hskf21_2_0 qFf21_2_0_1) := hC
          refine mixE.pure (v := .slice Al8_1 l8_1.length cl8_1) (pu_move e8) ?_
          refine mixE.pure (v := .int .i64 v9_1) (pu_move e9) ?_
          obtain ⟨z130, h131, hb⟩ := bd hb
          have ez130 := (chk_some h131).1
          refine mixE.pure (v := .int .i64 z130) (pu_subc (a := v9_1) (b := 1) rfl rfl h131) ?_
          refine mixE.pure (v := .slice Al8_1 l8_1.length cl8_1) (pu_move e8) ?_
          refine mixE.pure (v := .int .i64 v9_1) (pu_move e9) ?_
          refine mixE.pure (v := .slice Al8_1 l8_1.length cl8_1) (pu_move e8) ?_
          refine mixE.pure (v := .int .i64 v9_1) (pu_move e9) ?_
          obtain ⟨x132, h133, hb⟩ := bd hb
          obtain ⟨ad134, cs135, hA, ho138, hc136, hr137⟩ := hS.elo2 (i := 6) rfl (get_some h133).2 [] (by decide)
          subst hA
          refine mixE.pure (v := .pointer (some (ad134.add (v9_1.toNat * 1)))) (pu_index (a := v9_1) Try.underlying52 Try.sizeOf3 rfl rfl (get_some h133).1) ?_
          replace hC : Cx (fun _ => False) O0 w w129 ([.box g3 24 [.int .i64 b_0_0, .slice (some ad51) b_0_1.length cb_0_1], .ro (.sl (.int .i64)) [.slice (some ad51) b_0_1.length cb_0_1] b_0_1, .box g6 79 [.int .i64 0, .int .i64 0, .slice none 0 0], .box g19 79 [.int .i64 b_0_0, .int .i64 bf21_1_1, .slice Akf21_2_0 kf21_2_0.length ckf21_2_0], .own 52 .raw (.slice Akf21_2_0 kf21_2_0.length ckf21_2_0) hskf21_2_0, .own 3 (.int .i64) (.slice A27 y25.length c29) y25, .own 3 (.int .i64) (.slice (some ad134) l8_1.length cl8_1) l8_1] ++ rowsF 3 (.int .i64) hskf21_2_0 qFf21_2_0_1) := hC
          obtain ⟨rfl, hr137'⟩ := hr137
          refine mixE.load hM (v := .int .i64 x132) (fun _ hF => ld_one Try.isAgg3 rfl (hF.cell (hc136 0 _ rfl) (off1 ho138))) ?_
          refine mixE.pure (v := .slice (some ad134) l8_1.length cl8_1) (pu_move e8) ?_
          refine mixE.pure (v := .int .i64 v9_1) (pu_move e9) ?_
          obtain ⟨z139, h140, hb⟩ := bd hb
          have ez139 := (chk_some h140).1
          refine mixE.pure (v := .int .i64 z139) (pu_subc (a := v9_1) (b := 1) rfl rfl h140) ?_
          obtain ⟨x141, h142, hb⟩ := bd hb
          obtain ⟨ad143, cs144, hA, ho147, hc145, hr146⟩ := hS.elo2 (i := 6) rfl (get_some h142).2 [] (by decide)
          obtain rfl := Option.some.inj hA
          refine mixE.pure (v := .pointer (some (ad134.add (z139.toNat * 1)))) (pu_index (a := z139) Try.underlying52 Try.sizeOf3 rfl rfl (get_some h142).1) ?_
          obtain ⟨rfl, hr146'⟩ := hr146
          refine mixE.load hM (v := .int .i64 x141) (fun _ hF => ld_one Try.isAgg3 rfl (hF.cell (hc145 0 _ rfl) (off1 ho147))) ?_
          obtain ⟨x148, h149, hb⟩ := bd hb
          obtain ⟨ad150, cs151, hA, ho154, hc152, hr153⟩ := hS.elo2 (i := 6) rfl (get_some h149).2 [] (by decide)
          obtain rfl := Option.some.inj hA
          refine mixE.pure (v := .pointer (some (ad134.add (z130.toNat * 1)))) (pu_index (a := z130) Try.underlying52 Try.sizeOf3 rfl rfl (get_some h149).1) ?_
          refine mixE.sk hD (hC.put (i := 6) rfl rfl Try.sizeOf3 (k := z130.toNat) (a := x132) (by have := (get_some h149).1; simp at this ⊢; omega) (⟨rfl, I64.wr (wrap_I64 hr137')⟩) rfl rfl rfl) ?_
          rintro w155 ⟨hC, hF⟩
          replace hD := hD.beside hUF8_1 hF
          clear hF
          refine ⟨hD, ?_⟩
          replace hC : Cx (fun _ => False) O0 w w155 ([.box g3 24 [.int .i64 b_0_0, .slice (some ad51) b_0_1.length cb_0_1], .ro (.sl (.int .i64)) [.slice (some ad51) b_0_1.length cb_0_1] b_0_1, .box g6 79 [.int .i64 0, .int .i64 0, .slice none 0 0], .box g19 79 [.int .i64 b_0_0, .int .i64 bf21_1_1, .slice Akf21_2_0 kf21_2_0.length ckf21_2_0], .own 52 .raw (.slice Akf21_2_0 kf21_2_0.length ckf21_2_0) hskf21_2_0, .own 3 (.int .i64) (.slice A27 y25.length c29) y25, .own 3 (.int .i64) (.slice (some ad134) l8_1.length cl8_1) (l8_1.set z130.toNat x132)] ++ rowsF 3 (.int .i64) hskf21_2_0 qFf21_2_0_1) := hC
          obtain ⟨x156, h157, hb⟩ := bd hb
          obtain ⟨ad158, cs159, hA, hc160, hr161⟩ := hC.elo (i := 6) rfl (get_some h157).2
          obtain rfl := Option.some.inj hA
          refine mixE.pure (v := .pointer (some (ad134.add (v9_1.toNat * 1)))) (pu_index (a := v9_1) Try.underlying52 Try.sizeOf3 rfl rfl (by rw [(hC.ow (i := 6) rfl).sl_len.1]; exact (get_some h157).1)) ?_
          refine mixE.sk hD (hC.put (i := 6) rfl rfl Try.sizeOf3 (k := v9_1.toNat) (a := x141) (by have := (get_some h157).1; simp at this ⊢; omega) (⟨rfl, I64.wr (wrap_I64 hr146')⟩) rfl rfl rfl) ?_
          rintro w162 ⟨hC, hF⟩
          replace hD := hD.beside hUF8_1 hF
          clear hF
          refine ⟨hD, ?_⟩
          refine mixE.nil ?_
          clear hS hM
          clear hD
          refine hK127 _ _ ?_
          refine Wc.fresh fun E163 hE => ?_
          have e1 : E163 1 = .pointer (some ⟨g3, 0, none⟩) := (congrFun hE 1).trans e1
          have e2 : E163 2 = .pointer (some ⟨g6, 0, none⟩) := (congrFun hE 2).trans e2
          have e3 : E163 3 = .int .i64 0 := (congrFun hE 3).trans e3
          have e4 : E163 4 = .pointer (some ⟨g19, 0, none⟩) := (congrFun hE 4).trans e4
          have e5 : E163 5 = .slice A27 y25.length c29 := (congrFun hE 5).trans e5
          have e7 : E163 7 = .int .i64 x49 := (congrFun hE 7).trans e7
          have e8 : E163 8 = .slice (some ad134) l8_1.length cl8_1 := (congrFun hE 8).trans e8
          have e9 : E163 9 = .int .i64 v9_1 := (congrFun hE 9).trans e9
          have e23 : E163 23 = .slice (some ad51) b_0_1.length cb_0_1 := (congrFun hE 23).trans e23
          have e24 : E163 24 = .int .i64 (b_0_1.length : Int) := (congrFun hE 24).trans e24
          have e25 : E163 25 = .int .i64 v25_0 := (congrFun hE 25).trans e25
          have e26 : E163 26 = .bool (decide (v25_0 < (b_0_1.length : Int))) := (congrFun hE 26).trans e26
          have e37 : E163 37 = .bool v37_1 := (congrFun hE 37).trans e37
          clear hE
          refine Wc.seq fun K164 hK164 => ?_
          refine Wc.region (by decide +kernel) ?_
          replace hC : Cx (fun _ => False) O0 w w162 ([.box g3 24 [.int .i64 b_0_0, .slice (some ad51) b_0_1.length cb_0_1], .ro (.sl (.int .i64)) [.slice (some ad51) b_0_1.length cb_0_1] b_0_1, .box g6 79 [.int .i64 0, .int .i64 0, .slice none 0 0], .box g19 79 [.int .i64 b_0_0, .int .i64 bf21_1_1, .slice Akf21_2_0 kf21_2_0.length ckf21_2_0], .own 52 .raw (.slice Akf21_2_0 kf21_2_0.length ckf21_2_0) hskf21_2_0, .own 3 (.int .i64) (.slice A27 y25.length c29) y25, .own 3 (.int .i64) (.slice (some ad134) l8_1.length cl8_1) ((l8_1.set z130.toNat x132).set v9_1.toNat x141)] ++ rowsF 3 (.int .i64) hskf21_2_0 qFf21_2_0_1) := hC
          refine lex.pure (v := .pointer (some ((⟨g19, 0, none⟩ : Addr).add 2))) (pu_field (sz := 1) Try.underlying79 rfl Try.sizeOf77 (by decide) rfl e4) ?_
          refine lex.val (v := .slice Akf21_2_0 kf21_2_0.length ckf21_2_0) (ld_fld (hC.bx (i := 3) rfl) Try.isAgg77 rfl rfl) ?_
          refine lex.pure (v := .slice (some ad134) l8_1.length cl8_1) (pu_move e8) ?_
          refine lex.op (hC.lit (s := .raw) (vs := [.slice (some ad134) l8_1.length cl8_1]) (xs := [.slice (some ad134) l8_1.length cl8_1]) Try.underlying77 Try.type52 rfl rfl (Nat.le_of_ble_eq_true rfl) rfl rfl (by simp [Value.cells, Sh.n]) rfl (show Elems _ _ .raw ([.slice (some ad134) l8_1.length cl8_1] ++ []) [.slice (some ad134) l8_1.length cl8_1] from Elems.cons (show Rep _ _ .raw [.slice (some ad134) l8_1.length cl8_1] (.slice (some ad134) l8_1.length cl8_1) from ⟨rfl, rfl⟩) (Elems.nil _ _ _))) ?_
          rintro _ w169 ⟨A165, c166, rfl, hl167, hc168, hC, hF, hN⟩
          clear hF hN
          replace hC : Cx (fun _ => False) O0 w w169 ([.own 52 .raw (.slice A165 (([.slice (some ad134) l8_1.length cl8_1] : List Value).length) c166) ([.slice (some ad134) l8_1.length cl8_1]), .box g3 24 [.int .i64 b_0_0, .slice (some ad51) b_0_1.length cb_0_1], .ro (.sl (.int .i64)) [.slice (some ad51) b_0_1.length cb_0_1] b_0_1, .box g6 79 [.int .i64 0, .int .i64 0, .slice none 0 0], .box g19 79 [.int .i64 b_0_0, .int .i64 bf21_1_1, .slice Akf21_2_0 kf21_2_0.length ckf21_2_0], .own 52 .raw (.slice Akf21_2_0 kf21_2_0.length ckf21_2_0) hskf21_2_0, .own 3 (.int .i64) (.slice A27 y25.length c29) y25, .own 3 (.int .i64) (.slice (some ad134) l8_1.length cl8_1) ((l8_1.set z130.toNat x132).set v9_1.toNat x141)] ++ rowsF 3 (.int .i64) hskf21_2_0 qFf21_2_0_1) := hC
          obtain ⟨u171, h172, hb⟩ := bd hb
          refine lex.op (hC.nestApp (i := 5) (il := 0) (s := (.int .i64)) (xss := qFf21_2_0_1) ((l8_1.set z130.toNat x132).set v9_1.toNat x141) rfl rfl hNqFf21_2_0_1 Try.underlying77 Try.underlying77 Try.type52 rfl rfl rfl rfl rfl (by have := lim_some h172; simpa using this) (by decide)) ?_
          rintro _ w178 ⟨A173, c174, rfl, hl175, hc176, hC⟩
          replace hC : Cx (fun _ => False) O0 w w178 ([.own 52 .raw (.slice A165 (([.slice (some ad134) l8_1.length cl8_1] : List Value).length) c166) ([.slice (some ad134) l8_1.length cl8_1]), .box g3 24 [.int .i64 b_0_0, .slice (some ad51) b_0_1.length cb_0_1], .ro (.sl (.int .i64)) [.slice (some ad51) b_0_1.length cb_0_1] b_0_1, .box g6 79 [.int .i64 0, .int .i64 0, .slice none 0 0], .box g19 79 [.int .i64 b_0_0, .int .i64 bf21_1_1, .slice Akf21_2_0 kf21_2_0.length ckf21_2_0], .own 52 .raw (.slice A173 ((qFf21_2_0_1 ++ [((l8_1.set z130.toNat x132).set v9_1.toNat x141)]).length) c174) (hskf21_2_0 ++ [Value.slice (some ad134) l8_1.length cl8_1]), .own 3 (.int .i64) (.slice A27 y25.length c29) y25, .own 3 (.int .i64) (.slice (some ad134) l8_1.length cl8_1) ((l8_1.set z130.toNat x132).set v9_1.toNat x141)] ++ rowsF 3 (.int .i64) hskf21_2_0 qFf21_2_0_1) := hC
          replace hC := hC.selT [7, 1, 2, 3, 4, 5, 6] (by decide)
          replace hC : Cx (fun _ => False) O0 w w178 ([.own 3 (.int .i64) (.slice (some ad134) l8_1.length cl8_1) ((l8_1.set z130.toNat x132).set v9_1.toNat x141), .box g3 24 [.int .i64 b_0_0, .slice (some ad51) b_0_1.length cb_0_1], .ro (.sl (.int .i64)) [.slice (some ad51) b_0_1.length cb_0_1] b_0_1, .box g6 79 [.int .i64 0, .int .i64 0, .slice none 0 0], .box g19 79 [.int .i64 b_0_0, .int .i64 bf21_1_1, .slice Akf21_2_0 kf21_2_0.length ckf21_2_0], .own 52 .raw (.slice A173 ((qFf21_2_0_1 ++ [((l8_1.set z130.toNat x132).set v9_1.toNat x141)]).length) c174) (hskf21_2_0 ++ [Value.slice (some ad134) l8_1.length cl8_1]), .own 3 (.int .i64) (.slice A27 y25.length c29) y25] ++ rowsF 3 (.int .i64) hskf21_2_0 qFf21_2_0_1) := hC
          replace hC := hC.intoT hNqFf21_2_0_1
          have hN177 : (hskf21_2_0 ++ [Value.slice (some ad134) l8_1.length cl8_1]).length = (qFf21_2_0_1 ++ [((l8_1.set z130.toNat x132).set v9_1.toNat x141)]).length := by rw [List.length_append, List.length_append, hNqFf21_2_0_1]; rfl
          replace hC : Cx (fun _ => False) O0 w w178 ([.box g3 24 [.int .i64 b_0_0, .slice (some ad51) b_0_1.length cb_0_1], .ro (.sl (.int .i64)) [.slice (some ad51) b_0_1.length cb_0_1] b_0_1, .box g6 79 [.int .i64 0, .int .i64 0, .slice none 0 0], .box g19 79 [.int .i64 b_0_0, .int .i64 bf21_1_1, .slice Akf21_2_0 kf21_2_0.length ckf21_2_0], .own 52 .raw (.slice A173 ((qFf21_2_0_1 ++ [((l8_1.set z130.toNat x132).set v9_1.toNat x141)]).length) c174) (hskf21_2_0 ++ [Value.slice (some ad134) l8_1.length cl8_1]), .own 3 (.int .i64) (.slice A27 y25.length c29) y25] ++ rowsF 3 (.int .i64) (hskf21_2_0 ++ [Value.slice (some ad134) l8_1.length cl8_1]) (qFf21_2_0_1 ++ [((l8_1.set z130.toNat x132).set v9_1.toNat x141)])) := hC
          replace hC := hC.selT [4, 0, 1, 2, 3, 5] (by decide)
          replace hC : Cx (fun _ => False) O0 w w178 ([.own 52 .raw (.slice A173 ((qFf21_2_0_1 ++ [((l8_1.set z130.toNat x132).set v9_1.toNat x141)]).length) c174) (hskf21_2_0 ++ [Value.slice (some ad134) l8_1.length cl8_1]), .box g3 24 [.int .i64 b_0_0, .slice (some ad51) b_0_1.length cb_0_1], .ro (.sl (.int .i64)) [.slice (some ad51) b_0_1.length cb_0_1] b_0_1, .box g6 79 [.int .i64 0, .int .i64 0, .slice none 0 0], .box g19 79 [.int .i64 b_0_0, .int .i64 bf21_1_1, .slice Akf21_2_0 kf21_2_0.length ckf21_2_0], .own 3 (.int .i64) (.slice A27 y25.length c29) y25] ++ rowsF 3 (.int .i64) (hskf21_2_0 ++ [Value.slice (some ad134) l8_1.length cl8_1]) (qFf21_2_0_1 ++ [((l8_1.set z130.toNat x132).set v9_1.toNat x141)])) := hC
          replace hC := hC.tailFront
          replace hC : Cx (fun _ => False) O0 w w178 (([.own 52 .raw (.slice A173 ((qFf21_2_0_1 ++ [((l8_1.set z130.toNat x132).set v9_1.toNat x141)]).length) c174) (hskf21_2_0 ++ [Value.slice (some ad134) l8_1.length cl8_1])] ++ rowsF 3 (.int .i64) (hskf21_2_0 ++ [Value.slice (some ad134) l8_1.length cl8_1]) (qFf21_2_0_1 ++ [((l8_1.set z130.toNat x132).set v9_1.toNat x141)])) ++ [.box g3 24 [.int .i64 b_0_0, .slice (some ad51) b_0_1.length cb_0_1], .ro (.sl (.int .i64)) [.slice (some ad51) b_0_1.length cb_0_1] b_0_1, .box g6 79 [.int .i64 0, .int .i64 0, .slice none 0 0], .box g19 79 [.int .i64 b_0_0, .int .i64 bf21_1_1, .slice Akf21_2_0 kf21_2_0.length ckf21_2_0], .own 3 (.int .i64) (.slice A27 y25.length c29) y25]) := hC
          obtain ⟨y179, h180, hb⟩ := bd hb
          refine lex.cl (⟨_, _, op_call (vs := [.slice A173 ((qFf21_2_0_1 ++ [((l8_1.set z130.toNat x132).set v9_1.toNat x141)]).length) c174]) Try.call65 rfl rfl rfl, garside_settle_ok n hC.lt hN177 hC.give h180⟩) ?_
          rintro _ w187 ⟨A181, m182, c183, hs185, rfl, hN186, hK⟩
          replace hC := hC.back hK
          replace hC := Cx.tailBack hC
          clear hK
          replace hC : Cx (fun _ => False) O0 w w187 ([.own 52 .raw (.slice A181 m182 c183) hs185, .box g3 24 [.int .i64 b_0_0, .slice (some ad51) b_0_1.length cb_0_1], .ro (.sl (.int .i64)) [.slice (some ad51) b_0_1.length cb_0_1] b_0_1, .box g6 79 [.int .i64 0, .int .i64 0, .slice none 0 0], .box g19 79 [.int .i64 b_0_0, .int .i64 bf21_1_1, .slice Akf21_2_0 kf21_2_0.length ckf21_2_0], .own 3 (.int .i64) (.slice A27 y25.length c29) y25] ++ rowsF 3 (.int .i64) hs185 y179) := hC
          obtain ⟨hm, hl188, hc189⟩ := (hC.ow (i := 0) rfl).sl_len
          rw [hN186] at hm hl188
          subst hm
          replace hC : Cx (fun _ => False) O0 w w187 ([.own 52 .raw (.slice A181 y179.length c183) hs185, .box g3 24 [.int .i64 b_0_0, .slice (some ad51) b_0_1.length cb_0_1], .ro (.sl (.int .i64)) [.slice (some ad51) b_0_1.length cb_0_1] b_0_1, .box g6 79 [.int .i64 0, .int .i64 0, .slice none 0 0], .box g19 79 [.int .i64 b_0_0, .int .i64 bf21_1_1, .slice Akf21_2_0 kf21_2_0.length ckf21_2_0], .own 3 (.int .i64) (.slice A27 y25.length c29) y25] ++ rowsF 3 (.int .i64) hs185 y179) := hC
          refine lex.pure (v := .pointer (some ((⟨g19, 0, none⟩ : Addr).add 2))) (pu_field (sz := 1) Try.underlying79 rfl Try.sizeOf77 (by decide) rfl e4) ?_
          refine lex.sk (hC.setf (i := 4) (k := 2) (v := .slice A181 y179.length c183) rfl Try.sizeOf77 rfl rfl rfl rfl) ?_
          rintro w190 ⟨hC, hF⟩
          refine lex.nil ?_
          refine hK164 _ _ ?_
          obtain ⟨o191, hl3, hb⟩ := bd hb
          refine Wc.cut (fun E wv => ∃ (bf21_1_3 : Int) (kf21_2_3 : List (List Int)) (Akf21_2_3 : Option Addr) (mkf21_2_3 ckf21_2_3 : Nat) (hskf21_2_3 : List Value), E 1 = .pointer (some ⟨g3, 0, none⟩) ∧ E 2 = .pointer (some ⟨g6, 0, none⟩) ∧ E 3 = .int .i64 0 ∧ E 4 = .pointer (some ⟨g19, 0, none⟩) ∧ E 5 = .slice A27 y25.length c29 ∧ E 7 = .int .i64 x49 ∧ E 9 = .int .i64 v9_1 ∧ E 23 = .slice (some ad51) b_0_1.length cb_0_1 ∧ E 24 = .int .i64 (b_0_1.length : Int) ∧ E 25 = .int .i64 v25_0 ∧ E 26 = .bool (decide (v25_0 < (b_0_1.length : Int))) ∧ E 37 = .bool v37_1 ∧ I64 bf21_1_3 ∧ hskf21_2_3.length = kf21_2_3.length ∧ Cx (fun _ => False) O0 w wv ([.box g3 24 [.int .i64 b_0_0, .slice (some ad51) b_0_1.length cb_0_1], .ro (.sl (.int .i64)) [.slice (some ad51) b_0_1.length cb_0_1] b_0_1, .box g6 79 [.int .i64 0, .int .i64 0, .slice none 0 0], .box g19 79 [.int .i64 b_0_0, .int .i64 bf21_1_3, .slice Akf21_2_3 mkf21_2_3 ckf21_2_3], .own 52 .raw (.slice Akf21_2_3 mkf21_2_3 ckf21_2_3) hskf21_2_3, .own 3 (.int .i64) (.slice A27 y25.length c29) y25] ++ rowsF 3 (.int .i64) hskf21_2_3 kf21_2_3) ∧ ((chk (v25_0 + 1)).bind fun z235 => some (.inl (z235, bf21_1_3, kf21_2_3)) : Option ((Int × Int × (List (List Int))) ⊕ ((Int × Int × (List (List Int)))))) = some o43) (fun K192 hK192 => ?_) ?_
          · refine Wc.block ?_
            replace hC : Cx (fun _ => False) O0 w w190 ([.own 52 .raw (.slice A181 y179.length c183) hs185, .box g3 24 [.int .i64 b_0_0, .slice (some ad51) b_0_1.length cb_0_1], .ro (.sl (.int .i64)) [.slice (some ad51) b_0_1.length cb_0_1] b_0_1, .box g6 79 [.int .i64 0, .int .i64 0, .slice none 0 0], .box g19 79 [.int .i64 b_0_0, .int .i64 bf21_1_1, .slice A181 y179.length c183], .own 3 (.int .i64) (.slice A27 y25.length c29) y25] ++ rowsF 3 (.int .i64) hs185 y179) := hC
            refine Wc.loop (fun m E wv => ∃ (bf21_1_3 : Int) (kf21_2_3 : List (List Int)) (Akf21_2_3 : Option Addr) (mkf21_2_3 ckf21_2_3 : Nat) (hskf21_2_3 : List Value), E 1 = .pointer (some ⟨g3, 0, none⟩) ∧ E 2 = .pointer (some ⟨g6, 0, none⟩) ∧ E 3 = .int .i64 0 ∧ E 4 = .pointer (some ⟨g19, 0, none⟩) ∧ E 5 = .slice A27 y25.length c29 ∧ E 7 = .int .i64 x49 ∧ E 9 = .int .i64 v9_1 ∧ E 23 = .slice (some ad51) b_0_1.length cb_0_1 ∧ E 24 = .int .i64 (b_0_1.length : Int) ∧ E 25 = .int .i64 v25_0 ∧ E 26 = .bool (decide (v25_0 < (b_0_1.length : Int))) ∧ E 37 = .bool v37_1 ∧ I64 bf21_1_3 ∧ hskf21_2_3.length = kf21_2_3.length ∧ Cx (fun _ => False) O0 w wv ([.box g3 24 [.int .i64 b_0_0, .slice (some ad51) b_0_1.length cb_0_1], .ro (.sl (.int .i64)) [.slice (some ad51) b_0_1.length cb_0_1] b_0_1, .box g6 79 [.int .i64 0, .int .i64 0, .slice none 0 0], .box g19 79 [.int .i64 b_0_0, .int .i64 bf21_1_3, .slice Akf21_2_3 mkf21_2_3 ckf21_2_3], .own 52 .raw (.slice Akf21_2_3 mkf21_2_3 ckf21_2_3) hskf21_2_3, .own 3 (.int .i64) (.slice A27 y25.length c29) y25] ++ rowsF 3 (.int .i64) hskf21_2_3 kf21_2_3) ∧ loopN m (F.garside_Form_b3 n y25) (bf21_1_3, kf21_2_3) = some o191) n ⟨bf21_1_1, y179, A181, y179.length, c183, hs185, e1, e2, e3, e4, e5, e7, e9, e23, e24, e25, e26, e37, hrbf21_1_1, hN186, hC.selT [1, 2, 3, 4, 0, 5] (by decide), hl3⟩ ?_
            have hbK3 := hb
            clear hb hC hl3
            rintro m194 E196 w195 ⟨bf21_1_3, kf21_2_3, Akf21_2_3, mkf21_2_3, ckf21_2_3, hskf21_2_3, e1, e2, e3, e4, e5, e7, e9, e23, e24, e25, e26, e37, hrbf21_1_3, hNkf21_2_3, hC, hl3⟩ K193 hK193
            obtain ⟨m194', o197, rfl, hb, hl3⟩ := loopN_some hl3
            unfold F.garside_Form_b3 at hb
            obtain ⟨hm, hlkf21_2_3, hckf21_2_3⟩ := (hC.ow (i := 4) rfl).sl_len
            rw [hNkf21_2_3] at hm hlkf21_2_3
            subst hm
            refine Wc.seq fun K198 hK198 => ?_
            refine Wc.seq fun K199 hK199 => ?_
            refine Wc.region (by decide +kernel) ?_
            replace hC : Cx (fun _ => False) O0 w w195 ([.box g3 24 [.int .i64 b_0_0, .slice (some ad51) b_0_1.length cb_0_1], .ro (.sl (.int .i64)) [.slice (some ad51) b_0_1.length cb_0_1] b_0_1, .box g6 79 [.int .i64 0, .int .i64 0, .slice none 0 0], .box g19 79 [.int .i64 b_0_0, .int .i64 bf21_1_3, .slice Akf21_2_3 kf21_2_3.length ckf21_2_3], .own 52 .raw (.slice Akf21_2_3 kf21_2_3.length ckf21_2_3) hskf21_2_3, .own 3 (.int .i64) (.slice A27 y25.length c29) y25] ++ rowsF 3 (.int .i64) hskf21_2_3 kf21_2_3) := hC
            refine lex.pure (v := .pointer (some ((⟨g19, 0, none⟩ : Addr).add 2))) (pu_field (sz := 1) Try.underlying79 rfl Try.sizeOf77 (by decide) rfl e4) ?_
            refine lex.val (v := .slice Akf21_2_3 kf21_2_3.length ckf21_2_3) (ld_fld (hC.bx (i := 3) rfl) Try.isAgg77 rfl rfl) ?_
            refine lex.pure (v := .int .i64 (kf21_2_3.length : Int)) (pu_len (A := Akf21_2_3) (n := kf21_2_3.length) (m := ckf21_2_3) Try.underlying77 rfl) ?_
            refine lex.pure (v := .bool (decide (0 < (kf21_2_3.length : Int)))) (pu_gtr (k := .i64) (a := (kf21_2_3.length : Int)) (b := 0) rfl rfl) ?_
            refine lex.pure (v := .bool (decide (0 < (kf21_2_3.length : Int)))) (pu_move rfl) ?_
            rcases bS (decide (0 < (kf21_2_3.length : Int))) with hq200 | hq200
            · replace hb := (cT hq200).symm.trans hb
              refine lex.gpure (want_t rfl rfl (show _ = Value.bool (decide (0 < (kf21_2_3.length : Int))) from rfl) hq200) (v := .pointer (some ((⟨g19, 0, none⟩ : Addr).add 2))) (pu_field (sz := 1) Try.underlying79 rfl Try.sizeOf77 (by decide) rfl e4) ?_
              refine lex.gval (want_t rfl rfl (show _ = Value.bool (decide (0 < (kf21_2_3.length : Int))) from rfl) hq200) (v := .slice Akf21_2_3 kf21_2_3.length ckf21_2_3) (ld_fld (hC.bx (i := 3) rfl) Try.isAgg77 rfl rfl) ?_
              obtain ⟨x201, h202, hb⟩ := bd hb
              obtain ⟨v207, hv208, -⟩ := rowsF_get (e := 3) (s := (.int .i64)) hNkf21_2_3 (get_some h202).2
              obtain ⟨ad203, cs204, hA, hc205, hr206⟩ := hC.elo (i := 4) rfl hv208
              subst hA
              refine lex.gpure (want_t rfl rfl (show _ = Value.bool (decide (0 < (kf21_2_3.length : Int))) from rfl) hq200) (v := .pointer (some (ad203.add ((0 : Int).toNat * 1)))) (pu_index (a := 0) Try.underlying77 Try.sizeOf52 rfl rfl (get_some h202).1) ?_
              replace hC : Cx (fun _ => False) O0 w w195 ([.box g3 24 [.int .i64 b_0_0, .slice (some ad51) b_0_1.length cb_0_1], .ro (.sl (.int .i64)) [.slice (some ad51) b_0_1.length cb_0_1] b_0_1, .box g6 79 [.int .i64 0, .int .i64 0, .slice none 0 0], .box g19 79 [.int .i64 b_0_0, .int .i64 bf21_1_3, .slice (some ad203) kf21_2_3.length ckf21_2_3], .own 52 .raw (.slice (some ad203) kf21_2_3.length ckf21_2_3) hskf21_2_3, .own 3 (.int .i64) (.slice A27 y25.length c29) y25] ++ rowsF 3 (.int .i64) hskf21_2_3 kf21_2_3) := hC
              obtain ⟨A209, c210, hvf213, hl211, hc212⟩ := (hC.rowOw hv208 (get_some h202).2).form
              subst hvf213
              obtain ⟨rfl, -⟩ := hr206
              refine lex.gval (want_t rfl rfl (show _ = Value.bool (decide (0 < (kf21_2_3.length : Int))) from rfl) hq200) (v := .slice A209 x201.length c210) (ld_one Try.isAgg52 rfl (hc205 0 _ rfl)) ?_
              refine lex.gpure (want_t rfl rfl (show _ = Value.bool (decide (0 < (kf21_2_3.length : Int))) from rfl) hq200) (v := .slice A27 y25.length c29) (pu_move e5) ?_
              obtain ⟨y215, h216, hb⟩ := bd hb
              refine lex.gcl (want_t rfl rfl (show _ = Value.bool (decide (0 < (kf21_2_3.length : Int))) from rfl) hq200) (⟨_, _, op_call (vs := [.slice A209 x201.length c210, .slice A27 y25.length c29]) Try.call46 rfl rfl rfl, slices_Equal_Perm_int_ok n (hC.lentLt [.slice A209 x201.length c210, .slice A27 y25.length c29]) ((hC.rowOw hv208 (get_some h202).2).lend (vs := [.slice A209 x201.length c210, .slice A27 y25.length c29]) (by simp)) ((hC.ow (i := 5) rfl).lend (vs := [.slice A209 x201.length c210, .slice A27 y25.length c29]) (by simp)) h216⟩) ?_
              rintro _ w217 ⟨rfl, hK⟩
              replace hC := hC.mergeF hK rfl
              clear hK
              replace hC : Cx (fun _ => False) O0 w w217 ([.box g3 24 [.int .i64 b_0_0, .slice (some ad51) b_0_1.length cb_0_1], .ro (.sl (.int .i64)) [.slice (some ad51) b_0_1.length cb_0_1] b_0_1, .box g6 79 [.int .i64 0, .int .i64 0, .slice none 0 0], .box g19 79 [.int .i64 b_0_0, .int .i64 bf21_1_3, .slice (some ad203) kf21_2_3.length ckf21_2_3], .own 52 .raw (.slice (some ad203) kf21_2_3.length ckf21_2_3) hskf21_2_3, .own 3 (.int .i64) (.slice A27 y25.length c29) y25] ++ rowsF 3 (.int .i64) hskf21_2_3 kf21_2_3) := hC
              refine lex.pure (v := .bool y215) (pu_pickT (q := (decide (0 < (kf21_2_3.length : Int)))) rfl hq200 rfl) ?_
              refine lex.nil ?_
              refine hK199 _ _ ?_
              refine Wc.cond (t := y215) (rfl) (fun hq218 => ?_) (fun hq218 => ?_)
              · replace hb := (cT hq218).symm.trans hb
                refine Wc.skip ?_
                refine hK198 _ _ ?_
                refine Wc.fresh fun E219 hE => ?_
                have e1 : E219 1 = .pointer (some ⟨g3, 0, none⟩) := (congrFun hE 1).trans e1
                have e2 : E219 2 = .pointer (some ⟨g6, 0, none⟩) := (congrFun hE 2).trans e2
                have e3 : E219 3 = .int .i64 0 := (congrFun hE 3).trans e3
                have e4 : E219 4 = .pointer (some ⟨g19, 0, none⟩) := (congrFun hE 4).trans e4
                have e5 : E219 5 = .slice A27 y25.length c29 := (congrFun hE 5).trans e5
                have e7 : E219 7 = .int .i64 x49 := (congrFun hE 7).trans e7
                have e9 : E219 9 = .int .i64 v9_1 := (congrFun hE 9).trans e9
                have e23 : E219 23 = .slice (some ad51) b_0_1.length cb_0_1 := (congrFun hE 23).trans e23
                have e24 : E219 24 = .int .i64 (b_0_1.length : Int) := (congrFun hE 24).trans e24
                have e25 : E219 25 = .int .i64 v25_0 := (congrFun hE 25).trans e25
                have e26 : E219 26 = .bool (decide (v25_0 < (b_0_1.length : Int))) := (congrFun hE 26).trans e26
                have e37 : E219 37 = .bool v37_1 := (congrFun hE 37).trans e37
                have e92 : E219 92 = .bool y215 := (congrFun hE 92).trans rfl
                clear hE
                refine Wc.block ?_
                refine Wc.seq fun K220 hK220 => ?_
                refine Wc.region (by decide +kernel) ?_
                refine lex.pure (v := .pointer (some ((⟨g19, 0, none⟩ : Addr).add 1))) (pu_field (sz := 1) Try.underlying79 rfl Try.sizeOf3 (by decide) rfl e4) ?_
                refine lex.val (v := .int .i64 bf21_1_3) (ld_fld (hC.bx (i := 3) rfl) Try.isAgg3 rfl rfl) ?_
                obtain ⟨z221, h222, hb⟩ := bd hb
                have ez221 := (chk_some h222).1
                refine lex.pure (v := .int .i64 z221) (pu_addc (a := bf21_1_3) (b := 1) rfl rfl h222) ?_
                refine lex.pure (v := .pointer (some ((⟨g19, 0, none⟩ : Addr).add 1))) (pu_field (sz := 1) Try.underlying79 rfl Try.sizeOf3 (by decide) rfl e4) ?_
                refine lex.sk (hC.setf (i := 3) (k := 1) (v := .int .i64 z221) rfl Try.sizeOf3 rfl rfl rfl rfl) ?_
                rintro w223 ⟨hC, hF⟩
                refine lex.nil ?_
                refine hK220 _ _ ?_
                refine Wc.region (by decide +kernel) ?_
                replace hC : Cx (fun _ => False) O0 w w223 ([.box g3 24 [.int .i64 b_0_0, .slice (some ad51) b_0_1.length cb_0_1], .ro (.sl (.int .i64)) [.slice (some ad51) b_0_1.length cb_0_1] b_0_1, .box g6 79 [.int .i64 0, .int .i64 0, .slice none 0 0], .box g19 79 [.int .i64 b_0_0, .int .i64 z221, .slice (some ad203) kf21_2_3.length ckf21_2_3], .own 52 .raw (.slice (some ad203) kf21_2_3.length ckf21_2_3) hskf21_2_3, .own 3 (.int .i64) (.slice A27 y25.length c29) y25] ++ rowsF 3 (.int .i64) hskf21_2_3 kf21_2_3) := hC
                refine lex.pure (v := .pointer (some ((⟨g19, 0, none⟩ : Addr).add 2))) (pu_field (sz := 1) Try.underlying79 rfl Try.sizeOf77 (by decide) rfl e4) ?_
                refine lex.val (v := .slice (some ad203) kf21_2_3.length ckf21_2_3) (ld_fld (hC.bx (i := 3) rfl) Try.isAgg77 rfl rfl) ?_
                obtain ⟨u224, h225, hb⟩ := bd hb
                obtain ⟨A229, c230, hp231, hl226, hc227, hC2⟩ := hC.nestDrop (i := 4) rfl hNkf21_2_3 Try.underlying77 Try.sizeOf52 (cut_some h225)
                refine lex.pure (v := .slice A229 ((kf21_2_3.drop (1 : Int).toNat).length) c230) (hp231 rfl rfl) ?_
                replace hC := hC2
                clear hC2
                have hN228 : (hskf21_2_3.drop (1 : Int).toNat).length = (kf21_2_3.drop (1 : Int).toNat).length := by rw [List.length_drop, List.length_drop, hNkf21_2_3]
                replace hC : Cx (fun _ => False) O0 w w223 ([.box g3 24 [.int .i64 b_0_0, .slice (some ad51) b_0_1.length cb_0_1], .ro (.sl (.int .i64)) [.slice (some ad51) b_0_1.length cb_0_1] b_0_1, .box g6 79 [.int .i64 0, .int .i64 0, .slice none 0 0], .box g19 79 [.int .i64 b_0_0, .int .i64 z221, .slice (some ad203) kf21_2_3.length ckf21_2_3], .own 52 .raw (.slice A229 ((kf21_2_3.drop (1 : Int).toNat).length) c230) (hskf21_2_3.drop (1 : Int).toNat), .own 3 (.int .i64) (.slice A27 y25.length c29) y25] ++ rowsF 3 (.int .i64) (hskf21_2_3.drop (1 : Int).toNat) (kf21_2_3.drop (1 : Int).toNat)) := hC
                refine lex.pure (v := .pointer (some ((⟨g19, 0, none⟩ : Addr).add 2))) (pu_field (sz := 1) Try.underlying79 rfl Try.sizeOf77 (by decide) rfl e4) ?_
                refine lex.sk (hC.setf (i := 3) (k := 2) (v := .slice A229 ((kf21_2_3.drop (1 : Int).toNat).length) c230) rfl Try.sizeOf77 rfl rfl rfl rfl) ?_
                rintro w232 ⟨hC, hF⟩
                refine lex.nil ?_
                obtain rfl := Option.some.inj hb
                replace hC : Cx (fun _ => False) O0 w w232 ([.box g3 24 [.int .i64 b_0_0, .slice (some ad51) b_0_1.length cb_0_1], .ro (.sl (.int .i64)) [.slice (some ad51) b_0_1.length cb_0_1] b_0_1, .box g6 79 [.int .i64 0, .int .i64 0, .slice none 0 0], .box g19 79 [.int .i64 b_0_0, .int .i64 z221, .slice A229 ((kf21_2_3.drop (1 : Int).toNat).length) c230], .own 52 .raw (.slice A229 ((kf21_2_3.drop (1 : Int).toNat).length) c230) (hskf21_2_3.drop (1 : Int).toNat), .own 3 (.int .i64) (.slice A27 y25.length c29) y25] ++ rowsF 3 (.int .i64) (hskf21_2_3.drop (1 : Int).toNat) (kf21_2_3.drop (1 : Int).toNat)) := hC
                exact hK193 m194' _ _ (Nat.lt_succ_self _) ⟨z221, (kf21_2_3.drop (1 : Int).toNat), A229, (kf21_2_3.drop (1 : Int).toNat).length, c230, (hskf21_2_3.drop (1 : Int).toNat), e1, e2, e3, e4, e5, e7, e9, e23, e24, e25, e26, e37, (chk_rng h222), hN228, hC.selT [0, 1, 2, 3, 4, 5] (by decide), lN hl3⟩
              · replace hb := (cF hq218).symm.trans hb
                refine Wc.exit rfl ?_
                obtain rfl := Option.some.inj hb
                obtain rfl := (lX hl3).symm
                exact hK192 _ _ ⟨bf21_1_3, kf21_2_3, (some ad203), kf21_2_3.length, ckf21_2_3, hskf21_2_3, e1, e2, e3, e4, e5, e7, e9, e23, e24, e25, e26, e37, hrbf21_1_3, hNkf21_2_3, hC.selT [0, 1, 2, 3, 4, 5] (by decide), hbK3⟩
            · replace hb := (cF hq200).symm.trans hb
              refine lex.gskip (want_f rfl rfl (show _ = Value.bool (decide (0 < (kf21_2_3.length : Int))) from rfl) hq200) ?_
              refine lex.gskip (want_f rfl rfl (show _ = Value.bool (decide (0 < (kf21_2_3.length : Int))) from rfl) hq200) ?_
              refine lex.gskip (want_f rfl rfl (show _ = Value.bool (decide (0 < (kf21_2_3.length : Int))) from rfl) hq200) ?_
              refine lex.gskip (want_f rfl rfl (show _ = Value.bool (decide (0 < (kf21_2_3.length : Int))) from rfl) hq200) ?_
              refine lex.gskip (want_f rfl rfl (show _ = Value.bool (decide (0 < (kf21_2_3.length : Int))) from rfl) hq200) ?_
              refine lex.gskip (want_f rfl rfl (show _ = Value.bool (decide (0 < (kf21_2_3.length : Int))) from rfl) hq200) ?_
              refine lex.pure (v := .bool false) (pu_pickF (q := (decide (0 < (kf21_2_3.length : Int)))) rfl hq200 rfl) ?_
              refine lex.nil ?_
              refine hK199 _ _ ?_
              refine Wc.cond_false (rfl) ?_
              refine Wc.exit rfl ?_
              obtain rfl := Option.some.inj hb
              obtain rfl := (lX hl3).symm
              exact hK192 _ _ ⟨bf21_1_3, kf21_2_3, Akf21_2_3, kf21_2_3.length, ckf21_2_3, hskf21_2_3, e1, e2, e3, e4, e5, e7, e9, e23, e24, e25, e26, e37, hrbf21_1_3, hNkf21_2_3, hC.selT [0, 1, 2, 3, 4, 5] (by decide), hbK3⟩
          · clear hb hC hl3
            rintro E234 w233 ⟨bf21_1_3, kf21_2_3, Akf21_2_3, mkf21_2_3, ckf21_2_3, hskf21_2_3, e1, e2, e3, e4, e5, e7, e9, e23, e24, e25, e26, e37, hrbf21_1_3, hNkf21_2_3, hC, hb⟩
            obtain ⟨hm, hlkf21_2_3, hckf21_2_3⟩ := (hC.ow (i := 4) rfl).sl_len
            rw [hNkf21_2_3] at hm hlkf21_2_3
            subst hm
            refine hK47 _ _ ?_
            refine Wc.region (by decide +kernel) ?_
            replace hC : Cx (fun _ => False) O0 w w233 ([.box g3 24 [.int .i64 b_0_0, .slice (some ad51) b_0_1.length cb_0_1], .ro (.sl (.int .i64)) [.slice (some ad51) b_0_1.length cb_0_1] b_0_1, .box g6 79 [.int .i64 0, .int .i64 0, .slice none 0 0], .box g19 79 [.int .i64 b_0_0, .int .i64 bf21_1_3, .slice Akf21_2_3 kf21_2_3.length ckf21_2_3], .own 52 .raw (.slice Akf21_2_3 kf21_2_3.length ckf21_2_3) hskf21_2_3, .own 3 (.int .i64) (.slice A27 y25.length c29) y25] ++ rowsF 3 (.int .i64) hskf21_2_3 kf21_2_3) := hC
            obtain ⟨z235, h236, hb⟩ := bd hb
            have ez235 := (chk_some h236).1
            refine lex.pure (v := .int .i64 z235) (pu_addc (a := v25_0) (b := 1) e25 rfl h236) ?_
            refine lex.pure (v := .int .i64 z235) (pu_move rfl) ?_
            refine lex.nil ?_
            obtain rfl := Option.some.inj hb
            exact hK39 m40' _ _ (Nat.lt_succ_self _) ⟨z235, bf21_1_3, kf21_2_3, Akf21_2_3, kf21_2_3.length, ckf21_2_3, hskf21_2_3, e1, e2, e3, e4, e5, e23, e24, rfl, (chk_rng h236), hrbf21_1_3, hNkf21_2_3, hC.selT [0, 1, 2, 3, 4, 5] (by decide), lN hl0⟩
      · replace hb := (cF hq46).symm.trans hb
        refine Wc.exit rfl ?_
        obtain rfl := Option.some.inj hb
        obtain rfl := (lX hl0).symm
        exact hK38 _ _ ⟨v25_0, bf21_1_0, kf21_2_0, Akf21_2_0, kf21_2_0.length, ckf21_2_0, hskf21_2_0, e2, e3, e4, hrv25_0, hrbf21_1_0, hNkf21_2_0, hC.selT [2, 3, 4] (by decide), hbK0⟩
    · clear hb hC hl0
      rintro E238 w237 ⟨v25_0, bf21_1_0, kf21_2_0, Akf21_2_0, mkf21_2_0, ckf21_2_0, hskf21_2_0, e2, e3, e4, hrv25_0, hrbf21_1_0, hNkf21_2_0, hC, hb⟩
      obtain ⟨hm, hlkf21_2_0, hckf21_2_0⟩ := (hC.ow (i := 2) rfl).sl_len
      rw [hNkf21_2_0] at hm hlkf21_2_0
      subst hm
      refine hK34 _ _ ?_
      refine Wc.seq fun K239 hK239 => ?_
      refine Wc.region (by decide +kernel) ?_
      replace hC : Cx (fun _ => False) O0 w w237 ([.box g6 79 [.int .i64 0, .int .i64 0, .slice none 0 0], .box g19 79 [.int .i64 b_0_0, .int .i64 bf21_1_0, .slice Akf21_2_0 kf21_2_0.length ckf21_2_0], .own 52 .raw (.slice Akf21_2_0 kf21_2_0.length ckf21_2_0) hskf21_2_0] ++ rowsF 3 (.int .i64) hskf21_2_0 kf21_2_0) := hC
      refine lex.val (v := .agg #[.int .i64 b_0_0, .int .i64 bf21_1_0, .slice Akf21_2_0 kf21_2_0.length ckf21_2_0]) (ld_blk (hC.bx (i := 1) rfl) Try.isAgg79 Try.sizeOf79 e4) ?_
      refine lex.sk (hC.seta (i := 0) (ds := [.int .i64 b_0_0, .int .i64 bf21_1_0, .slice Akf21_2_0 kf21_2_0.length ckf21_2_0]) rfl Try.type79 rfl rfl rfl e2 rfl) ?_
      rintro w240 ⟨hC, hF⟩
      replace hC : Cx (fun _ => False) O0 w w240 ([.box g6 79 [.int .i64 b_0_0, .int .i64 bf21_1_0, .slice Akf21_2_0 kf21_2_0.length ckf21_2_0], .box g19 79 [.int .i64 b_0_0, .int .i64 bf21_1_0, .slice Akf21_2_0 kf21_2_0.length ckf21_2_0], .own 52 .raw (.slice Akf21_2_0 kf21_2_0.length ckf21_2_0) hskf21_2_0] ++ rowsF 3 (.int .i64) hskf21_2_0 kf21_2_0) := hC
      refine lex.pure (v := .int .i64 0) (pu_assign rfl) ?_
      refine lex.nil ?_
      refine hK239 _ _ ?_
      replace hC := hC.selT [2, 0, 1] (by decide)
      replace hC : Cx (fun _ => False) O0 w w240 ([.own 52 .raw (.slice Akf21_2_0 kf21_2_0.length ckf21_2_0) hskf21_2_0, .box g6 79 [.int .i64 b_0_0, .int .i64 bf21_1_0, .slice Akf21_2_0 kf21_2_0.length ckf21_2_0], .box g19 79 [.int .i64 b_0_0, .int .i64 bf21_1_0, .slice Akf21_2_0 kf21_2_0.length ckf21_2_0]] ++ rowsF 3 (.int .i64) hskf21_2_0 kf21_2_0) := hC
      replace hC := hC.freezeT hNkf21_2_0
      replace hC : Cx (fun _ => False) O0 w w240 [.ro (.sl (.sl (.int .i64))) [.slice Akf21_2_0 kf21_2_0.length ckf21_2_0] kf21_2_0, .box g6 79 [.int .i64 b_0_0, .int .i64 bf21_1_0, .slice Akf21_2_0 kf21_2_0.length ckf21_2_0], .box g19 79 [.int .i64 b_0_0, .int .i64 bf21_1_0, .slice Akf21_2_0 kf21_2_0.length ckf21_2_0]] := hC
      obtain rfl := Option.some.inj hb
      refine Wc.ret ?_
      refine hKR _ _ ?_
      refine ⟨_, res2 Try.results43 ⟨_, e2, loadVar_blk (hC.bx (i := 1) rfl) Try.isAgg79 Try.sizeOf79⟩ (show RV _ _ _ (.tmp _) (.int .i64 0) from rfl), _, rfl, Akf21_2_0, kf21_2_0.length, ckf21_2_0, rfl, hb_0_0, hrbf21_1_0, (show I64 0 from by unfold I64; omega), hC.sel [0] (by decide)⟩
end Go.Proofs.Ytlkmcbgkohpmiaa
