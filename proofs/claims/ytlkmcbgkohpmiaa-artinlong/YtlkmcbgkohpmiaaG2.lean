/- The walks: part 2. -/
import Derived.Test.YtlkmcbgkohpmiaaS
import Derived.Test.YtlkmcbgkohpmiaaG0
import Derived.Test.YtlkmcbgkohpmiaaG1
set_option linter.unusedVariables false
set_option linter.unusedSimpArgs false
namespace Go.Proofs.Ytlkmcbgkohpmiaa
open Ev
set_option maxRecDepth 100000 in
set_option maxHeartbeats 4000000 in
theorem artin_Images_ok (n : Nat) {w : World} {O0 : List Nat} (hO : ∀ k ∈ O0, k < w.heap.size) {b_0_0 : Int} (hb_0_0 : I64 b_0_0) {Ab_0_1 : Option Addr} {mb_0_1 cb_0_1 : Nat} {b_0_1 : List Int} (hb_0_1 : Rep O0 w (.sl (.int .i64)) [.slice Ab_0_1 mb_0_1 cb_0_1] b_0_1) {r : (List (List Int)) × Int} (hb : F.artin_Images n b_0_0 b_0_1 = some r) :
    Calls Try.prog 17 #[.agg #[.int .i64 b_0_0, .slice Ab_0_1 mb_0_1 cb_0_1]] w fun e w' => ∃ v, e = .returned v ∧ ∃ (A0 : Option Addr) (m0 c0 : Nat), v = .tuple #[.slice A0 m0 c0, .int .i64 r.2] ∧ I64 r.2 ∧ Cx (fun _ => False) O0 w w' [.own 27 (.sl (.int .i64)) (.slice A0 m0 c0) r.1] := by
  unfold F.artin_Images at hb
  have hC := Cx.start hO
  replace hC := hC.arg rfl hb_0_1
  clear hO
  obtain ⟨rfl, hlb_0_1, hcb_0_1⟩ := hb_0_1.sl_len
  refine calls_of_Wc Try.func17 rfl (by rw [Try.ntmps17]; exact Nat.le_of_ble_eq_true rfl) fun KR hKR => ?_
  refine Wc.seq fun K2 hK2 => ?_
  refine Wc.region (by decide +kernel) ?_
  refine lex.op (hC.box (cs := [.int .i64 b_0_0, .slice Ab_0_1 b_0_1.length cb_0_1]) rfl rfl) ?_
  rintro _ w4 ⟨g3, rfl, hC, hF, hG⟩
  clear hG
  refine lex.pure (v := .slice none 0 0) (pu_assign rfl) ?_
  refine lex.pure (v := .int .i64 0) (pu_assign rfl) ?_
  refine lex.nil ?_
  refine hK2 _ _ ?_
  refine Wc.seq fun K6 hK6 => ?_
  refine Wc.seq fun K7 hK7 => ?_
  refine Wc.region (by decide +kernel) ?_
  refine lex.val (v := .agg #[.int .i64 b_0_0, .slice Ab_0_1 b_0_1.length cb_0_1]) (ld_blk (hC.bx (i := 0) rfl) Try.isAgg24 Try.sizeOf24 rfl) ?_
  obtain ⟨y8, h9, hb⟩ := bd hb
  refine lex.cl (⟨_, _, op_call (vs := [.agg #[.int .i64 b_0_0, .slice Ab_0_1 b_0_1.length cb_0_1]]) Try.call16 rfl rfl rfl, braid_Valid_ok n hC.lt hb_0_0 (hC.rd (i := 1) rfl) h9⟩) ?_
  rintro _ w10 ⟨rfl, hK⟩
  replace hC := hC.merge hK
  clear hK
  refine lex.pure (v := .bool (!y8)) (pu_not (q := y8) rfl) ?_
  refine lex.nil ?_
  refine hK7 _ _ ?_
  refine Wc.cond (t := (!y8)) (rfl) (fun hq11 => ?_) (fun hq11 => ?_)
  · replace hb := (cT hq11).symm.trans hb
    refine Wc.seq fun K12 hK12 => ?_
    refine Wc.region (by decide +kernel) ?_
    refine lex.pure (v := .slice none 0 0) (pu_assign rfl) ?_
    refine lex.pure (v := .int .i64 1) (pu_assign rfl) ?_
    refine lex.nil ?_
    refine hK12 _ _ ?_
    replace hC := hC.nil 27 (.sl (.int .i64))
    obtain rfl := Option.some.inj hb
    refine Wc.ret ?_
    refine hKR _ _ ?_
    refine ⟨_, res2 Try.results17 (show RV _ _ _ (.tmp _) (.slice none 0 0) from rfl) (show RV _ _ _ (.tmp _) (.int .i64 1) from rfl), _, rfl, none, 0, 0, rfl, (show I64 1 from by unfold I64; omega), hC.sel [0] (by decide)⟩
  · replace hb := (cF hq11).symm.trans hb
    refine Wc.skip ?_
    refine hK6 _ _ ?_
    refine Wc.seq fun K14 hK14 => ?_
    refine Wc.region (by decide +kernel) ?_
    refine lex.pure (v := .slice none 0 0) (pu_assign rfl) ?_
    refine lex.nil ?_
    refine hK14 _ _ ?_
    refine Wc.seq fun K15 hK15 => ?_
    refine Wc.seq fun K16 hK16 => ?_
    refine Wc.region (by decide +kernel) ?_
    refine lex.pure (v := .pointer (some ((⟨g3, 0, none⟩ : Addr).add 0))) (pu_field (sz := 1) Try.underlying24 rfl Try.sizeOf3 (by decide) rfl rfl) ?_
    refine lex.val (v := .int .i64 b_0_0) (ld_fld (hC.bx (i := 0) rfl) Try.isAgg3 rfl rfl) ?_
    refine lex.pure (v := .int .i64 0) (pu_move rfl) ?_
    refine lex.nil ?_
    refine hK16 _ _ ?_
    refine Wc.fresh fun E17 hE => ?_
    have e1 : E17 1 = .pointer (some ⟨g3, 0, none⟩) := (congrFun hE 1).trans rfl
    have e2 : E17 2 = .slice none 0 0 := (congrFun hE 2).trans rfl
    have e3 : E17 3 = .int .i64 0 := (congrFun hE 3).trans rfl
    have e4 : E17 4 = .slice none 0 0 := (congrFun hE 4).trans rfl
    have e12 : E17 12 = .int .i64 b_0_0 := (congrFun hE 12).trans rfl
    have e13 : E17 13 = .int .i64 0 := (congrFun hE 13).trans rfl
    clear hE
    replace hC := hC.nil 27 (.sl (.int .i64))
    obtain ⟨o19, hl0, hb⟩ := bd hb
    refine Wc.cut (fun E wv => ∃ (l4_0 : List (List Int)) (v13_0 : Int) (Al4_0 : Option Addr) (ml4_0 cl4_0 : Nat), E 2 = .slice none 0 0 ∧ E 3 = .int .i64 0 ∧ E 4 = .slice Al4_0 ml4_0 cl4_0 ∧ I64 v13_0 ∧ Cx (fun _ => False) O0 w wv [.own 27 (.sl (.int .i64)) (.slice Al4_0 ml4_0 cl4_0) l4_0] ∧ (some (l4_0, 0) : Option ((List (List Int)) × Int)) = some r) (fun K20 hK20 => ?_) ?_
    · refine Wc.block ?_
      refine Wc.loop (fun m E wv => ∃ (l4_0 : List (List Int)) (v13_0 : Int) (Al4_0 : Option Addr) (ml4_0 cl4_0 : Nat), E 1 = .pointer (some ⟨g3, 0, none⟩) ∧ E 2 = .slice none 0 0 ∧ E 3 = .int .i64 0 ∧ E 4 = .slice Al4_0 ml4_0 cl4_0 ∧ E 12 = .int .i64 b_0_0 ∧ E 13 = .int .i64 v13_0 ∧ I64 v13_0 ∧ Cx (fun _ => False) O0 w wv [.box g3 24 [.int .i64 b_0_0, .slice Ab_0_1 b_0_1.length cb_0_1], .ro (.sl (.int .i64)) [.slice Ab_0_1 b_0_1.length cb_0_1] b_0_1, .own 27 (.sl (.int .i64)) (.slice Al4_0 ml4_0 cl4_0) l4_0] ∧ loopN m (F.artin_Images_b0 n b_0_0 b_0_1) (l4_0, v13_0) = some o19) n ⟨([] : List (List Int)), 0, none, 0, 0, e1, e2, e3, e4, e12, e13, (show I64 0 from by unfold I64; omega), hC.sel [1, 2, 0] (by decide), hl0⟩ ?_
      have hbK0 := hb
      clear hb hC hl0
      rintro m22 E24 w23 ⟨l4_0, v13_0, Al4_0, ml4_0, cl4_0, e1, e2, e3, e4, e12, e13, hrv13_0, hC, hl0⟩ K21 hK21
      obtain ⟨m22', o25, rfl, hb, hl0⟩ := loopN_some hl0
      unfold F.artin_Images_b0 at hb
      obtain ⟨rfl, hll4_0, hcl4_0⟩ := (hC.ow (i := 2) rfl).sl_len
      refine Wc.seq fun K26 hK26 => ?_
      refine Wc.region (by decide +kernel) ?_
      refine lex.pure (v := .bool (decide (v13_0 < b_0_0))) (pu_lss (k := .i64) (a := v13_0) (b := b_0_0) e13 e12) ?_
      refine lex.nil ?_
      refine hK26 _ _ ?_
      refine Wc.seq fun K27 hK27 => ?_
      refine Wc.cond (t := (decide (v13_0 < b_0_0))) (rfl) (fun hq28 => ?_) (fun hq28 => ?_)
      · replace hb := (cT hq28).symm.trans hb
        refine Wc.skip ?_
        refine hK27 _ _ ?_
        refine Wc.seq fun K29 hK29 => ?_
        refine Wc.block ?_
        refine Wc.seq fun K30 hK30 => ?_
        refine Wc.region (by decide +kernel) ?_
        refine lex.pure (v := .int .i64 v13_0) (pu_move e13) ?_
        refine lex.pure (v := .int .i64 v13_0) (pu_assign rfl) ?_
        refine lex.nil ?_
        refine hK30 _ _ ?_
        refine Wc.seq fun K31 hK31 => ?_
        refine Wc.region (by decide +kernel) ?_
        refine lex.val (v := .agg #[.int .i64 b_0_0, .slice Ab_0_1 b_0_1.length cb_0_1]) (ld_blk (hC.bx (i := 0) rfl) Try.isAgg24 Try.sizeOf24 e1) ?_
        refine lex.pure (v := .int .i64 v13_0) (pu_move rfl) ?_
        obtain ⟨z32, h33, hb⟩ := bd hb
        refine lex.pure (v := .int .i64 z32) (pu_addc (a := v13_0) (b := 1) rfl rfl h33) ?_
        refine lex.op (hC.lit (s := (.int .i64)) (vs := [.int .i64 z32]) (xs := [z32]) Try.underlying27 Try.type3 rfl rfl (Nat.le_of_ble_eq_true rfl) rfl rfl (by simp [Value.cells, Sh.n]) rfl (show Elems _ _ (.int .i64) ([.int .i64 z32] ++ ([])) ([z32] : List Int) from Elems.cons (⟨rfl, I64.wr (chk_rng h33)⟩) (Elems.nil _ _ _))) ?_
        rintro _ w38 ⟨A34, c35, rfl, hl36, hc37, hC, hF, hN⟩
        clear hF hN
        obtain ⟨y40, h41, hb⟩ := bd hb
        refine lex.cl (⟨_, _, op_call (vs := [.agg #[.int .i64 b_0_0, .slice Ab_0_1 b_0_1.length cb_0_1], .slice A34 ((([z32] : List Int)).length) c35]) Try.call11 rfl rfl rfl, artin_Act_ok n (hC.lentLt [.slice A34 ((([z32] : List Int)).length) c35]) hb_0_0 ((hC.rd (i := 2) rfl).lent [.slice A34 ((([z32] : List Int)).length) c35]) ((hC.ow (i := 0) rfl).lend (vs := [.slice A34 ((([z32] : List Int)).length) c35]) (by simp)) h41⟩) ?_
        rintro _ w47 ⟨A42, m43, c44, rfl, hr46, hK⟩
        replace hC := hC.mergeF hK rfl
        clear hK
        obtain ⟨rfl, hl48, hc49⟩ := (hC.ow (i := 0) rfl).sl_len
        refine lex.pure (v := .tuple #[.slice A42 y40.1.length c44, .int .i64 y40.2]) (pu_move rfl) ?_
        refine lex.pure (v := .slice A42 y40.1.length c44) (pu_extract rfl rfl) ?_
        refine lex.pure (v := .int .i64 y40.2) (pu_extract rfl rfl) ?_
        refine lex.pure (v := .slice A42 y40.1.length c44) (pu_assign rfl) ?_
        refine lex.pure (v := .int .i64 y40.2) (pu_assign rfl) ?_
        refine lex.nil ?_
        refine hK31 _ _ ?_
        refine Wc.fresh fun E50 hE => ?_
        have e1 : E50 1 = .pointer (some ⟨g3, 0, none⟩) := (congrFun hE 1).trans e1
        have e2 : E50 2 = .slice none 0 0 := (congrFun hE 2).trans e2
        have e3 : E50 3 = .int .i64 0 := (congrFun hE 3).trans e3
        have e4 : E50 4 = .slice Al4_0 l4_0.length cl4_0 := (congrFun hE 4).trans e4
        have e5 : E50 5 = .int .i64 v13_0 := (congrFun hE 5).trans rfl
        have e6 : E50 6 = .slice A42 y40.1.length c44 := (congrFun hE 6).trans rfl
        have e7 : E50 7 = .int .i64 y40.2 := (congrFun hE 7).trans rfl
        have e12 : E50 12 = .int .i64 b_0_0 := (congrFun hE 12).trans e12
        have e13 : E50 13 = .int .i64 v13_0 := (congrFun hE 13).trans e13
        have e14 : E50 14 = .bool (decide (v13_0 < b_0_0)) := (congrFun hE 14).trans rfl
        clear hE
        refine Wc.seq fun K51 hK51 => ?_
        refine Wc.seq fun K52 hK52 => ?_
        refine Wc.region (by decide +kernel) ?_
        refine lex.pure (v := .int .i64 y40.2) (pu_move e7) ?_
        refine lex.pure (v := .bool (!(decide (y40.2 = 0)))) (pu_neq (k := .i64) (a := y40.2) (b := 0) rfl rfl) ?_
        refine lex.nil ?_
        refine hK52 _ _ ?_
        refine Wc.cond (t := (!(decide (y40.2 = 0)))) (rfl) (fun hq53 => ?_) (fun hq53 => ?_)
        · replace hb := (cT hq53).symm.trans hb
          refine Wc.seq fun K54 hK54 => ?_
          refine Wc.region (by decide +kernel) ?_
          refine lex.pure (v := .int .i64 y40.2) (pu_move e7) ?_
          refine lex.pure (v := .slice none 0 0) (pu_assign rfl) ?_
          refine lex.pure (v := .int .i64 y40.2) (pu_assign rfl) ?_
          refine lex.nil ?_
          refine hK54 _ _ ?_
          obtain rfl := Option.some.inj hb
          obtain rfl := (lX hl0).symm
          replace hb := hbK0
          replace hC := hC.nil 27 (.sl (.int .i64))
          obtain rfl := Option.some.inj hb
          refine Wc.ret ?_
          refine hKR _ _ ?_
          refine ⟨_, res2 Try.results17 (show RV _ _ _ (.tmp _) (.slice none 0 0) from rfl) (show RV _ _ _ (.tmp _) (.int .i64 y40.2) from rfl), _, rfl, none, 0, 0, rfl, hr46, hC.sel [0] (by decide)⟩
        · replace hb := (cF hq53).symm.trans hb
          refine Wc.skip ?_
          refine hK51 _ _ ?_
          refine Wc.region (by decide +kernel) ?_
          refine lex.pure (v := .slice Al4_0 l4_0.length cl4_0) (pu_move e4) ?_
          refine lex.pure (v := .slice A42 y40.1.length c44) (pu_move e6) ?_
          replace hC := hC.freeze (i := 0) rfl (hC.own_new (i := 0) rfl)
          refine lex.op (hC.lit (s := (.sl (.int .i64))) (vs := [.slice A42 y40.1.length c44]) (xs := [y40.1]) Try.underlying37 Try.type27 rfl rfl (Nat.le_of_ble_eq_true rfl) rfl rfl (by simp [Value.cells, Sh.n]) rfl (show Elems _ _ (.sl (.int .i64)) ([.slice A42 y40.1.length c44] ++ ([])) ([y40.1] : List (List Int)) from Elems.cons (hC.rd (i := 0) rfl) (Elems.nil _ _ _))) ?_
          rintro _ w60 ⟨A56, c57, rfl, hl58, hc59, hC, hF, hN⟩
          clear hF hN
          obtain ⟨u62, h63, hb⟩ := bd hb
          refine lex.op (hC.app (i := 5) (s := (.sl (.int .i64))) (xs := l4_0) (ys := ([y40.1] : List (List Int))) (m := ((([y40.1] : List (List Int))).length)) rfl Try.underlying37 Try.underlying37 Try.type27 rfl rfl rfl (hC.srco (i := 0) rfl) rfl rfl (by have := lim_some h63; simp at this ⊢ <;> omega) (by decide)) ?_
          rintro _ w68 ⟨A64, c65, rfl, hl66, hc67, hC, hF, hN⟩
          clear hF hN
          refine lex.pure (v := .slice A64 ((l4_0 ++ ([y40.1] : List (List Int))).length) c65) (pu_assign rfl) ?_
          refine lex.nil ?_
          refine hK29 _ _ ?_
          refine Wc.region (by decide +kernel) ?_
          obtain ⟨z69, h70, hb⟩ := bd hb
          refine lex.pure (v := .int .i64 z69) (pu_addc (a := v13_0) (b := 1) e13 rfl h70) ?_
          refine lex.pure (v := .int .i64 z69) (pu_move rfl) ?_
          refine lex.nil ?_
          obtain rfl := Option.some.inj hb
          exact hK21 m22' _ _ (Nat.lt_succ_self _) ⟨(l4_0 ++ ([y40.1] : List (List Int))), z69, A64, (l4_0 ++ ([y40.1] : List (List Int))).length, c65, e1, e2, e3, rfl, e12, rfl, (chk_rng h70), hC.sel [3, 4, 5] (by decide), lN hl0⟩
      · replace hb := (cF hq28).symm.trans hb
        refine Wc.exit rfl ?_
        obtain rfl := Option.some.inj hb
        obtain rfl := (lX hl0).symm
        exact hK20 _ _ ⟨l4_0, v13_0, Al4_0, l4_0.length, cl4_0, e2, e3, e4, hrv13_0, hC.sel [2] (by decide), hbK0⟩
    · clear hb hC hl0
      rintro E72 w71 ⟨l4_0, v13_0, Al4_0, ml4_0, cl4_0, e2, e3, e4, hrv13_0, hC, hb⟩
      obtain ⟨rfl, hll4_0, hcl4_0⟩ := (hC.ow (i := 0) rfl).sl_len
      refine hK15 _ _ ?_
      refine Wc.seq fun K73 hK73 => ?_
      refine Wc.region (by decide +kernel) ?_
      refine lex.pure (v := .slice Al4_0 l4_0.length cl4_0) (pu_move e4) ?_
      refine lex.pure (v := .slice Al4_0 l4_0.length cl4_0) (pu_assign rfl) ?_
      refine lex.pure (v := .int .i64 0) (pu_assign rfl) ?_
      refine lex.nil ?_
      refine hK73 _ _ ?_
      obtain rfl := Option.some.inj hb
      refine Wc.ret ?_
      refine hKR _ _ ?_
      refine ⟨_, res2 Try.results17 (show RV _ _ _ (.tmp _) (.slice Al4_0 l4_0.length cl4_0) from rfl) (show RV _ _ _ (.tmp _) (.int .i64 0) from rfl), _, rfl, Al4_0, l4_0.length, cl4_0, rfl, (show I64 0 from by unfold I64; omega), hC.sel [0] (by decide)⟩

set_option maxRecDepth 100000 in
set_option maxHeartbeats 4000000 in
theorem braid_generator_ok (n : Nat) {w : World} {O0 : List Nat} (hO : ∀ k ∈ O0, k < w.heap.size) {letter_0 : Int} (hletter_0 : I64 letter_0) {r : Int} (hb : F.braid_generator n letter_0 = some r) :
    Calls Try.prog 41 #[.int .i64 letter_0] w fun e w' => ∃ v, e = .returned v ∧ v = .int .i64 r ∧ I64 r ∧ Cx (fun _ => False) O0 w w' [] := by
  unfold F.braid_generator at hb
  have hC := Cx.start hO
  clear hO
  refine calls_of_Wc Try.func41 rfl (by rw [Try.ntmps41]; exact Nat.le_of_ble_eq_true rfl) fun KR hKR => ?_
  refine Wc.seq fun K1 hK1 => ?_
  refine Wc.region (by decide +kernel) ?_
  refine lex.pure (v := .int .i64 0) (pu_assign rfl) ?_
  refine lex.nil ?_
  refine hK1 _ _ ?_
  refine Wc.seq fun K2 hK2 => ?_
  refine Wc.region (by decide +kernel) ?_
  refine lex.pure (v := .int .i64 letter_0) (pu_move rfl) ?_
  refine lex.pure (v := .int .i64 letter_0) (pu_move rfl) ?_
  obtain ⟨z3, h4, hb⟩ := bd hb
  refine lex.pure (v := .int .i64 z3) (pu_negc (a := letter_0) rfl h4) ?_
  refine lex.pure (v := .int .i64 (max letter_0 z3)) (pu_max (a := letter_0) (b := z3) rfl rfl) ?_
  refine lex.pure (v := .int .i64 (max letter_0 z3)) (pu_assign rfl) ?_
  refine lex.nil ?_
  refine hK2 _ _ ?_
  obtain rfl := Option.some.inj hb
  refine Wc.ret ?_
  refine hKR _ _ ?_
  refine ⟨_, res1 Try.results41 (show RV _ _ _ (.tmp _) (.int .i64 (max letter_0 z3)) from rfl), _, rfl, rfl, (I64.max hletter_0 (chk_rng h4)), hC.sel [] (by decide)⟩

set_option maxRecDepth 100000 in
set_option maxHeartbeats 4000000 in
theorem braid_Perm_ok (n : Nat) {w : World} {O0 : List Nat} (hO : ∀ k ∈ O0, k < w.heap.size) {b_0_0 : Int} (hb_0_0 : I64 b_0_0) {Ab_0_1 : Option Addr} {mb_0_1 cb_0_1 : Nat} {b_0_1 : List Int} (hb_0_1 : Rep O0 w (.sl (.int .i64)) [.slice Ab_0_1 mb_0_1 cb_0_1] b_0_1) {r : (List Int)} (hb : F.braid_Perm n b_0_0 b_0_1 = some r) :
    Calls Try.prog 23 #[.agg #[.int .i64 b_0_0, .slice Ab_0_1 mb_0_1 cb_0_1]] w fun e w' => ∃ v, e = .returned v ∧ ∃ (A0 : Option Addr) (m0 c0 : Nat), v = .slice A0 m0 c0 ∧ Cx (fun _ => False) O0 w w' [.own 3 (.int .i64) (.slice A0 m0 c0) r] := by
  unfold F.braid_Perm at hb
  have hC := Cx.start hO
  replace hC := hC.arg rfl hb_0_1
  clear hO
  obtain ⟨rfl, hlb_0_1, hcb_0_1⟩ := hb_0_1.sl_len
  refine calls_of_Wc Try.func23 rfl (by rw [Try.ntmps23]; exact Nat.le_of_ble_eq_true rfl) fun KR hKR => ?_
  refine Wc.seq fun K2 hK2 => ?_
  refine Wc.region (by decide +kernel) ?_
  refine lex.op (hC.box (cs := [.int .i64 b_0_0, .slice Ab_0_1 b_0_1.length cb_0_1]) rfl rfl) ?_
  rintro _ w4 ⟨g3, rfl, hC, hF, hG⟩
  clear hG
  refine lex.pure (v := .slice none 0 0) (pu_assign rfl) ?_
  refine lex.nil ?_
  refine hK2 _ _ ?_
  refine Wc.seq fun K6 hK6 => ?_
  refine Wc.seq fun K7 hK7 => ?_
  refine Wc.region (by decide +kernel) ?_
  refine lex.val (v := .agg #[.int .i64 b_0_0, .slice Ab_0_1 b_0_1.length cb_0_1]) (ld_blk (hC.bx (i := 0) rfl) Try.isAgg24 Try.sizeOf24 rfl) ?_
  obtain ⟨y8, h9, hb⟩ := bd hb
  refine lex.cl (⟨_, _, op_call (vs := [.agg #[.int .i64 b_0_0, .slice Ab_0_1 b_0_1.length cb_0_1]]) Try.call16 rfl rfl rfl, braid_Valid_ok n hC.lt hb_0_0 (hC.rd (i := 1) rfl) h9⟩) ?_
  rintro _ w10 ⟨rfl, hK⟩
  replace hC := hC.merge hK
  clear hK
  refine lex.pure (v := .bool (!y8)) (pu_not (q := y8) rfl) ?_
  refine lex.nil ?_
  refine hK7 _ _ ?_
  refine Wc.cond (t := (!y8)) (rfl) (fun hq11 => ?_) (fun hq11 => ?_)
  · replace hb := (cT hq11).symm.trans hb
    refine Wc.seq fun K12 hK12 => ?_
    refine Wc.region (by decide +kernel) ?_
    refine lex.pure (v := .slice none 0 0) (pu_assign rfl) ?_
    refine lex.nil ?_
    refine hK12 _ _ ?_
    replace hC := hC.nil 3 (.int .i64)
    obtain rfl := Option.some.inj hb
    refine Wc.ret ?_
    refine hKR _ _ ?_
    refine ⟨_, res1 Try.results23 (show RV _ _ _ (.tmp _) (.slice none 0 0) from rfl), _, rfl, none, 0, 0, rfl, hC.sel [0] (by decide)⟩
  · replace hb := (cF hq11).symm.trans hb
    refine Wc.skip ?_
    refine hK6 _ _ ?_
    refine Wc.seq fun K14 hK14 => ?_
    refine Wc.region (by decide +kernel) ?_
    refine lex.pure (v := .pointer (some ((⟨g3, 0, none⟩ : Addr).add 0))) (pu_field (sz := 1) Try.underlying24 rfl Try.sizeOf3 (by decide) rfl rfl) ?_
    refine lex.val (v := .int .i64 b_0_0) (ld_fld (hC.bx (i := 0) rfl) Try.isAgg3 rfl rfl) ?_
    obtain ⟨u15, h16, hb⟩ := bd hb
    refine lex.op (hC.make (s := (.int .i64)) (n := b_0_0) Try.underlying22 Try.type3 rfl rfl rfl rfl rfl (pos_some h16).1 (pos_some h16).2 (by decide)) ?_
    rintro _ w21 ⟨A17, c18, rfl, hl19, hc20, hC, hF, hN⟩
    clear hF hN
    refine lex.pure (v := .slice A17 (((List.replicate b_0_0.toNat (0 : Int))).length) c18) (pu_assign rfl) ?_
    refine lex.nil ?_
    refine hK14 _ _ ?_
    refine Wc.seq fun K23 hK23 => ?_
    refine Wc.seq fun K24 hK24 => ?_
    refine Wc.region (by decide +kernel) ?_
    refine lex.pure (v := .slice A17 (((List.replicate b_0_0.toNat (0 : Int))).length) c18) (pu_move rfl) ?_
    refine lex.pure (v := .int .i64 (((List.replicate b_0_0.toNat (0 : Int))).length : Int)) (pu_len (A := A17) (n := ((List.replicate b_0_0.toNat (0 : Int))).length) (m := c18) Try.underlying22 rfl) ?_
    refine lex.pure (v := .int .i64 0) (pu_move rfl) ?_
    refine lex.nil ?_
    refine hK24 _ _ ?_
    refine Wc.fresh fun E25 hE => ?_
    have e1 : E25 1 = .pointer (some ⟨g3, 0, none⟩) := (congrFun hE 1).trans rfl
    have e2 : E25 2 = .slice none 0 0 := (congrFun hE 2).trans rfl
    have e3 : E25 3 = .slice A17 (((List.replicate b_0_0.toNat (0 : Int))).length) c18 := (congrFun hE 3).trans rfl
    have e18 : E25 18 = .int .i64 (((List.replicate b_0_0.toNat (0 : Int))).length : Int) := (congrFun hE 18).trans rfl
    have e19 : E25 19 = .int .i64 0 := (congrFun hE 19).trans rfl
    clear hE
    obtain ⟨o26, hl0, hb⟩ := bd hb
    refine Wc.cut (fun E wv => ∃ (v19_0 : Int) (qf22_0 : List Int), E 1 = .pointer (some ⟨g3, 0, none⟩) ∧ E 2 = .slice none 0 0 ∧ E 3 = .slice A17 (((List.replicate b_0_0.toNat (0 : Int))).length) c18 ∧ I64 v19_0 ∧ Cx (fun _ => False) O0 w wv [.box g3 24 [.int .i64 b_0_0, .slice Ab_0_1 b_0_1.length cb_0_1], .ro (.sl (.int .i64)) [.slice Ab_0_1 b_0_1.length cb_0_1] b_0_1, .own 3 (.int .i64) (.slice A17 (((List.replicate b_0_0.toNat (0 : Int))).length) c18) qf22_0] ∧ (((loopN n (F.braid_Perm_b1 n b_0_1) (0, qf22_0)).bind fun o51 => match o51 with     | (v30_1, qf22_1) => (pos b_0_0).bind fun u114 => ((loopN n (F.braid_Perm_b2 n b_0_0 qf22_1) (0, (List.replicate b_0_0.toNat (0 : Int)))).bind fun o124 => match o124 with     | (v58_2, qf121_2) => some qf121_2)) : Option ((List Int))) = some r) (fun K27 hK27 => ?_) ?_
    · refine Wc.block ?_
      refine Wc.loop (fun m E wv => ∃ (v19_0 : Int) (qf22_0 : List Int), E 1 = .pointer (some ⟨g3, 0, none⟩) ∧ E 2 = .slice none 0 0 ∧ E 3 = .slice A17 (((List.replicate b_0_0.toNat (0 : Int))).length) c18 ∧ E 18 = .int .i64 (((List.replicate b_0_0.toNat (0 : Int))).length : Int) ∧ E 19 = .int .i64 v19_0 ∧ I64 v19_0 ∧ Cx (fun _ => False) O0 w wv [.box g3 24 [.int .i64 b_0_0, .slice Ab_0_1 b_0_1.length cb_0_1], .ro (.sl (.int .i64)) [.slice Ab_0_1 b_0_1.length cb_0_1] b_0_1, .own 3 (.int .i64) (.slice A17 (((List.replicate b_0_0.toNat (0 : Int))).length) c18) qf22_0] ∧ loopN m (F.braid_Perm_b0 n b_0_0) (v19_0, qf22_0) = some o26) n ⟨0, (List.replicate b_0_0.toNat (0 : Int)), e1, e2, e3, e18, e19, (show I64 0 from by unfold I64; omega), hC.sel [1, 2, 0] (by decide), hl0⟩ ?_
      have hbK0 := hb
      clear hb hC hl0
      rintro m29 E31 w30 ⟨v19_0, qf22_0, e1, e2, e3, e18, e19, hrv19_0, hC, hl0⟩ K28 hK28
      obtain ⟨m29', o32, rfl, hb, hl0⟩ := loopN_some hl0
      unfold F.braid_Perm_b0 at hb
      refine Wc.seq fun K33 hK33 => ?_
      refine Wc.region (by decide +kernel) ?_
      refine lex.pure (v := .bool (decide (v19_0 < (((List.replicate b_0_0.toNat (0 : Int))).length : Int)))) (pu_lss (k := .i64) (a := v19_0) (b := (((List.replicate b_0_0.toNat (0 : Int))).length : Int)) e19 e18) ?_
      refine lex.nil ?_
      refine hK33 _ _ ?_
      refine Wc.seq fun K34 hK34 => ?_
      refine Wc.cond (t := (decide (v19_0 < (((List.replicate b_0_0.toNat (0 : Int))).length : Int)))) (rfl) (fun hq35 => ?_) (fun hq35 => ?_)
      · replace hb := (cT hq35).symm.trans hb
        refine Wc.skip ?_
        refine hK34 _ _ ?_
        refine Wc.seq fun K36 hK36 => ?_
        refine Wc.block ?_
        refine Wc.seq fun K37 hK37 => ?_
        refine Wc.region (by decide +kernel) ?_
        refine lex.pure (v := .int .i64 v19_0) (pu_move e19) ?_
        refine lex.pure (v := .int .i64 v19_0) (pu_assign rfl) ?_
        refine lex.nil ?_
        refine hK37 _ _ ?_
        refine Wc.region (by decide +kernel) ?_
        refine lex.pure (v := .slice A17 (((List.replicate b_0_0.toNat (0 : Int))).length) c18) (pu_move e3) ?_
        refine lex.pure (v := .int .i64 v19_0) (pu_move rfl) ?_
        refine lex.pure (v := .int .i64 v19_0) (pu_move rfl) ?_
        obtain ⟨x38, h39, hb⟩ := bd hb
        obtain ⟨ad40, cs41, hA, hc42, hr43⟩ := hC.elo (i := 2) rfl (get_some h39).2
        subst hA
        refine lex.pure (v := .pointer (some (ad40.add (v19_0.toNat * 1)))) (pu_index (a := v19_0) Try.underlying22 Try.sizeOf3 rfl rfl (by rw [(hC.ow (i := 2) rfl).sl_len.1]; exact (get_some h39).1)) ?_
        refine lex.sk (hC.put (i := 2) rfl rfl Try.sizeOf3 (k := v19_0.toNat) (a := v19_0) (by have := (get_some h39).1; simp at this ⊢; omega) (⟨rfl, I64.wr hrv19_0⟩) rfl rfl rfl) ?_
        rintro w44 ⟨hC, hF⟩
        refine lex.nil ?_
        refine hK36 _ _ ?_
        refine Wc.region (by decide +kernel) ?_
        obtain ⟨z45, h46, hb⟩ := bd hb
        refine lex.pure (v := .int .i64 z45) (pu_addc (a := v19_0) (b := 1) e19 rfl h46) ?_
        refine lex.pure (v := .int .i64 z45) (pu_move rfl) ?_
        refine lex.nil ?_
        obtain rfl := Option.some.inj hb
        exact hK28 m29' _ _ (Nat.lt_succ_self _) ⟨z45, (qf22_0.set v19_0.toNat v19_0), e1, e2, e3, e18, rfl, (chk_rng h46), hC.sel [0, 1, 2] (by decide), lN hl0⟩
      · replace hb := (cF hq35).symm.trans hb
        refine Wc.exit rfl ?_
        obtain rfl := Option.some.inj hb
        obtain rfl := (lX hl0).symm
        exact hK27 _ _ ⟨v19_0, qf22_0, e1, e2, e3, hrv19_0, hC.sel [0, 1, 2] (by decide), hbK0⟩
    · clear hb hC hl0
      rintro E48 w47 ⟨v19_0, qf22_0, e1, e2, e3, hrv19_0, hC, hb⟩
      refine hK23 _ _ ?_
      refine Wc.seq fun K49 hK49 => ?_
      refine Wc.seq fun K50 hK50 => ?_
      refine Wc.region (by decide +kernel) ?_
      refine lex.pure (v := .pointer (some ((⟨g3, 0, none⟩ : Addr).add 1))) (pu_field (sz := 1) Try.underlying24 rfl Try.sizeOf22 (by decide) rfl e1) ?_
      refine lex.val (v := .slice Ab_0_1 b_0_1.length cb_0_1) (ld_fld (hC.bx (i := 0) rfl) Try.isAgg22 rfl rfl) ?_
      refine lex.pure (v := .int .i64 (b_0_1.length : Int)) (pu_len (A := Ab_0_1) (n := b_0_1.length) (m := cb_0_1) Try.underlying22 rfl) ?_
      refine lex.pure (v := .int .i64 0) (pu_move rfl) ?_
      refine lex.nil ?_
      refine hK50 _ _ ?_
      obtain ⟨o51, hl1, hb⟩ := bd hb
      refine Wc.cut (fun E wv => ∃ (v30_1 : Int) (qf22_1 : List Int), E 1 = .pointer (some ⟨g3, 0, none⟩) ∧ E 2 = .slice none 0 0 ∧ E 3 = .slice A17 (((List.replicate b_0_0.toNat (0 : Int))).length) c18 ∧ I64 v30_1 ∧ Cx (fun _ => False) O0 w wv [.box g3 24 [.int .i64 b_0_0, .slice Ab_0_1 b_0_1.length cb_0_1], .ro (.sl (.int .i64)) [.slice Ab_0_1 b_0_1.length cb_0_1] b_0_1, .own 3 (.int .i64) (.slice A17 (((List.replicate b_0_0.toNat (0 : Int))).length) c18) qf22_1] ∧ ((pos b_0_0).bind fun u114 => ((loopN n (F.braid_Perm_b2 n b_0_0 qf22_1) (0, (List.replicate b_0_0.toNat (0 : Int)))).bind fun o124 => match o124 with     | (v58_2, qf121_2) => some qf121_2) : Option ((List Int))) = some r) (fun K52 hK52 => ?_) ?_
      · refine Wc.block ?_
        refine Wc.loop (fun m E wv => ∃ (v30_1 : Int) (qf22_1 : List Int), E 1 = .pointer (some ⟨g3, 0, none⟩) ∧ E 2 = .slice none 0 0 ∧ E 3 = .slice A17 (((List.replicate b_0_0.toNat (0 : Int))).length) c18 ∧ E 28 = .slice Ab_0_1 b_0_1.length cb_0_1 ∧ E 29 = .int .i64 (b_0_1.length : Int) ∧ E 30 = .int .i64 v30_1 ∧ I64 v30_1 ∧ Cx (fun _ => False) O0 w wv [.box g3 24 [.int .i64 b_0_0, .slice Ab_0_1 b_0_1.length cb_0_1], .ro (.sl (.int .i64)) [.slice Ab_0_1 b_0_1.length cb_0_1] b_0_1, .own 3 (.int .i64) (.slice A17 (((List.replicate b_0_0.toNat (0 : Int))).length) c18) qf22_1] ∧ loopN m (F.braid_Perm_b1 n b_0_1) (v30_1, qf22_1) = some o51) n ⟨0, qf22_0, e1, e2, e3, rfl, rfl, rfl, (show I64 0 from by unfold I64; omega), hC.sel [0, 1, 2] (by decide), hl1⟩ ?_
        have hbK1 := hb
        clear hb hC hl1
        rintro m54 E56 w55 ⟨v30_1, qf22_1, e1, e2, e3, e28, e29, e30, hrv30_1, hC, hl1⟩ K53 hK53
        obtain ⟨m54', o57, rfl, hb, hl1⟩ := loopN_some hl1
        unfold F.braid_Perm_b1 at hb
        refine Wc.seq fun K58 hK58 => ?_
        refine Wc.region (by decide +kernel) ?_
        refine lex.pure (v := .bool (decide (v30_1 < (b_0_1.length : Int)))) (pu_lss (k := .i64) (a := v30_1) (b := (b_0_1.length : Int)) e30 e29) ?_
        refine lex.nil ?_
        refine hK58 _ _ ?_
        refine Wc.seq fun K59 hK59 => ?_
        refine Wc.cond (t := (decide (v30_1 < (b_0_1.length : Int)))) (rfl) (fun hq60 => ?_) (fun hq60 => ?_)
        · replace hb := (cT hq60).symm.trans hb
          refine Wc.skip ?_
          refine hK59 _ _ ?_
          refine Wc.seq fun K61 hK61 => ?_
          refine Wc.block ?_
          refine Wc.seq fun K62 hK62 => ?_
          refine Wc.region (by decide +kernel) ?_
          obtain ⟨x63, h64, hb⟩ := bd hb
          obtain ⟨ad65, cs66, hA, hc67, hr68⟩ := hC.elr (i := 1) rfl (get_some h64).2
          subst hA
          refine lex.pure (v := .pointer (some (ad65.add (v30_1.toNat * 1)))) (pu_index (a := v30_1) Try.underlying22 Try.sizeOf3 e28 e30 (get_some h64).1) ?_
          obtain ⟨rfl, hr68'⟩ := hr68
          refine lex.val (v := .int .i64 x63) (ld_one Try.isAgg3 rfl (hc67 0 _ rfl)) ?_
          refine lex.pure (v := .int .i64 x63) (pu_assign rfl) ?_
          refine lex.nil ?_
          refine hK62 _ _ ?_
          refine Wc.seq fun K69 hK69 => ?_
          refine Wc.region (by decide +kernel) ?_
          refine lex.pure (v := .int .i64 x63) (pu_move rfl) ?_
          obtain ⟨y70, h71, hb⟩ := bd hb
          refine lex.cl (⟨_, _, op_call (vs := [.int .i64 x63]) Try.call41 rfl rfl rfl, braid_generator_ok n hC.lt (wrap_I64 hr68') h71⟩) ?_
          rintro _ w73 ⟨rfl, hr72, hK⟩
          replace hC := hC.merge hK
          clear hK
          refine lex.pure (v := .int .i64 y70) (pu_assign rfl) ?_
          refine lex.nil ?_
          refine hK69 _ _ ?_
          refine Wc.regionMix [] (frm [] ([] : List Fact) [.own 3 (.int .i64) (.slice A17 (((List.replicate b_0_0.toNat (0 : Int))).length) c18) qf22_1]) (fun _ => rfl) mixed (by decide +kernel) (by decide +kernel) fun w75 hw74 => ?_
          replace hC := hC.step (Fr.of_drew hw74)
          have hM := Fr.refl (fun k => k ∈ blocks ([] : List Fact)) w75
          clear hw74
          have hS := hC
          have hD : Fr (fun k => k ∈ blocks (([] : List Fact) ++ [.own 3 (.int .i64) (.slice A17 (((List.replicate b_0_0.toNat (0 : Int))).length) c18) qf22_1])) w75 w75 := hM.wide
          have hUf22 : Beside (([] : List Fact) ++ [.own 3 (.int .i64) (.slice A17 (((List.replicate b_0_0.toNat (0 : Int))).length) c18) qf22_1]) w75 (.slice A17 (((List.replicate b_0_0.toNat (0 : Int))).length) c18) := Beside.of (i := 0) rfl
          refine mixE.pure (v := .slice A17 (((List.replicate b_0_0.toNat (0 : Int))).length) c18) (pu_move e3) ?_
          refine mixE.pure (v := .int .i64 y70) (pu_move rfl) ?_
          obtain ⟨z76, h77, hb⟩ := bd hb
          refine mixE.pure (v := .int .i64 z76) (pu_subc (a := y70) (b := 1) rfl rfl h77) ?_
          refine mixE.pure (v := .slice A17 (((List.replicate b_0_0.toNat (0 : Int))).length) c18) (pu_move e3) ?_
          refine mixE.pure (v := .int .i64 y70) (pu_move rfl) ?_
          refine mixE.pure (v := .slice A17 (((List.replicate b_0_0.toNat (0 : Int))).length) c18) (pu_move e3) ?_
          refine mixE.pure (v := .int .i64 y70) (pu_move rfl) ?_
          obtain ⟨x78, h79, hb⟩ := bd hb
          obtain ⟨ad80, cs81, hA, ho84, hc82, hr83⟩ := hS.elo2 (i := 2) rfl (get_some h79).2 [] (by decide)
          subst hA
          refine mixE.pure (v := .pointer (some (ad80.add (y70.toNat * 1)))) (pu_index (a := y70) Try.underlying22 Try.sizeOf3 rfl rfl (by rw [(hC.ow (i := 2) rfl).sl_len.1]; exact (get_some h79).1)) ?_
          obtain ⟨rfl, hr83'⟩ := hr83
          refine mixE.load hM (v := .int .i64 x78) (fun _ hF => ld_one Try.isAgg3 rfl (hF.cell (hc82 0 _ rfl) (off1 ho84))) ?_
          refine mixE.pure (v := .slice (some ad80) (((List.replicate b_0_0.toNat (0 : Int))).length) c18) (pu_move e3) ?_
          refine mixE.pure (v := .int .i64 y70) (pu_move rfl) ?_
          obtain ⟨z85, h86, hb⟩ := bd hb
          refine mixE.pure (v := .int .i64 z85) (pu_subc (a := y70) (b := 1) rfl rfl h86) ?_
          obtain ⟨x87, h88, hb⟩ := bd hb
          obtain ⟨ad89, cs90, hA, ho93, hc91, hr92⟩ := hS.elo2 (i := 2) rfl (get_some h88).2 [] (by decide)
          obtain rfl := Option.some.inj hA
          refine mixE.pure (v := .pointer (some (ad80.add (z85.toNat * 1)))) (pu_index (a := z85) Try.underlying22 Try.sizeOf3 rfl rfl (by rw [(hC.ow (i := 2) rfl).sl_len.1]; exact (get_some h88).1)) ?_
          obtain ⟨rfl, hr92'⟩ := hr92
          refine mixE.load hM (v := .int .i64 x87) (fun _ hF => ld_one Try.isAgg3 rfl (hF.cell (hc91 0 _ rfl) (off1 ho93))) ?_
          obtain ⟨x94, h95, hb⟩ := bd hb
          obtain ⟨ad96, cs97, hA, ho100, hc98, hr99⟩ := hS.elo2 (i := 2) rfl (get_some h95).2 [] (by decide)
          obtain rfl := Option.some.inj hA
          refine mixE.pure (v := .pointer (some (ad80.add (z76.toNat * 1)))) (pu_index (a := z76) Try.underlying22 Try.sizeOf3 rfl rfl (by rw [(hC.ow (i := 2) rfl).sl_len.1]; exact (get_some h95).1)) ?_
          refine mixE.sk hD (hC.put (i := 2) rfl rfl Try.sizeOf3 (k := z76.toNat) (a := x78) (by have := (get_some h95).1; simp at this ⊢; omega) (⟨rfl, I64.wr (wrap_I64 hr83')⟩) rfl rfl rfl) ?_
          rintro w101 ⟨hC, hF⟩
          replace hD := hD.beside hUf22 hF
          clear hF
          refine ⟨hD, ?_⟩
          obtain ⟨x102, h103, hb⟩ := bd hb
          obtain ⟨ad104, cs105, hA, hc106, hr107⟩ := hC.elo (i := 2) rfl (get_some h103).2
          obtain rfl := Option.some.inj hA
          refine mixE.pure (v := .pointer (some (ad80.add (y70.toNat * 1)))) (pu_index (a := y70) Try.underlying22 Try.sizeOf3 rfl rfl (by rw [(hC.ow (i := 2) rfl).sl_len.1]; exact (get_some h103).1)) ?_
          refine mixE.sk hD (hC.put (i := 2) rfl rfl Try.sizeOf3 (k := y70.toNat) (a := x87) (by have := (get_some h103).1; simp at this ⊢; omega) (⟨rfl, I64.wr (wrap_I64 hr92')⟩) rfl rfl rfl) ?_
          rintro w108 ⟨hC, hF⟩
          replace hD := hD.beside hUf22 hF
          clear hF
          refine ⟨hD, ?_⟩
          refine mixE.nil ?_
          clear hS hM
          clear hD
          refine hK61 _ _ ?_
          refine Wc.region (by decide +kernel) ?_
          obtain ⟨z109, h110, hb⟩ := bd hb
          refine lex.pure (v := .int .i64 z109) (pu_addc (a := v30_1) (b := 1) e30 rfl h110) ?_
          refine lex.pure (v := .int .i64 z109) (pu_move rfl) ?_
          refine lex.nil ?_
          obtain rfl := Option.some.inj hb
          exact hK53 m54' _ _ (Nat.lt_succ_self _) ⟨z109, ((qf22_1.set z76.toNat x78).set y70.toNat x87), e1, e2, e3, e28, e29, rfl, (chk_rng h110), hC.sel [0, 1, 2] (by decide), lN hl1⟩
        · replace hb := (cF hq60).symm.trans hb
          refine Wc.exit rfl ?_
          obtain rfl := Option.some.inj hb
          obtain rfl := (lX hl1).symm
          exact hK52 _ _ ⟨v30_1, qf22_1, e1, e2, e3, hrv30_1, hC.sel [0, 1, 2] (by decide), hbK1⟩
      · clear hb hC hl1
        rintro E112 w111 ⟨v30_1, qf22_1, e1, e2, e3, hrv30_1, hC, hb⟩
        refine hK49 _ _ ?_
        refine Wc.seq fun K113 hK113 => ?_
        refine Wc.region (by decide +kernel) ?_
        refine lex.pure (v := .pointer (some ((⟨g3, 0, none⟩ : Addr).add 0))) (pu_field (sz := 1) Try.underlying24 rfl Try.sizeOf3 (by decide) rfl e1) ?_
        refine lex.val (v := .int .i64 b_0_0) (ld_fld (hC.bx (i := 0) rfl) Try.isAgg3 rfl rfl) ?_
        obtain ⟨u114, h115, hb⟩ := bd hb
        refine lex.op (hC.make (s := (.int .i64)) (n := b_0_0) Try.underlying52 Try.type3 rfl rfl rfl rfl rfl (pos_some h115).1 (pos_some h115).2 (by decide)) ?_
        rintro _ w120 ⟨A116, c117, rfl, hl118, hc119, hC, hF, hN⟩
        clear hF hN
        refine lex.pure (v := .slice A116 (((List.replicate b_0_0.toNat (0 : Int))).length) c117) (pu_assign rfl) ?_
        refine lex.nil ?_
        refine hK113 _ _ ?_
        refine Wc.seq fun K122 hK122 => ?_
        refine Wc.seq fun K123 hK123 => ?_
        refine Wc.region (by decide +kernel) ?_
        refine lex.pure (v := .slice A17 (((List.replicate b_0_0.toNat (0 : Int))).length) c18) (pu_move e3) ?_
        refine lex.pure (v := .int .i64 (((List.replicate b_0_0.toNat (0 : Int))).length : Int)) (pu_len (A := A17) (n := ((List.replicate b_0_0.toNat (0 : Int))).length) (m := c18) Try.underlying22 rfl) ?_
        refine lex.pure (v := .int .i64 0) (pu_move rfl) ?_
        refine lex.nil ?_
        refine hK123 _ _ ?_
        obtain ⟨o124, hl2, hb⟩ := bd hb
        refine Wc.cut (fun E wv => ∃ (v58_2 : Int) (qf121_2 : List Int), E 2 = .slice none 0 0 ∧ E 8 = .slice A116 (((List.replicate b_0_0.toNat (0 : Int))).length) c117 ∧ I64 v58_2 ∧ Cx (fun _ => False) O0 w wv [.own 3 (.int .i64) (.slice A116 (((List.replicate b_0_0.toNat (0 : Int))).length) c117) qf121_2] ∧ (some qf121_2 : Option ((List Int))) = some r) (fun K125 hK125 => ?_) ?_
        · refine Wc.block ?_
          refine Wc.loop (fun m E wv => ∃ (v58_2 : Int) (qf121_2 : List Int), E 2 = .slice none 0 0 ∧ E 8 = .slice A116 (((List.replicate b_0_0.toNat (0 : Int))).length) c117 ∧ E 56 = .slice A17 (((List.replicate b_0_0.toNat (0 : Int))).length) c18 ∧ E 57 = .int .i64 (((List.replicate b_0_0.toNat (0 : Int))).length : Int) ∧ E 58 = .int .i64 v58_2 ∧ I64 v58_2 ∧ Cx (fun _ => False) O0 w wv [.own 3 (.int .i64) (.slice A116 (((List.replicate b_0_0.toNat (0 : Int))).length) c117) qf121_2, .own 3 (.int .i64) (.slice A17 (((List.replicate b_0_0.toNat (0 : Int))).length) c18) qf22_1] ∧ loopN m (F.braid_Perm_b2 n b_0_0 qf22_1) (v58_2, qf121_2) = some o124) n ⟨0, (List.replicate b_0_0.toNat (0 : Int)), e2, rfl, rfl, rfl, rfl, (show I64 0 from by unfold I64; omega), hC.sel [0, 3] (by decide), hl2⟩ ?_
          have hbK2 := hb
          clear hb hC hl2
          rintro m127 E129 w128 ⟨v58_2, qf121_2, e2, e8, e56, e57, e58, hrv58_2, hC, hl2⟩ K126 hK126
          obtain ⟨m127', o130, rfl, hb, hl2⟩ := loopN_some hl2
          unfold F.braid_Perm_b2 at hb
          refine Wc.seq fun K131 hK131 => ?_
          refine Wc.region (by decide +kernel) ?_
          refine lex.pure (v := .bool (decide (v58_2 < (((List.replicate b_0_0.toNat (0 : Int))).length : Int)))) (pu_lss (k := .i64) (a := v58_2) (b := (((List.replicate b_0_0.toNat (0 : Int))).length : Int)) e58 e57) ?_
          refine lex.nil ?_
          refine hK131 _ _ ?_
          refine Wc.seq fun K132 hK132 => ?_
          refine Wc.cond (t := (decide (v58_2 < (((List.replicate b_0_0.toNat (0 : Int))).length : Int)))) (rfl) (fun hq133 => ?_) (fun hq133 => ?_)
          · replace hb := (cT hq133).symm.trans hb
            refine Wc.skip ?_
            refine hK132 _ _ ?_
            refine Wc.seq fun K134 hK134 => ?_
            refine Wc.block ?_
            refine Wc.seq fun K135 hK135 => ?_
            refine Wc.region (by decide +kernel) ?_
            refine lex.pure (v := .int .i64 v58_2) (pu_move e58) ?_
            obtain ⟨x136, h137, hb⟩ := bd hb
            obtain ⟨ad138, cs139, hA, hc140, hr141⟩ := hC.elo (i := 1) rfl (get_some h137).2
            subst hA
            refine lex.pure (v := .pointer (some (ad138.add (v58_2.toNat * 1)))) (pu_index (a := v58_2) Try.underlying22 Try.sizeOf3 e56 e58 (by rw [(hC.ow (i := 1) rfl).sl_len.1]; exact (get_some h137).1)) ?_
            obtain ⟨rfl, hr141'⟩ := hr141
            refine lex.val (v := .int .i64 x136) (ld_one Try.isAgg3 rfl (hc140 0 _ rfl)) ?_
            refine lex.pure (v := .int .i64 v58_2) (pu_assign rfl) ?_
            refine lex.pure (v := .int .i64 x136) (pu_assign rfl) ?_
            refine lex.nil ?_
            refine hK135 _ _ ?_
            refine Wc.region (by decide +kernel) ?_
            refine lex.pure (v := .slice A116 (((List.replicate b_0_0.toNat (0 : Int))).length) c117) (pu_move e8) ?_
            refine lex.pure (v := .int .i64 x136) (pu_move rfl) ?_
            refine lex.pure (v := .int .i64 v58_2) (pu_move rfl) ?_
            obtain ⟨x142, h143, hb⟩ := bd hb
            obtain ⟨ad144, cs145, hA, hc146, hr147⟩ := hC.elo (i := 0) rfl (get_some h143).2
            subst hA
            refine lex.pure (v := .pointer (some (ad144.add (x136.toNat * 1)))) (pu_index (a := x136) Try.underlying52 Try.sizeOf3 rfl rfl (by rw [(hC.ow (i := 0) rfl).sl_len.1]; exact (get_some h143).1)) ?_
            refine lex.sk (hC.put (i := 0) rfl rfl Try.sizeOf3 (k := x136.toNat) (a := v58_2) (by have := (get_some h143).1; simp at this ⊢; omega) (⟨rfl, I64.wr hrv58_2⟩) rfl rfl rfl) ?_
            rintro w148 ⟨hC, hF⟩
            refine lex.nil ?_
            refine hK134 _ _ ?_
            refine Wc.region (by decide +kernel) ?_
            obtain ⟨z149, h150, hb⟩ := bd hb
            refine lex.pure (v := .int .i64 z149) (pu_addc (a := v58_2) (b := 1) e58 rfl h150) ?_
            refine lex.pure (v := .int .i64 z149) (pu_move rfl) ?_
            refine lex.nil ?_
            obtain rfl := Option.some.inj hb
            exact hK126 m127' _ _ (Nat.lt_succ_self _) ⟨z149, (qf121_2.set x136.toNat v58_2), e2, e8, e56, e57, rfl, (chk_rng h150), hC.sel [0, 1] (by decide), lN hl2⟩
          · replace hb := (cF hq133).symm.trans hb
            refine Wc.exit rfl ?_
            obtain rfl := Option.some.inj hb
            obtain rfl := (lX hl2).symm
            exact hK125 _ _ ⟨v58_2, qf121_2, e2, e8, hrv58_2, hC.sel [0] (by decide), hbK2⟩
        · clear hb hC hl2
          rintro E152 w151 ⟨v58_2, qf121_2, e2, e8, hrv58_2, hC, hb⟩
          refine hK122 _ _ ?_
          refine Wc.seq fun K153 hK153 => ?_
          refine Wc.region (by decide +kernel) ?_
          refine lex.pure (v := .slice A116 (((List.replicate b_0_0.toNat (0 : Int))).length) c117) (pu_move e8) ?_
          refine lex.pure (v := .slice A116 (((List.replicate b_0_0.toNat (0 : Int))).length) c117) (pu_assign rfl) ?_
          refine lex.nil ?_
          refine hK153 _ _ ?_
          obtain rfl := Option.some.inj hb
          refine Wc.ret ?_
          refine hKR _ _ ?_
          refine ⟨_, res1 Try.results23 (show RV _ _ _ (.tmp _) (.slice A116 (((List.replicate b_0_0.toNat (0 : Int))).length) c117) from rfl), _, rfl, A116, ((List.replicate b_0_0.toNat (0 : Int))).length, c117, rfl, hC.sel [0] (by decide)⟩

set_option maxRecDepth 100000 in
set_option maxHeartbeats 4000000 in
theorem perm_Valid_ok (n : Nat) {w : World} {O0 : List Nat} (hO : ∀ k ∈ O0, k < w.heap.size) {Ap_0 : Option Addr} {mp_0 cp_0 : Nat} {p_0 : List Int} (hp_0 : Rep O0 w (.sl (.int .i64)) [.slice Ap_0 mp_0 cp_0] p_0) {r : Bool} (hb : F.perm_Valid n p_0 = some r) :
    Calls Try.prog 59 #[.slice Ap_0 mp_0 cp_0] w fun e w' => ∃ v, e = .returned v ∧ v = .bool r ∧ Cx (fun _ => False) O0 w w' [] := by
  unfold F.perm_Valid at hb
  have hC := Cx.start hO
  replace hC := hC.arg rfl hp_0
  clear hO
  obtain ⟨rfl, hlp_0, hcp_0⟩ := hp_0.sl_len
  refine calls_of_Wc Try.func59 rfl (by rw [Try.ntmps59]; exact Nat.le_of_ble_eq_true rfl) fun KR hKR => ?_
  refine Wc.seq fun K2 hK2 => ?_
  refine Wc.region (by decide +kernel) ?_
  refine lex.pure (v := .bool false) (pu_assign rfl) ?_
  refine lex.nil ?_
  refine hK2 _ _ ?_
  refine Wc.seq fun K3 hK3 => ?_
  refine Wc.region (by decide +kernel) ?_
  refine lex.pure (v := .slice Ap_0 p_0.length cp_0) (pu_move rfl) ?_
  refine lex.pure (v := .int .i64 (p_0.length : Int)) (pu_len (A := Ap_0) (n := p_0.length) (m := cp_0) Try.underlying52 rfl) ?_
  obtain ⟨u4, h5, hb⟩ := bd hb
  refine lex.op (hC.make (s := .bool) (n := (p_0.length : Int)) Try.underlying102 Try.type4 rfl rfl rfl rfl rfl (pos_some h5).1 (pos_some h5).2 (by decide)) ?_
  rintro _ w10 ⟨A6, c7, rfl, hl8, hc9, hC, hF, hN⟩
  clear hF hN
  refine lex.pure (v := .slice A6 (((List.replicate (p_0.length : Int).toNat false)).length) c7) (pu_assign rfl) ?_
  refine lex.nil ?_
  refine hK3 _ _ ?_
  refine Wc.seq fun K12 hK12 => ?_
  refine Wc.seq fun K13 hK13 => ?_
  refine Wc.region (by decide +kernel) ?_
  refine lex.pure (v := .slice Ap_0 p_0.length cp_0) (pu_move rfl) ?_
  refine lex.pure (v := .int .i64 (p_0.length : Int)) (pu_len (A := Ap_0) (n := p_0.length) (m := cp_0) Try.underlying52 rfl) ?_
  refine lex.pure (v := .int .i64 0) (pu_move rfl) ?_
  refine lex.nil ?_
  refine hK13 _ _ ?_
  obtain ⟨o14, hl0, hb⟩ := bd hb
  refine Wc.cut (fun E wv => ∃ (v11_0 : Int) (qf11_0 : List Bool), E 2 = .bool false ∧ I64 v11_0 ∧ Cx (fun _ => False) O0 w wv [] ∧ (some true : Option (Bool)) = some r) (fun K15 hK15 => ?_) ?_
  · refine Wc.block ?_
    refine Wc.loop (fun m E wv => ∃ (v11_0 : Int) (qf11_0 : List Bool), E 0 = .slice Ap_0 p_0.length cp_0 ∧ E 2 = .bool false ∧ E 3 = .slice A6 (((List.replicate (p_0.length : Int).toNat false)).length) c7 ∧ E 9 = .slice Ap_0 p_0.length cp_0 ∧ E 10 = .int .i64 (p_0.length : Int) ∧ E 11 = .int .i64 v11_0 ∧ I64 v11_0 ∧ Cx (fun _ => False) O0 w wv [.ro (.sl (.int .i64)) [.slice Ap_0 p_0.length cp_0] p_0, .own 4 .bool (.slice A6 (((List.replicate (p_0.length : Int).toNat false)).length) c7) qf11_0] ∧ loopN m (F.perm_Valid_b0 n p_0) (v11_0, qf11_0) = some o14) n ⟨0, (List.replicate (p_0.length : Int).toNat false), rfl, rfl, rfl, rfl, rfl, rfl, (show I64 0 from by unfold I64; omega), hC.sel [1, 0] (by decide), hl0⟩ ?_
    have hbK0 := hb
    clear hb hC hl0
    rintro m17 E19 w18 ⟨v11_0, qf11_0, e0, e2, e3, e9, e10, e11, hrv11_0, hC, hl0⟩ K16 hK16
    obtain ⟨m17', o20, rfl, hb, hl0⟩ := loopN_some hl0
    unfold F.perm_Valid_b0 at hb
    refine Wc.seq fun K21 hK21 => ?_
    refine Wc.region (by decide +kernel) ?_
    refine lex.pure (v := .bool (decide (v11_0 < (p_0.length : Int)))) (pu_lss (k := .i64) (a := v11_0) (b := (p_0.length : Int)) e11 e10) ?_
    refine lex.nil ?_
    refine hK21 _ _ ?_
    refine Wc.seq fun K22 hK22 => ?_
    refine Wc.cond (t := (decide (v11_0 < (p_0.length : Int)))) (rfl) (fun hq23 => ?_) (fun hq23 => ?_)
    · replace hb := (cT hq23).symm.trans hb
      refine Wc.skip ?_
      refine hK22 _ _ ?_
      refine Wc.seq fun K24 hK24 => ?_
      refine Wc.block ?_
      refine Wc.seq fun K25 hK25 => ?_
      refine Wc.region (by decide +kernel) ?_
      obtain ⟨x26, h27, hb⟩ := bd hb
      obtain ⟨ad28, cs29, hA, hc30, hr31⟩ := hC.elr (i := 0) rfl (get_some h27).2
      subst hA
      refine lex.pure (v := .pointer (some (ad28.add (v11_0.toNat * 1)))) (pu_index (a := v11_0) Try.underlying52 Try.sizeOf3 e9 e11 (get_some h27).1) ?_
      obtain ⟨rfl, hr31'⟩ := hr31
      refine lex.val (v := .int .i64 x26) (ld_one Try.isAgg3 rfl (hc30 0 _ rfl)) ?_
      refine lex.pure (v := .int .i64 x26) (pu_assign rfl) ?_
      refine lex.nil ?_
      refine hK25 _ _ ?_
      refine Wc.seq fun K32 hK32 => ?_
      refine Wc.seq fun K33 hK33 => ?_
      refine Wc.region (by decide +kernel) ?_
      refine lex.pure (v := .int .i64 x26) (pu_move rfl) ?_
      refine lex.pure (v := .bool (decide (x26 < 0))) (pu_lss (k := .i64) (a := x26) (b := 0) rfl rfl) ?_
      refine lex.pure (v := .bool (decide (x26 < 0))) (pu_move rfl) ?_
      rcases bS (decide (x26 < 0)) with hq34 | hq34
      · replace hb := (cT hq34).symm.trans hb
        refine lex.gskip (want_f rfl rfl (show _ = Value.bool (decide (x26 < 0)) from rfl) hq34) ?_
        refine lex.gskip (want_f rfl rfl (show _ = Value.bool (decide (x26 < 0)) from rfl) hq34) ?_
        refine lex.gskip (want_f rfl rfl (show _ = Value.bool (decide (x26 < 0)) from rfl) hq34) ?_
        refine lex.gskip (want_f rfl rfl (show _ = Value.bool (decide (x26 < 0)) from rfl) hq34) ?_
        refine lex.pure (v := .bool true) (pu_pickT (q := (decide (x26 < 0))) rfl hq34 rfl) ?_
        refine lex.pure (v := .bool true) (pu_move rfl) ?_
        refine lex.gskip (want_f rfl rfl (show _ = Value.bool true from rfl) rfl) ?_
        refine lex.gskip (want_f rfl rfl (show _ = Value.bool true from rfl) rfl) ?_
        refine lex.gskip (want_f rfl rfl (show _ = Value.bool true from rfl) rfl) ?_
        refine lex.gskip (want_f rfl rfl (show _ = Value.bool true from rfl) rfl) ?_
        refine lex.pure (v := .bool true) (pu_pickT (q := true) rfl rfl rfl) ?_
        refine lex.nil ?_
        refine hK33 _ _ ?_
        refine Wc.cond_true (rfl) ?_
        refine Wc.seq fun K35 hK35 => ?_
        refine Wc.region (by decide +kernel) ?_
        refine lex.pure (v := .bool false) (pu_assign rfl) ?_
        refine lex.nil ?_
        refine hK35 _ _ ?_
        obtain rfl := Option.some.inj hb
        obtain rfl := (lX hl0).symm
        replace hb := hbK0
        obtain rfl := Option.some.inj hb
        refine Wc.ret ?_
        refine hKR _ _ ?_
        refine ⟨_, res1 Try.results59 (show RV _ _ _ (.tmp _) (.bool false) from rfl), _, rfl, rfl, hC.sel [] (by decide)⟩
      · replace hb := (cF hq34).symm.trans hb
        refine lex.gpure (want_t rfl rfl (show _ = Value.bool (decide (x26 < 0)) from rfl) hq34) (v := .int .i64 x26) (pu_move rfl) ?_
        refine lex.gpure (want_t rfl rfl (show _ = Value.bool (decide (x26 < 0)) from rfl) hq34) (v := .slice (some ad28) p_0.length cp_0) (pu_move e0) ?_
        refine lex.gpure (want_t rfl rfl (show _ = Value.bool (decide (x26 < 0)) from rfl) hq34) (v := .int .i64 (p_0.length : Int)) (pu_len (A := (some ad28)) (n := p_0.length) (m := cp_0) Try.underlying52 rfl) ?_
        refine lex.gpure (want_t rfl rfl (show _ = Value.bool (decide (x26 < 0)) from rfl) hq34) (v := .bool (decide ((p_0.length : Int) ≤ x26))) (pu_geq (k := .i64) (a := x26) (b := (p_0.length : Int)) rfl rfl) ?_
        refine lex.pure (v := .bool (decide ((p_0.length : Int) ≤ x26))) (pu_pickF (q := (decide (x26 < 0))) rfl hq34 rfl) ?_
        refine lex.pure (v := .bool (decide ((p_0.length : Int) ≤ x26))) (pu_move rfl) ?_
        rcases bS (decide ((p_0.length : Int) ≤ x26)) with hq36 | hq36
        · replace hb := (cT hq36).symm.trans hb
          refine lex.gskip (want_f rfl rfl (show _ = Value.bool (decide ((p_0.length : Int) ≤ x26)) from rfl) hq36) ?_
          refine lex.gskip (want_f rfl rfl (show _ = Value.bool (decide ((p_0.length : Int) ≤ x26)) from rfl) hq36) ?_
          refine lex.gskip (want_f rfl rfl (show _ = Value.bool (decide ((p_0.length : Int) ≤ x26)) from rfl) hq36) ?_
          refine lex.gskip (want_f rfl rfl (show _ = Value.bool (decide ((p_0.length : Int) ≤ x26)) from rfl) hq36) ?_
          refine lex.pure (v := .bool true) (pu_pickT (q := (decide ((p_0.length : Int) ≤ x26))) rfl hq36 rfl) ?_
          refine lex.nil ?_
          refine hK33 _ _ ?_
          refine Wc.cond_true (rfl) ?_
          refine Wc.seq fun K37 hK37 => ?_
          refine Wc.region (by decide +kernel) ?_
          refine lex.pure (v := .bool false) (pu_assign rfl) ?_
          refine lex.nil ?_
          refine hK37 _ _ ?_
          obtain rfl := Option.some.inj hb
          obtain rfl := (lX hl0).symm
          replace hb := hbK0
          obtain rfl := Option.some.inj hb
          refine Wc.ret ?_
          refine hKR _ _ ?_
          refine ⟨_, res1 Try.results59 (show RV _ _ _ (.tmp _) (.bool false) from rfl), _, rfl, rfl, hC.sel [] (by decide)⟩
        · replace hb := (cF hq36).symm.trans hb
          refine lex.gpure (want_t rfl rfl (show _ = Value.bool (decide ((p_0.length : Int) ≤ x26)) from rfl) hq36) (v := .slice A6 (((List.replicate (p_0.length : Int).toNat false)).length) c7) (pu_move e3) ?_
          refine lex.gpure (want_t rfl rfl (show _ = Value.bool (decide ((p_0.length : Int) ≤ x26)) from rfl) hq36) (v := .int .i64 x26) (pu_move rfl) ?_
          obtain ⟨x38, h39, hb⟩ := bd hb
          obtain ⟨ad40, cs41, hA, hc42, hr43⟩ := hC.elo (i := 1) rfl (get_some h39).2
          subst hA
          refine lex.gpure (want_t rfl rfl (show _ = Value.bool (decide ((p_0.length : Int) ≤ x26)) from rfl) hq36) (v := .pointer (some (ad40.add (x26.toNat * 1)))) (pu_index (a := x26) Try.underlying102 Try.sizeOf4 rfl rfl (by rw [(hC.ow (i := 1) rfl).sl_len.1]; exact (get_some h39).1)) ?_
          obtain rfl := (show _ = _ from hr43)
          refine lex.gval (want_t rfl rfl (show _ = Value.bool (decide ((p_0.length : Int) ≤ x26)) from rfl) hq36) (v := .bool x38) (ld_one Try.isAgg4 rfl (hc42 0 _ rfl)) ?_
          refine lex.pure (v := .bool x38) (pu_pickF (q := (decide ((p_0.length : Int) ≤ x26))) rfl hq36 rfl) ?_
          refine lex.nil ?_
          refine hK33 _ _ ?_
          refine Wc.cond (t := x38) (rfl) (fun hq44 => ?_) (fun hq44 => ?_)
          · replace hb := (cT hq44).symm.trans hb
            refine Wc.seq fun K45 hK45 => ?_
            refine Wc.region (by decide +kernel) ?_
            refine lex.pure (v := .bool false) (pu_assign rfl) ?_
            refine lex.nil ?_
            refine hK45 _ _ ?_
            obtain rfl := Option.some.inj hb
            obtain rfl := (lX hl0).symm
            replace hb := hbK0
            obtain rfl := Option.some.inj hb
            refine Wc.ret ?_
            refine hKR _ _ ?_
            refine ⟨_, res1 Try.results59 (show RV _ _ _ (.tmp _) (.bool false) from rfl), _, rfl, rfl, hC.sel [] (by decide)⟩
          · replace hb := (cF hq44).symm.trans hb
            refine Wc.skip ?_
            refine hK32 _ _ ?_
            refine Wc.fresh fun E46 hE => ?_
            have e0 : E46 0 = .slice (some ad28) p_0.length cp_0 := (congrFun hE 0).trans e0
            have e2 : E46 2 = .bool false := (congrFun hE 2).trans e2
            have e3 : E46 3 = .slice (some ad40) (((List.replicate (p_0.length : Int).toNat false)).length) c7 := (congrFun hE 3).trans e3
            have e5 : E46 5 = .int .i64 x26 := (congrFun hE 5).trans rfl
            have e9 : E46 9 = .slice (some ad28) p_0.length cp_0 := (congrFun hE 9).trans e9
            have e10 : E46 10 = .int .i64 (p_0.length : Int) := (congrFun hE 10).trans e10
            have e11 : E46 11 = .int .i64 v11_0 := (congrFun hE 11).trans e11
            have e12 : E46 12 = .bool (decide (v11_0 < (p_0.length : Int))) := (congrFun hE 12).trans rfl
            have e28 : E46 28 = .bool x38 := (congrFun hE 28).trans rfl
            clear hE
            refine Wc.region (by decide +kernel) ?_
            refine lex.pure (v := .slice (some ad40) (((List.replicate (p_0.length : Int).toNat false)).length) c7) (pu_move e3) ?_
            refine lex.pure (v := .int .i64 x26) (pu_move e5) ?_
            obtain ⟨x47, h48, hb⟩ := bd hb
            obtain ⟨ad49, cs50, hA, hc51, hr52⟩ := hC.elo (i := 1) rfl (get_some h48).2
            obtain rfl := Option.some.inj hA
            refine lex.pure (v := .pointer (some (ad40.add (x26.toNat * 1)))) (pu_index (a := x26) Try.underlying102 Try.sizeOf4 rfl rfl (by rw [(hC.ow (i := 1) rfl).sl_len.1]; exact (get_some h48).1)) ?_
            refine lex.sk (hC.put (i := 1) rfl rfl Try.sizeOf4 (k := x26.toNat) (a := true) (by have := (get_some h48).1; simp at this ⊢; omega) (show Rep _ _ .bool _ _ from rfl) rfl rfl rfl) ?_
            rintro w53 ⟨hC, hF⟩
            refine lex.nil ?_
            refine hK24 _ _ ?_
            refine Wc.region (by decide +kernel) ?_
            obtain ⟨z54, h55, hb⟩ := bd hb
            refine lex.pure (v := .int .i64 z54) (pu_addc (a := v11_0) (b := 1) e11 rfl h55) ?_
            refine lex.pure (v := .int .i64 z54) (pu_move rfl) ?_
            refine lex.nil ?_
            obtain rfl := Option.some.inj hb
            exact hK16 m17' _ _ (Nat.lt_succ_self _) ⟨z54, (qf11_0.set x26.toNat true), e0, e2, e3, e9, e10, rfl, (chk_rng h55), hC.sel [0, 1] (by decide), lN hl0⟩
    · replace hb := (cF hq23).symm.trans hb
      refine Wc.exit rfl ?_
      obtain rfl := Option.some.inj hb
      obtain rfl := (lX hl0).symm
      exact hK15 _ _ ⟨v11_0, qf11_0, e2, hrv11_0, hC.sel [] (by decide), hbK0⟩
  · clear hb hC hl0
    rintro E57 w56 ⟨v11_0, qf11_0, e2, hrv11_0, hC, hb⟩
    refine hK12 _ _ ?_
    refine Wc.seq fun K58 hK58 => ?_
    refine Wc.region (by decide +kernel) ?_
    refine lex.pure (v := .bool true) (pu_assign rfl) ?_
    refine lex.nil ?_
    refine hK58 _ _ ?_
    obtain rfl := Option.some.inj hb
    refine Wc.ret ?_
    refine hKR _ _ ?_
    refine ⟨_, res1 Try.results59 (show RV _ _ _ (.tmp _) (.bool true) from rfl), _, rfl, rfl, hC.sel [] (by decide)⟩

set_option maxRecDepth 100000 in
set_option maxHeartbeats 4000000 in
theorem perm_Cycles_ok (n : Nat) {w : World} {O0 : List Nat} (hO : ∀ k ∈ O0, k < w.heap.size) {Ap_0 : Option Addr} {mp_0 cp_0 : Nat} {p_0 : List Int} (hp_0 : Rep O0 w (.sl (.int .i64)) [.slice Ap_0 mp_0 cp_0] p_0) {r : (List (List Int))} (hb : F.perm_Cycles n p_0 = some r) :
    Calls Try.prog 39 #[.slice Ap_0 mp_0 cp_0] w fun e w' => ∃ v, e = .returned v ∧ ∃ (A0 : Option Addr) (m0 c0 : Nat), v = .slice A0 m0 c0 ∧ Cx (fun _ => False) O0 w w' [.own 22 (.sl (.int .i64)) (.slice A0 m0 c0) r] := by
  unfold F.perm_Cycles at hb
  have hC := Cx.start hO
  replace hC := hC.arg rfl hp_0
  clear hO
  obtain ⟨rfl, hlp_0, hcp_0⟩ := hp_0.sl_len
  refine calls_of_Wc Try.func39 rfl (by rw [Try.ntmps39]; exact Nat.le_of_ble_eq_true rfl) fun KR hKR => ?_
  refine Wc.seq fun K2 hK2 => ?_
  refine Wc.region (by decide +kernel) ?_
  refine lex.pure (v := .slice none 0 0) (pu_assign rfl) ?_
  refine lex.nil ?_
  refine hK2 _ _ ?_
  refine Wc.seq fun K3 hK3 => ?_
  refine Wc.seq fun K4 hK4 => ?_
  refine Wc.region (by decide +kernel) ?_
  refine lex.pure (v := .slice Ap_0 p_0.length cp_0) (pu_move rfl) ?_
  obtain ⟨y5, h6, hb⟩ := bd hb
  refine lex.cl (⟨_, _, op_call (vs := [.slice Ap_0 p_0.length cp_0]) Try.call59 rfl rfl rfl, perm_Valid_ok n hC.lt (hC.rd (i := 0) rfl) h6⟩) ?_
  rintro _ w7 ⟨rfl, hK⟩
  replace hC := hC.merge hK
  clear hK
  refine lex.pure (v := .bool (!y5)) (pu_not (q := y5) rfl) ?_
  refine lex.nil ?_
  refine hK4 _ _ ?_
  refine Wc.cond (t := (!y5)) (rfl) (fun hq8 => ?_) (fun hq8 => ?_)
  · replace hb := (cT hq8).symm.trans hb
    refine Wc.seq fun K9 hK9 => ?_
    refine Wc.region (by decide +kernel) ?_
    refine lex.pure (v := .slice none 0 0) (pu_assign rfl) ?_
    refine lex.nil ?_
    refine hK9 _ _ ?_
    replace hC := hC.nil 22 (.sl (.int .i64))
    obtain rfl := Option.some.inj hb
    refine Wc.ret ?_
    refine hKR _ _ ?_
    refine ⟨_, res1 Try.results39 (show RV _ _ _ (.tmp _) (.slice none 0 0) from rfl), _, rfl, none, 0, 0, rfl, hC.sel [0] (by decide)⟩
  · replace hb := (cF hq8).symm.trans hb
    refine Wc.skip ?_
    refine hK3 _ _ ?_
    refine Wc.seq fun K11 hK11 => ?_
    refine Wc.region (by decide +kernel) ?_
    refine lex.pure (v := .slice none 0 0) (pu_assign rfl) ?_
    refine lex.nil ?_
    refine hK11 _ _ ?_
    refine Wc.seq fun K12 hK12 => ?_
    refine Wc.region (by decide +kernel) ?_
    refine lex.pure (v := .slice Ap_0 p_0.length cp_0) (pu_move rfl) ?_
    refine lex.pure (v := .int .i64 (p_0.length : Int)) (pu_len (A := Ap_0) (n := p_0.length) (m := cp_0) Try.underlying52 rfl) ?_
    obtain ⟨u13, h14, hb⟩ := bd hb
    refine lex.op (hC.make (s := .bool) (n := (p_0.length : Int)) Try.underlying102 Try.type4 rfl rfl rfl rfl rfl (pos_some h14).1 (pos_some h14).2 (by decide)) ?_
    rintro _ w19 ⟨A15, c16, rfl, hl17, hc18, hC, hF, hN⟩
    clear hF hN
    refine lex.pure (v := .slice A15 (((List.replicate (p_0.length : Int).toNat false)).length) c16) (pu_assign rfl) ?_
    refine lex.nil ?_
    refine hK12 _ _ ?_
    refine Wc.seq fun K21 hK21 => ?_
    refine Wc.seq fun K22 hK22 => ?_
    refine Wc.region (by decide +kernel) ?_
    refine lex.pure (v := .slice Ap_0 p_0.length cp_0) (pu_move rfl) ?_
    refine lex.pure (v := .int .i64 (p_0.length : Int)) (pu_len (A := Ap_0) (n := p_0.length) (m := cp_0) Try.underlying52 rfl) ?_
    refine lex.pure (v := .int .i64 0) (pu_move rfl) ?_
    refine lex.nil ?_
    refine hK22 _ _ ?_
    refine Wc.fresh fun E23 hE => ?_
    have e0 : E23 0 = .slice Ap_0 p_0.length cp_0 := (congrFun hE 0).trans rfl
    have e2 : E23 2 = .slice none 0 0 := (congrFun hE 2).trans rfl
    have e3 : E23 3 = .slice none 0 0 := (congrFun hE 3).trans rfl
    have e4 : E23 4 = .slice A15 (((List.replicate (p_0.length : Int).toNat false)).length) c16 := (congrFun hE 4).trans rfl
    have e15 : E23 15 = .int .i64 (p_0.length : Int) := (congrFun hE 15).trans rfl
    have e16 : E23 16 = .int .i64 0 := (congrFun hE 16).trans rfl
    clear hE
    replace hC := hC.nil 22 (.sl (.int .i64))
    obtain ⟨o25, hl0, hb⟩ := bd hb
    refine Wc.cut (fun E wv => ∃ (l3_0 : List (List Int)) (v16_0 : Int) (qf20_0 : List Bool) (Al3_0 : Option Addr) (ml3_0 cl3_0 : Nat), E 2 = .slice none 0 0 ∧ E 3 = .slice Al3_0 ml3_0 cl3_0 ∧ I64 v16_0 ∧ Cx (fun _ => False) O0 w wv [.own 22 (.sl (.int .i64)) (.slice Al3_0 ml3_0 cl3_0) l3_0] ∧ (some l3_0 : Option ((List (List Int)))) = some r) (fun K26 hK26 => ?_) ?_
    · refine Wc.block ?_
      refine Wc.loop (fun m E wv => ∃ (l3_0 : List (List Int)) (v16_0 : Int) (qf20_0 : List Bool) (Al3_0 : Option Addr) (ml3_0 cl3_0 : Nat), E 0 = .slice Ap_0 p_0.length cp_0 ∧ E 2 = .slice none 0 0 ∧ E 3 = .slice Al3_0 ml3_0 cl3_0 ∧ E 4 = .slice A15 (((List.replicate (p_0.length : Int).toNat false)).length) c16 ∧ E 15 = .int .i64 (p_0.length : Int) ∧ E 16 = .int .i64 v16_0 ∧ I64 v16_0 ∧ Cx (fun _ => False) O0 w wv [.ro (.sl (.int .i64)) [.slice Ap_0 p_0.length cp_0] p_0, .own 22 (.sl (.int .i64)) (.slice Al3_0 ml3_0 cl3_0) l3_0, .own 4 .bool (.slice A15 (((List.replicate (p_0.length : Int).toNat false)).length) c16) qf20_0] ∧ loopN m (F.perm_Cycles_b0 n p_0) (l3_0, v16_0, qf20_0) = some o25) n ⟨([] : List (List Int)), 0, (List.replicate (p_0.length : Int).toNat false), none, 0, 0, e0, e2, e3, e4, e15, e16, (show I64 0 from by unfold I64; omega), hC.sel [2, 0, 1] (by decide), hl0⟩ ?_
      have hbK0 := hb
      clear hb hC hl0
      rintro m28 E30 w29 ⟨l3_0, v16_0, qf20_0, Al3_0, ml3_0, cl3_0, e0, e2, e3, e4, e15, e16, hrv16_0, hC, hl0⟩ K27 hK27
      obtain ⟨m28', o31, rfl, hb, hl0⟩ := loopN_some hl0
      unfold F.perm_Cycles_b0 at hb
      obtain ⟨rfl, hll3_0, hcl3_0⟩ := (hC.ow (i := 1) rfl).sl_len
      refine Wc.seq fun K32 hK32 => ?_
      refine Wc.region (by decide +kernel) ?_
      refine lex.pure (v := .bool (decide (v16_0 < (p_0.length : Int)))) (pu_lss (k := .i64) (a := v16_0) (b := (p_0.length : Int)) e16 e15) ?_
      refine lex.nil ?_
      refine hK32 _ _ ?_
      refine Wc.seq fun K33 hK33 => ?_
      refine Wc.cond (t := (decide (v16_0 < (p_0.length : Int)))) (rfl) (fun hq34 => ?_) (fun hq34 => ?_)
      · replace hb := (cT hq34).symm.trans hb
        refine Wc.skip ?_
        refine hK33 _ _ ?_
        refine Wc.seq fun K35 hK35 => ?_
        refine Wc.block ?_
        refine Wc.seq fun K36 hK36 => ?_
        refine Wc.region (by decide +kernel) ?_
        refine lex.pure (v := .int .i64 v16_0) (pu_move e16) ?_
        refine lex.pure (v := .int .i64 v16_0) (pu_assign rfl) ?_
        refine lex.nil ?_
        refine hK36 _ _ ?_
        refine Wc.seq fun K37 hK37 => ?_
        refine Wc.region (by decide +kernel) ?_
        refine lex.pure (v := .slice none 0 0) (pu_assign rfl) ?_
        refine lex.nil ?_
        refine hK37 _ _ ?_
        refine Wc.seq fun K38 hK38 => ?_
        refine Wc.seq fun K39 hK39 => ?_
        refine Wc.region (by decide +kernel) ?_
        refine lex.pure (v := .int .i64 v16_0) (pu_move rfl) ?_
        refine lex.pure (v := .int .i64 v16_0) (pu_assign rfl) ?_
        refine lex.nil ?_
        refine hK39 _ _ ?_
        replace hC := hC.nil 3 (.int .i64)
        obtain ⟨o41, hl1, hb⟩ := bd hb
        refine Wc.cut (fun E wv => ∃ (l6_1 : List Int) (v7_1 : Int) (qf20_1 : List Bool) (Al6_1 : Option Addr) (ml6_1 cl6_1 : Nat), E 0 = .slice Ap_0 p_0.length cp_0 ∧ E 2 = .slice none 0 0 ∧ E 3 = .slice Al3_0 l3_0.length cl3_0 ∧ E 4 = .slice A15 (((List.replicate (p_0.length : Int).toNat false)).length) c16 ∧ E 5 = .int .i64 v16_0 ∧ E 6 = .slice Al6_1 ml6_1 cl6_1 ∧ E 7 = .int .i64 v7_1 ∧ E 15 = .int .i64 (p_0.length : Int) ∧ E 16 = .int .i64 v16_0 ∧ E 17 = .bool (decide (v16_0 < (p_0.length : Int))) ∧ I64 v7_1 ∧ Cx (fun _ => False) O0 w wv [.ro (.sl (.int .i64)) [.slice Ap_0 p_0.length cp_0] p_0, .own 22 (.sl (.int .i64)) (.slice Al3_0 l3_0.length cl3_0) l3_0, .own 4 .bool (.slice A15 (((List.replicate (p_0.length : Int).toNat false)).length) c16) qf20_1, .own 3 (.int .i64) (.slice Al6_1 ml6_1 cl6_1) l6_1] ∧ (cond (decide (0 < (l6_1.length : Int))) ((lim (l3_0.length + ([l6_1] : List (List Int)).length)).bind fun u96 => (chk (v16_0 + 1)).bind fun z103 => some (.inl ((l3_0 ++ ([l6_1] : List (List Int))), z103, qf20_1))) ((chk (v16_0 + 1)).bind fun z105 => some (.inl (l3_0, z105, qf20_1))) : Option (((List (List Int)) × Int × (List Bool)) ⊕ (((List (List Int)) × Int × (List Bool))))) = some o31) (fun K42 hK42 => ?_) ?_
        · refine Wc.block ?_
          refine Wc.loop (fun m E wv => ∃ (l6_1 : List Int) (v7_1 : Int) (qf20_1 : List Bool) (Al6_1 : Option Addr) (ml6_1 cl6_1 : Nat), E 0 = .slice Ap_0 p_0.length cp_0 ∧ E 2 = .slice none 0 0 ∧ E 3 = .slice Al3_0 l3_0.length cl3_0 ∧ E 4 = .slice A15 (((List.replicate (p_0.length : Int).toNat false)).length) c16 ∧ E 5 = .int .i64 v16_0 ∧ E 6 = .slice Al6_1 ml6_1 cl6_1 ∧ E 7 = .int .i64 v7_1 ∧ E 15 = .int .i64 (p_0.length : Int) ∧ E 16 = .int .i64 v16_0 ∧ E 17 = .bool (decide (v16_0 < (p_0.length : Int))) ∧ I64 v7_1 ∧ Cx (fun _ => False) O0 w wv [.ro (.sl (.int .i64)) [.slice Ap_0 p_0.length cp_0] p_0, .own 22 (.sl (.int .i64)) (.slice Al3_0 l3_0.length cl3_0) l3_0, .own 4 .bool (.slice A15 (((List.replicate (p_0.length : Int).toNat false)).length) c16) qf20_1, .own 3 (.int .i64) (.slice Al6_1 ml6_1 cl6_1) l6_1] ∧ loopN m (F.perm_Cycles_b1 n p_0) (l6_1, v7_1, qf20_1) = some o41) n ⟨([] : List Int), v16_0, qf20_0, none, 0, 0, e0, e2, e3, e4, rfl, rfl, rfl, e15, e16, rfl, hrv16_0, hC.sel [1, 2, 3, 0] (by decide), hl1⟩ ?_
          have hbK1 := hb
          clear hb hC hl1
          rintro m44 E46 w45 ⟨l6_1, v7_1, qf20_1, Al6_1, ml6_1, cl6_1, e0, e2, e3, e4, e5, e6, e7, e15, e16, e17, hrv7_1, hC, hl1⟩ K43 hK43
          obtain ⟨m44', o47, rfl, hb, hl1⟩ := loopN_some hl1
          unfold F.perm_Cycles_b1 at hb
          obtain ⟨rfl, hll6_1, hcl6_1⟩ := (hC.ow (i := 3) rfl).sl_len
          refine Wc.seq fun K48 hK48 => ?_
          refine Wc.seq fun K49 hK49 => ?_
          refine Wc.region (by decide +kernel) ?_
          refine lex.pure (v := .slice A15 (((List.replicate (p_0.length : Int).toNat false)).length) c16) (pu_move e4) ?_
          refine lex.pure (v := .int .i64 v7_1) (pu_move e7) ?_
          obtain ⟨x50, h51, hb⟩ := bd hb
          obtain ⟨ad52, cs53, hA, hc54, hr55⟩ := hC.elo (i := 2) rfl (get_some h51).2
          subst hA
          refine lex.pure (v := .pointer (some (ad52.add (v7_1.toNat * 1)))) (pu_index (a := v7_1) Try.underlying102 Try.sizeOf4 rfl rfl (by rw [(hC.ow (i := 2) rfl).sl_len.1]; exact (get_some h51).1)) ?_
          obtain rfl := (show _ = _ from hr55)
          refine lex.val (v := .bool x50) (ld_one Try.isAgg4 rfl (hc54 0 _ rfl)) ?_
          refine lex.pure (v := .bool (!x50)) (pu_not (q := x50) rfl) ?_
          refine lex.nil ?_
          refine hK49 _ _ ?_
          refine Wc.cond (t := (!x50)) (rfl) (fun hq56 => ?_) (fun hq56 => ?_)
          · replace hb := (cT hq56).symm.trans hb
            refine Wc.skip ?_
            refine hK48 _ _ ?_
            refine Wc.seq fun K57 hK57 => ?_
            refine Wc.block ?_
            refine Wc.seq fun K58 hK58 => ?_
            refine Wc.region (by decide +kernel) ?_
            refine lex.pure (v := .slice (some ad52) (((List.replicate (p_0.length : Int).toNat false)).length) c16) (pu_move e4) ?_
            refine lex.pure (v := .int .i64 v7_1) (pu_move e7) ?_
            obtain ⟨x59, h60, hb⟩ := bd hb
            obtain ⟨ad61, cs62, hA, hc63, hr64⟩ := hC.elo (i := 2) rfl (get_some h60).2
            obtain rfl := Option.some.inj hA
            refine lex.pure (v := .pointer (some (ad52.add (v7_1.toNat * 1)))) (pu_index (a := v7_1) Try.underlying102 Try.sizeOf4 rfl rfl (by rw [(hC.ow (i := 2) rfl).sl_len.1]; exact (get_some h60).1)) ?_
            refine lex.sk (hC.put (i := 2) rfl rfl Try.sizeOf4 (k := v7_1.toNat) (a := true) (by have := (get_some h60).1; simp at this ⊢; omega) (show Rep _ _ .bool _ _ from rfl) rfl rfl rfl) ?_
            rintro w65 ⟨hC, hF⟩
            refine lex.nil ?_
            refine hK58 _ _ ?_
            refine Wc.region (by decide +kernel) ?_
            refine lex.pure (v := .slice Al6_1 l6_1.length cl6_1) (pu_move e6) ?_
            refine lex.pure (v := .int .i64 v7_1) (pu_move e7) ?_
            refine lex.op (hC.lit (s := (.int .i64)) (vs := [.int .i64 v7_1]) (xs := [v7_1]) Try.underlying22 Try.type3 rfl rfl (Nat.le_of_ble_eq_true rfl) rfl rfl (by simp [Value.cells, Sh.n]) rfl (show Elems _ _ (.int .i64) ([.int .i64 v7_1] ++ ([])) ([v7_1] : List Int) from Elems.cons (⟨rfl, I64.wr hrv7_1⟩) (Elems.nil _ _ _))) ?_
            rintro _ w70 ⟨A66, c67, rfl, hl68, hc69, hC, hF, hN⟩
            clear hF hN
            obtain ⟨u72, h73, hb⟩ := bd hb
            refine lex.op (hC.app (i := 4) (s := (.int .i64)) (xs := l6_1) (ys := ([v7_1] : List Int)) (m := ((([v7_1] : List Int)).length)) rfl Try.underlying22 Try.underlying22 Try.type3 rfl rfl rfl (hC.srco (i := 0) rfl) rfl rfl (by have := lim_some h73; simp at this ⊢ <;> omega) (by decide)) ?_
            rintro _ w78 ⟨A74, c75, rfl, hl76, hc77, hC, hF, hN⟩
            clear hF hN
            refine lex.pure (v := .slice A74 ((l6_1 ++ ([v7_1] : List Int)).length) c75) (pu_assign rfl) ?_
            refine lex.nil ?_
            refine hK57 _ _ ?_
            refine Wc.fresh fun E79 hE => ?_
            have e0 : E79 0 = .slice Ap_0 p_0.length cp_0 := (congrFun hE 0).trans e0
            have e2 : E79 2 = .slice none 0 0 := (congrFun hE 2).trans e2
            have e3 : E79 3 = .slice Al3_0 l3_0.length cl3_0 := (congrFun hE 3).trans e3
            have e4 : E79 4 = .slice (some ad52) (((List.replicate (p_0.length : Int).toNat false)).length) c16 := (congrFun hE 4).trans e4
            have e5 : E79 5 = .int .i64 v16_0 := (congrFun hE 5).trans e5
            have e6 : E79 6 = .slice A74 ((l6_1 ++ ([v7_1] : List Int)).length) c75 := (congrFun hE 6).trans rfl
            have e7 : E79 7 = .int .i64 v7_1 := (congrFun hE 7).trans e7
            have e15 : E79 15 = .int .i64 (p_0.length : Int) := (congrFun hE 15).trans e15
            have e16 : E79 16 = .int .i64 v16_0 := (congrFun hE 16).trans e16
            have e17 : E79 17 = .bool (decide (v16_0 < (p_0.length : Int))) := (congrFun hE 17).trans e17
            have e24 : E79 24 = .bool (!x50) := (congrFun hE 24).trans rfl
            clear hE
            refine Wc.region (by decide +kernel) ?_
            refine lex.pure (v := .slice Ap_0 p_0.length cp_0) (pu_move e0) ?_
            refine lex.pure (v := .int .i64 v7_1) (pu_move e7) ?_
            obtain ⟨x80, h81, hb⟩ := bd hb
            obtain ⟨ad82, cs83, hA, hc84, hr85⟩ := hC.elr (i := 1) rfl (get_some h81).2
            subst hA
            refine lex.pure (v := .pointer (some (ad82.add (v7_1.toNat * 1)))) (pu_index (a := v7_1) Try.underlying52 Try.sizeOf3 rfl rfl (get_some h81).1) ?_
            obtain ⟨rfl, hr85'⟩ := hr85
            refine lex.val (v := .int .i64 x80) (ld_one Try.isAgg3 rfl (hc84 0 _ rfl)) ?_
            refine lex.pure (v := .int .i64 x80) (pu_assign rfl) ?_
            refine lex.nil ?_
            obtain rfl := Option.some.inj hb
            exact hK43 m44' _ _ (Nat.lt_succ_self _) ⟨(l6_1 ++ ([v7_1] : List Int)), x80, (qf20_1.set v7_1.toNat true), A74, (l6_1 ++ ([v7_1] : List Int)).length, c75, e0, e2, e3, e4, e5, e6, rfl, e15, e16, e17, (wrap_I64 hr85'), hC.sel [1, 2, 3, 4] (by decide), lN hl1⟩
          · replace hb := (cF hq56).symm.trans hb
            refine Wc.exit rfl ?_
            obtain rfl := Option.some.inj hb
            obtain rfl := (lX hl1).symm
            exact hK42 _ _ ⟨l6_1, v7_1, qf20_1, Al6_1, l6_1.length, cl6_1, e0, e2, e3, e4, e5, e6, e7, e15, e16, e17, hrv7_1, hC.sel [0, 1, 2, 3] (by decide), hbK1⟩
        · clear hb hC hl1
          rintro E87 w86 ⟨l6_1, v7_1, qf20_1, Al6_1, ml6_1, cl6_1, e0, e2, e3, e4, e5, e6, e7, e15, e16, e17, hrv7_1, hC, hb⟩
          obtain ⟨rfl, hll6_1, hcl6_1⟩ := (hC.ow (i := 3) rfl).sl_len
          refine hK38 _ _ ?_
          refine Wc.seq fun K88 hK88 => ?_
          refine Wc.region (by decide +kernel) ?_
          refine lex.pure (v := .slice Al6_1 l6_1.length cl6_1) (pu_move e6) ?_
          refine lex.pure (v := .int .i64 (l6_1.length : Int)) (pu_len (A := Al6_1) (n := l6_1.length) (m := cl6_1) Try.underlying22 rfl) ?_
          refine lex.pure (v := .bool (decide (0 < (l6_1.length : Int)))) (pu_gtr (k := .i64) (a := (l6_1.length : Int)) (b := 0) rfl rfl) ?_
          refine lex.nil ?_
          refine hK88 _ _ ?_
          refine Wc.cond (t := (decide (0 < (l6_1.length : Int)))) (rfl) (fun hq89 => ?_) (fun hq89 => ?_)
          · replace hb := (cT hq89).symm.trans hb
            refine Wc.region (by decide +kernel) ?_
            refine lex.pure (v := .slice Al3_0 l3_0.length cl3_0) (pu_move e3) ?_
            refine lex.pure (v := .slice Al6_1 l6_1.length cl6_1) (pu_move e6) ?_
            replace hC := hC.freeze (i := 3) rfl (hC.own_new (i := 3) rfl)
            refine lex.op (hC.lit (s := (.sl (.int .i64))) (vs := [.slice Al6_1 l6_1.length cl6_1]) (xs := [l6_1]) Try.underlying41 Try.type22 rfl rfl (Nat.le_of_ble_eq_true rfl) rfl rfl (by simp [Value.cells, Sh.n]) rfl (show Elems _ _ (.sl (.int .i64)) ([.slice Al6_1 l6_1.length cl6_1] ++ ([])) ([l6_1] : List (List Int)) from Elems.cons (hC.rd (i := 3) rfl) (Elems.nil _ _ _))) ?_
            rintro _ w94 ⟨A90, c91, rfl, hl92, hc93, hC, hF, hN⟩
            clear hF hN
            obtain ⟨u96, h97, hb⟩ := bd hb
            refine lex.op (hC.app (i := 2) (s := (.sl (.int .i64))) (xs := l3_0) (ys := ([l6_1] : List (List Int))) (m := ((([l6_1] : List (List Int))).length)) rfl Try.underlying41 Try.underlying41 Try.type22 rfl rfl rfl (hC.srco (i := 0) rfl) rfl rfl (by have := lim_some h97; simp at this ⊢ <;> omega) (by decide)) ?_
            rintro _ w102 ⟨A98, c99, rfl, hl100, hc101, hC, hF, hN⟩
            clear hF hN
            refine lex.pure (v := .slice A98 ((l3_0 ++ ([l6_1] : List (List Int))).length) c99) (pu_assign rfl) ?_
            refine lex.nil ?_
            refine hK35 _ _ ?_
            refine Wc.region (by decide +kernel) ?_
            obtain ⟨z103, h104, hb⟩ := bd hb
            refine lex.pure (v := .int .i64 z103) (pu_addc (a := v16_0) (b := 1) e16 rfl h104) ?_
            refine lex.pure (v := .int .i64 z103) (pu_move rfl) ?_
            refine lex.nil ?_
            obtain rfl := Option.some.inj hb
            exact hK27 m28' _ _ (Nat.lt_succ_self _) ⟨(l3_0 ++ ([l6_1] : List (List Int))), z103, qf20_1, A98, (l3_0 ++ ([l6_1] : List (List Int))).length, c99, e0, e2, rfl, e4, e15, rfl, (chk_rng h104), hC.sel [1, 2, 3] (by decide), lN hl0⟩
          · replace hb := (cF hq89).symm.trans hb
            refine Wc.skip ?_
            refine hK35 _ _ ?_
            refine Wc.region (by decide +kernel) ?_
            obtain ⟨z105, h106, hb⟩ := bd hb
            refine lex.pure (v := .int .i64 z105) (pu_addc (a := v16_0) (b := 1) e16 rfl h106) ?_
            refine lex.pure (v := .int .i64 z105) (pu_move rfl) ?_
            refine lex.nil ?_
            obtain rfl := Option.some.inj hb
            exact hK27 m28' _ _ (Nat.lt_succ_self _) ⟨l3_0, z105, qf20_1, Al3_0, l3_0.length, cl3_0, e0, e2, e3, e4, e15, rfl, (chk_rng h106), hC.sel [0, 1, 2] (by decide), lN hl0⟩
      · replace hb := (cF hq34).symm.trans hb
        refine Wc.exit rfl ?_
        obtain rfl := Option.some.inj hb
        obtain rfl := (lX hl0).symm
        exact hK26 _ _ ⟨l3_0, v16_0, qf20_0, Al3_0, l3_0.length, cl3_0, e2, e3, hrv16_0, hC.sel [1] (by decide), hbK0⟩
    · clear hb hC hl0
      rintro E108 w107 ⟨l3_0, v16_0, qf20_0, Al3_0, ml3_0, cl3_0, e2, e3, hrv16_0, hC, hb⟩
      obtain ⟨rfl, hll3_0, hcl3_0⟩ := (hC.ow (i := 0) rfl).sl_len
      refine hK21 _ _ ?_
      refine Wc.seq fun K109 hK109 => ?_
      refine Wc.region (by decide +kernel) ?_
      refine lex.pure (v := .slice Al3_0 l3_0.length cl3_0) (pu_move e3) ?_
      refine lex.pure (v := .slice Al3_0 l3_0.length cl3_0) (pu_assign rfl) ?_
      refine lex.nil ?_
      refine hK109 _ _ ?_
      obtain rfl := Option.some.inj hb
      refine Wc.ret ?_
      refine hKR _ _ ?_
      refine ⟨_, res1 Try.results39 (show RV _ _ _ (.tmp _) (.slice Al3_0 l3_0.length cl3_0) from rfl), _, rfl, Al3_0, l3_0.length, cl3_0, rfl, hC.sel [0] (by decide)⟩
end Go.Proofs.Ytlkmcbgkohpmiaa
