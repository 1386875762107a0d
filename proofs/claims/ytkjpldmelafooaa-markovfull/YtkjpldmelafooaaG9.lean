/- The walks: part 9. -/
import Derived.Test.YtkjpldmelafooaaS
import Derived.Test.YtkjpldmelafooaaG3
import Derived.Test.YtkjpldmelafooaaG4
set_option linter.unusedVariables false
set_option linter.unusedSimpArgs false
namespace Go.Proofs.Ytkjpldmelafooaa
open Ev
set_option maxRecDepth 100000 in
set_option maxHeartbeats 4000000 in
theorem law36_MarkovFull_c1_ok (n : Nat) {w : World} {O0 : List Nat} (hO : ∀ k ∈ O0, k < w.heap.size) {x_0 : Int} (hx_0 : I64 x_0) {by_1 : Int} (hby_1 : I64 by_1) {gu_2 : Nat} {u_2_0 : Int} (hu_2_0 : I64 u_2_0) (hio : Tk O0 w [.box gu_2 3 [.int .i64 u_2_0]]) {r : Bool} (hb : F.law36_MarkovFull_c1 n x_0 by_1 u_2_0 = some r) :
    Calls Try.prog 18 #[.int .i64 x_0, .int .i64 by_1, .pointer (some ⟨gu_2, 0, none⟩)] w fun e w' => ∃ v, e = .returned v ∧ v = .bool r ∧ Cx (fun k => k ∈ blocks [.box gu_2 3 [.int .i64 u_2_0]]) O0 w w' [.box gu_2 3 [.int .i64 u_2_0]] := by
  unfold F.law36_MarkovFull_c1 at hb
  have hC := Cx.startTk hO hio
  have hsub := hio.2.2
  clear hO
  clear hio hsub
  obtain ⟨I, hI, hC⟩ : ∃ I : Nat → Prop, I = (fun k => k ∈ blocks [.box gu_2 3 [.int .i64 u_2_0]]) ∧ Cx I O0 w w [.box gu_2 3 [.int .i64 u_2_0]] := ⟨_, rfl, hC⟩
  refine calls_of_Wc Try.func18 rfl (by rw [Try.ntmps18]; exact Nat.le_of_ble_eq_true rfl) fun KR hKR => ?_
  refine Wc.seq fun K2 hK2 => ?_
  refine Wc.region (by decide +kernel) ?_
  refine lex.pure (v := .bool false) (pu_assign rfl) ?_
  refine lex.nil ?_
  refine hK2 _ _ ?_
  refine Wc.seq fun K3 hK3 => ?_
  refine Wc.seq fun K4 hK4 => ?_
  refine Wc.region (by decide +kernel) ?_
  refine lex.val (v := .int .i64 u_2_0) (ld_one Try.isAgg3 rfl ((hC.bx (i := 0) rfl).cell (j := 0) rfl)) ?_
  refine lex.pure (v := .int .i64 by_1) (pu_move rfl) ?_
  obtain ⟨z5, h6, hb⟩ := bd hb
  refine lex.pure (v := .int .i64 z5) (pu_addc (a := u_2_0) (b := by_1) rfl rfl h6) ?_
  refine lex.pure (v := .bool (decide (200 < z5))) (pu_gtr (k := .i64) (a := z5) (b := 200) rfl rfl) ?_
  refine lex.nil ?_
  refine hK4 _ _ ?_
  refine Wc.cond (t := (decide (200 < z5))) (rfl) (fun hq7 => ?_) (fun hq7 => ?_)
  · replace hb := (cT hq7).symm.trans hb
    refine Wc.seq fun K8 hK8 => ?_
    refine Wc.region (by decide +kernel) ?_
    refine lex.pure (v := .int .i64 x_0) (pu_move rfl) ?_
    refine lex.pure (v := .bool (decide (x_0 = 5))) (pu_eql (k := .i64) (a := x_0) (b := 5) rfl rfl) ?_
    refine lex.pure (v := .bool (decide (x_0 = 5))) (pu_assign rfl) ?_
    refine lex.nil ?_
    refine hK8 _ _ ?_
    obtain rfl := Option.some.inj hb
    subst hI
    refine Wc.ret ?_
    refine hKR _ _ ?_
    refine ⟨_, res1 Try.results18 (show RV _ _ _ (.tmp _) (.bool (decide (x_0 = 5))) from rfl), _, rfl, rfl, hC.sel [0] (by decide)⟩
  · replace hb := (cF hq7).symm.trans hb
    refine Wc.skip ?_
    refine hK3 _ _ ?_
    refine Wc.seq fun K9 hK9 => ?_
    refine Wc.region (by decide +kernel) ?_
    refine lex.pure (v := .int .i64 x_0) (pu_move rfl) ?_
    refine lex.pure (v := .bool (decide (x_0 = 0))) (pu_eql (k := .i64) (a := x_0) (b := 0) rfl rfl) ?_
    refine lex.pure (v := .bool (decide (x_0 = 0))) (pu_assign rfl) ?_
    refine lex.nil ?_
    refine hK9 _ _ ?_
    obtain rfl := Option.some.inj hb
    subst hI
    refine Wc.ret ?_
    refine hKR _ _ ?_
    refine ⟨_, res1 Try.results18 (show RV _ _ _ (.tmp _) (.bool (decide (x_0 = 0))) from rfl), _, rfl, rfl, hC.sel [0] (by decide)⟩

set_option maxRecDepth 100000 in
set_option maxHeartbeats 4000000 in
theorem law36_MarkovFull_ok (n : Nat) {w : World} {O0 : List Nat} (hO : ∀ k ∈ O0, k < w.heap.size) {letters_0 : Int} (hletters_0 : IntKind.u8.wrap letters_0 = letters_0) {one_1 : Bool} {r : Bool} (hb : F.law36_MarkovFull n letters_0 one_1 = some r) :
    Calls Try.prog 5 #[.int .u8 letters_0, .bool one_1] w fun e w' => ∃ v, e = .returned v ∧ v = .bool r ∧ Cx (fun _ => False) O0 w w' [] := by
  unfold F.law36_MarkovFull at hb
  have hC := Cx.start hO
  clear hO
  refine calls_of_Wc Try.func5 rfl (by rw [Try.ntmps5]; exact Nat.le_of_ble_eq_true rfl) fun KR hKR => ?_
  refine Wc.seq fun K1 hK1 => ?_
  refine Wc.region (by decide +kernel) ?_
  refine lex.pure (v := .bool false) (pu_assign rfl) ?_
  refine lex.nil ?_
  refine hK1 _ _ ?_
  refine Wc.seq fun K2 hK2 => ?_
  refine Wc.seq fun K3 hK3 => ?_
  refine Wc.region (by decide +kernel) ?_
  obtain ⟨y4, h5, hb⟩ := bd hb
  refine lex.cl (⟨_, _, op_call (vs := []) Try.call11 rfl rfl rfl, law36_awake_ok n hC.lt  h5⟩) ?_
  rintro _ w6 ⟨rfl, hK⟩
  replace hC := hC.merge hK
  clear hK
  refine lex.pure (v := .bool (!y4)) (pu_not (q := y4) rfl) ?_
  refine lex.nil ?_
  refine hK3 _ _ ?_
  refine Wc.cond (t := (!y4)) (rfl) (fun hq7 => ?_) (fun hq7 => ?_)
  · replace hb := (cT hq7).symm.trans hb
    refine Wc.seq fun K8 hK8 => ?_
    refine Wc.region (by decide +kernel) ?_
    refine lex.pure (v := .bool false) (pu_assign rfl) ?_
    refine lex.nil ?_
    refine hK8 _ _ ?_
    obtain rfl := Option.some.inj hb
    refine Wc.ret ?_
    refine hKR _ _ ?_
    refine ⟨_, res1 Try.results5 (show RV _ _ _ (.tmp _) (.bool false) from rfl), _, rfl, rfl, hC.sel [] (by decide)⟩
  · replace hb := (cF hq7).symm.trans hb
    refine Wc.skip ?_
    refine hK2 _ _ ?_
    refine Wc.seq fun K9 hK9 => ?_
    refine Wc.region (by decide +kernel) ?_
    refine lex.pure (v := .int .u8 letters_0) (pu_move rfl) ?_
    refine lex.pure (v := .int .i64 letters_0) (pu_conv (k := .u8) (a := letters_0) Try.underlying5 Try.underlying3 rfl (small_u8 hletters_0).wr) ?_
    obtain ⟨u10, h11, hb⟩ := bd hb
    refine lex.pure (v := .int .i64 (Int.tmod letters_0 4)) (pu_remc (a := letters_0) (b := 4) rfl rfl h11) ?_
    obtain ⟨z12, h13, hb⟩ := bd hb
    refine lex.pure (v := .int .i64 z12) (pu_addc (a := 197) (b := (Int.tmod letters_0 4)) rfl rfl h13) ?_
    refine lex.op (hC.alloc (cs := [.int .i64 0]) Try.zeroValue3 rfl) ?_
    rintro _ w15 ⟨g14, rfl, hC, hF, hG⟩
    clear hG
    refine lex.sk (hC.setf (i := 0) (k := 0) (v := .int .i64 z12) rfl Try.sizeOf3 rfl (by rw [Addr.add_zero']; exact rfl) rfl rfl) ?_
    rintro w17 ⟨hC, hF⟩
    refine lex.nil ?_
    refine hK9 _ _ ?_
    refine Wc.seq fun K18 hK18 => ?_
    refine Wc.region (by decide +kernel) ?_
    refine lex.pure (v := .agg #[.int .i64 3, .slice none 0 0]) (pu_builds (places := [(0, 1), (1, 1)]) (pv := [(0, .int .i64 3)]) Try.type27 Try.underlying27 rfl (mp_cons Try.type3 (mp_cons Try.type22 mp_nil rfl rfl) rfl rfl) rfl (by simp [Instr.fill, Value.cells])) ?_
    refine lex.op (hC.alloc (cs := [.int .i64 0, .slice none 0 0]) Try.zeroValue27 rfl) ?_
    rintro _ w20 ⟨g19, rfl, hC, hF, hG⟩
    clear hG
    refine lex.sk (hC.seta (i := 0) (ds := [.int .i64 3, .slice none 0 0]) rfl Try.type27 rfl rfl rfl rfl rfl) ?_
    rintro w22 ⟨hC, hF⟩
    refine lex.nil ?_
    refine hK18 _ _ ?_
    refine Wc.fresh fun E23 hE => ?_
    have e4 : E23 4 = .bool false := (congrFun hE 4).trans rfl
    have e5 : E23 5 = .pointer (some ⟨g14, 0, none⟩) := (congrFun hE 5).trans rfl
    have e6 : E23 6 = .pointer (some ⟨g19, 0, none⟩) := (congrFun hE 6).trans rfl
    clear hE
    refine Wc.seq fun K24 hK24 => ?_
    refine Wc.seq fun K25 hK25 => ?_
    refine Wc.region (by decide +kernel) ?_
    refine lex.val (v := .int .i64 z12) (ld_one Try.isAgg3 e5 ((hC.bx (i := 1) rfl).cell (j := 0) rfl)) ?_
    refine lex.pure (v := .int .i64 0) (pu_move rfl) ?_
    refine lex.nil ?_
    refine hK25 _ _ ?_
    replace hC := hC.nil 3 (.int .i64)
    obtain ⟨o27, hl0, hb⟩ := bd hb
    refine Wc.cut (fun E wv => ∃ (v28_0 : Int) (kf21_1_0 : List Int) (Akf21_1_0 : Option Addr) (mkf21_1_0 ckf21_1_0 : Nat), E 4 = .bool false ∧ E 5 = .pointer (some ⟨g14, 0, none⟩) ∧ E 6 = .pointer (some ⟨g19, 0, none⟩) ∧ I64 v28_0 ∧ Cx (fun _ => False) O0 w wv [.box g14 3 [.int .i64 z12], .box g19 27 [.int .i64 3, .slice Akf21_1_0 mkf21_1_0 ckf21_1_0], .own 3 (.int .i64) (.slice Akf21_1_0 mkf21_1_0 ckf21_1_0) kf21_1_0] ∧ ((F.ref33_Valid n 3 kf21_1_0).bind fun y58 => cond (!y58) (some false) ((F.markov_Apply n 3 kf21_1_0 6 2 0).bind fun y64 => (F.markov_Apply n 3 kf21_1_0 1 (-1) 0).bind fun y88 => (F.markov_Apply n 3 kf21_1_0 2 1 0).bind fun y112 => (F.markov_Apply n 10 ([]) 2 1 0).bind fun y136 => (F.law36_MarkovFull_c1 n y64.2.2.2.2.2 2 z12).bind fun y161 => cond y161 ((F.law36_MarkovFull_c1 n y88.2.2.2.2.2 2 z12).bind fun y165 => cond y165 ((F.law36_MarkovFull_c1 n y112.2.2.2.2.2 1 z12).bind fun y169 => cond y169 (some (decide (y136.2.2.2.2.2 = 5))) (some false)) (some false)) (some false))) = some r) (fun K28 hK28 => ?_) ?_
    · refine Wc.block ?_
      refine Wc.loop (fun m E wv => ∃ (v28_0 : Int) (kf21_1_0 : List Int) (Akf21_1_0 : Option Addr) (mkf21_1_0 ckf21_1_0 : Nat), E 4 = .bool false ∧ E 5 = .pointer (some ⟨g14, 0, none⟩) ∧ E 6 = .pointer (some ⟨g19, 0, none⟩) ∧ E 27 = .int .i64 z12 ∧ E 28 = .int .i64 v28_0 ∧ I64 v28_0 ∧ Cx (fun _ => False) O0 w wv [.box g14 3 [.int .i64 z12], .box g19 27 [.int .i64 3, .slice Akf21_1_0 mkf21_1_0 ckf21_1_0], .own 3 (.int .i64) (.slice Akf21_1_0 mkf21_1_0 ckf21_1_0) kf21_1_0] ∧ loopN m (F.law36_MarkovFull_b0 n z12) (v28_0, kf21_1_0) = some o27) n ⟨0, ([] : List Int), none, 0, 0, e4, e5, e6, rfl, rfl, (show I64 0 from by unfold I64; omega), hC.sel [2, 1, 0] (by decide), hl0⟩ ?_
      have hbK0 := hb
      clear hb hC hl0
      rintro m30 E32 w31 ⟨v28_0, kf21_1_0, Akf21_1_0, mkf21_1_0, ckf21_1_0, e4, e5, e6, e27, e28, hrv28_0, hC, hl0⟩ K29 hK29
      obtain ⟨m30', o33, rfl, hb, hl0⟩ := loopN_some hl0
      unfold F.law36_MarkovFull_b0 at hb
      obtain ⟨rfl, hlkf21_1_0, hckf21_1_0⟩ := (hC.ow (i := 2) rfl).sl_len
      refine Wc.seq fun K34 hK34 => ?_
      refine Wc.region (by decide +kernel) ?_
      refine lex.pure (v := .bool (decide (v28_0 < z12))) (pu_lss (k := .i64) (a := v28_0) (b := z12) e28 e27) ?_
      refine lex.nil ?_
      refine hK34 _ _ ?_
      refine Wc.seq fun K35 hK35 => ?_
      refine Wc.cond (t := (decide (v28_0 < z12))) (rfl) (fun hq36 => ?_) (fun hq36 => ?_)
      · replace hb := (cT hq36).symm.trans hb
        refine Wc.skip ?_
        refine hK35 _ _ ?_
        refine Wc.seq fun K37 hK37 => ?_
        refine Wc.block ?_
        refine Wc.region (by decide +kernel) ?_
        refine lex.pure (v := .pointer (some ((⟨g19, 0, none⟩ : Addr).add 1))) (pu_field (sz := 1) Try.underlying27 rfl Try.sizeOf22 (by decide) rfl e6) ?_
        refine lex.val (v := .slice Akf21_1_0 kf21_1_0.length ckf21_1_0) (ld_fld (hC.bx (i := 1) rfl) Try.isAgg22 rfl rfl) ?_
        refine lex.op (hC.lit (s := (.int .i64)) (vs := [.int .i64 1]) (xs := [1]) Try.underlying22 Try.type3 rfl rfl (Nat.le_of_ble_eq_true rfl) rfl rfl (by simp [Value.cells, Sh.n]) rfl (show Elems _ _ (.int .i64) ([.int .i64 1] ++ ([])) ([1] : List Int) from Elems.cons (⟨rfl, I64.wr (show I64 1 from by unfold I64; omega)⟩) (Elems.nil _ _ _))) ?_
        rintro _ w42 ⟨A38, c39, rfl, hl40, hc41, hC, hF, hN⟩
        clear hF hN
        obtain ⟨u44, h45, hb⟩ := bd hb
        refine lex.op (hC.app (i := 3) (s := (.int .i64)) (xs := kf21_1_0) (ys := ([1] : List Int)) (m := ((([1] : List Int)).length)) rfl Try.underlying22 Try.underlying22 Try.type3 rfl rfl rfl (hC.srco (i := 0) rfl) rfl rfl (by have := lim_some h45; simp at this ⊢; omega) (by decide)) ?_
        rintro _ w50 ⟨A46, c47, rfl, hl48, hc49, hC, hF, hN⟩
        clear hF hN
        refine lex.pure (v := .pointer (some ((⟨g19, 0, none⟩ : Addr).add 1))) (pu_field (sz := 1) Try.underlying27 rfl Try.sizeOf22 (by decide) rfl e6) ?_
        refine lex.sk (hC.setf (i := 2) (k := 1) (v := .slice A46 ((kf21_1_0 ++ ([1] : List Int)).length) c47) rfl Try.sizeOf22 rfl rfl rfl rfl) ?_
        rintro w51 ⟨hC, hF⟩
        refine lex.nil ?_
        refine hK37 _ _ ?_
        refine Wc.region (by decide +kernel) ?_
        obtain ⟨z52, h53, hb⟩ := bd hb
        refine lex.pure (v := .int .i64 z52) (pu_addc (a := v28_0) (b := 1) e28 rfl h53) ?_
        refine lex.pure (v := .int .i64 z52) (pu_move rfl) ?_
        refine lex.nil ?_
        obtain rfl := Option.some.inj hb
        exact hK29 m30' _ _ (Nat.lt_succ_self _) ⟨z52, (kf21_1_0 ++ ([1] : List Int)), A46, (kf21_1_0 ++ ([1] : List Int)).length, c47, e4, e5, e6, e27, rfl, (chk_rng h53), hC.sel [1, 2, 3] (by decide), lN hl0⟩
      · replace hb := (cF hq36).symm.trans hb
        refine Wc.exit rfl ?_
        obtain rfl := Option.some.inj hb
        obtain rfl := lX hl0
        exact hK28 _ _ ⟨v28_0, kf21_1_0, Akf21_1_0, kf21_1_0.length, ckf21_1_0, e4, e5, e6, hrv28_0, hC.sel [0, 1, 2] (by decide), hbK0⟩
    · clear hb hC hl0
      rintro E55 w54 ⟨v28_0, kf21_1_0, Akf21_1_0, mkf21_1_0, ckf21_1_0, e4, e5, e6, hrv28_0, hC, hb⟩
      obtain ⟨rfl, hlkf21_1_0, hckf21_1_0⟩ := (hC.ow (i := 2) rfl).sl_len
      refine hK24 _ _ ?_
      refine Wc.seq fun K56 hK56 => ?_
      refine Wc.seq fun K57 hK57 => ?_
      refine Wc.region (by decide +kernel) ?_
      refine lex.pure (v := .pointer (some ((⟨g19, 0, none⟩ : Addr).add 0))) (pu_field (sz := 1) Try.underlying27 rfl Try.sizeOf3 (by decide) rfl e6) ?_
      refine lex.val (v := .int .i64 3) (ld_fld (hC.bx (i := 1) rfl) Try.isAgg3 rfl rfl) ?_
      refine lex.pure (v := .pointer (some ((⟨g19, 0, none⟩ : Addr).add 1))) (pu_field (sz := 1) Try.underlying27 rfl Try.sizeOf22 (by decide) rfl e6) ?_
      refine lex.val (v := .slice Akf21_1_0 kf21_1_0.length ckf21_1_0) (ld_fld (hC.bx (i := 1) rfl) Try.isAgg22 rfl rfl) ?_
      obtain ⟨y58, h59, hb⟩ := bd hb
      refine lex.cl (⟨_, _, op_call (vs := [.int .i64 3, .slice Akf21_1_0 kf21_1_0.length ckf21_1_0]) Try.call17 rfl rfl rfl, ref33_Valid_ok n (hC.lentLt [.slice Akf21_1_0 kf21_1_0.length ckf21_1_0]) (show I64 3 from by unfold I64; omega) ((hC.ow (i := 2) rfl).lend (vs := [.slice Akf21_1_0 kf21_1_0.length ckf21_1_0]) (by simp)) h59⟩) ?_
      rintro _ w60 ⟨rfl, hK⟩
      replace hC := hC.mergeF hK rfl
      clear hK
      refine lex.pure (v := .bool (!y58)) (pu_not (q := y58) rfl) ?_
      refine lex.nil ?_
      refine hK57 _ _ ?_
      refine Wc.cond (t := (!y58)) (rfl) (fun hq61 => ?_) (fun hq61 => ?_)
      · replace hb := (cT hq61).symm.trans hb
        refine Wc.seq fun K62 hK62 => ?_
        refine Wc.region (by decide +kernel) ?_
        refine lex.pure (v := .bool false) (pu_assign rfl) ?_
        refine lex.nil ?_
        refine hK62 _ _ ?_
        obtain rfl := Option.some.inj hb
        refine Wc.ret ?_
        refine hKR _ _ ?_
        refine ⟨_, res1 Try.results5 (show RV _ _ _ (.tmp _) (.bool false) from rfl), _, rfl, rfl, hC.sel [] (by decide)⟩
      · replace hb := (cF hq61).symm.trans hb
        refine Wc.skip ?_
        refine hK56 _ _ ?_
        refine Wc.seq fun K63 hK63 => ?_
        refine Wc.region (by decide +kernel) ?_
        refine lex.val (v := .agg #[.int .i64 3, .slice Akf21_1_0 kf21_1_0.length ckf21_1_0]) (ld_blk (hC.bx (i := 1) rfl) Try.isAgg27 Try.sizeOf27 e6) ?_
        refine lex.pure (v := .agg #[.int .i64 6, .int .i64 2, .int .i64 0]) (pu_builds (places := [(0, 1), (1, 1), (2, 1)]) (pv := [(0, .int .i64 6), (1, .int .i64 2)]) Try.type28 Try.underlying28 rfl (mp_cons Try.type3 (mp_cons Try.type3 (mp_cons Try.type3 mp_nil rfl rfl) rfl rfl) rfl rfl) rfl (by simp [Instr.fill, Value.cells])) ?_
        replace hC := hC.freeze (i := 2) rfl (hC.own_new (i := 2) rfl)
        obtain ⟨y64, h65, hb⟩ := bd hb
        refine lex.cl (⟨_, _, op_call (vs := [.agg #[.int .i64 3, .slice Akf21_1_0 kf21_1_0.length ckf21_1_0], .agg #[.int .i64 6, .int .i64 2, .int .i64 0]]) Try.call12 rfl rfl rfl, markov_Apply_ok n hC.lt (show I64 3 from by unfold I64; omega) (hC.rd (i := 2) rfl) (show I64 6 from by unfold I64; omega) (show I64 2 from by unfold I64; omega) (show I64 0 from by unfold I64; omega) h65⟩) ?_
        rintro _ w75 ⟨A67, m68, c69, rfl, hr66, hr71, hr72, hr73, hr74, hK⟩
        replace hC := hC.merge hK
        clear hK
        obtain ⟨rfl, hl76, hc77⟩ := (hC.rd (i := 0) rfl).sl_len
        refine lex.pure (v := .tuple #[.agg #[.int .i64 y64.1, .slice A67 y64.2.1.length c69], .agg #[.int .i64 y64.2.2.1, .int .i64 y64.2.2.2.1, .int .i64 y64.2.2.2.2.1], .int .i64 y64.2.2.2.2.2]) (pu_move rfl) ?_
        refine lex.pure (v := .agg #[.int .i64 y64.1, .slice A67 y64.2.1.length c69]) (pu_extract rfl rfl) ?_
        refine lex.pure (v := .agg #[.int .i64 y64.2.2.1, .int .i64 y64.2.2.2.1, .int .i64 y64.2.2.2.2.1]) (pu_extract rfl rfl) ?_
        refine lex.pure (v := .int .i64 y64.2.2.2.2.2) (pu_extract rfl rfl) ?_
        refine lex.op (hC.alloc (cs := [.int .i64 0, .slice none 0 0]) Try.zeroValue27 rfl) ?_
        rintro _ w79 ⟨g78, rfl, hC, hF, hG⟩
        clear hG
        refine lex.op (hC.alloc (cs := [.int .i64 0, .int .i64 0, .int .i64 0]) Try.zeroValue28 rfl) ?_
        rintro _ w82 ⟨g81, rfl, hC, hF, hG⟩
        clear hG
        refine lex.sk (hC.seta (i := 1) (ds := [.int .i64 y64.1, .slice A67 y64.2.1.length c69]) rfl Try.type27 rfl rfl rfl rfl rfl) ?_
        rintro w84 ⟨hC, hF⟩
        refine lex.sk (hC.seta (i := 0) (ds := [.int .i64 y64.2.2.1, .int .i64 y64.2.2.2.1, .int .i64 y64.2.2.2.2.1]) rfl Try.type28 rfl rfl rfl rfl rfl) ?_
        rintro w85 ⟨hC, hF⟩
        refine lex.pure (v := .int .i64 y64.2.2.2.2.2) (pu_assign rfl) ?_
        refine lex.nil ?_
        refine hK63 _ _ ?_
        refine Wc.fresh fun E86 hE => ?_
        have e4 : E86 4 = .bool false := (congrFun hE 4).trans e4
        have e5 : E86 5 = .pointer (some ⟨g14, 0, none⟩) := (congrFun hE 5).trans e5
        have e6 : E86 6 = .pointer (some ⟨g19, 0, none⟩) := (congrFun hE 6).trans e6
        have e9 : E86 9 = .int .i64 y64.2.2.2.2.2 := (congrFun hE 9).trans rfl
        clear hE
        refine Wc.seq fun K87 hK87 => ?_
        refine Wc.region (by decide +kernel) ?_
        refine lex.val (v := .agg #[.int .i64 3, .slice Akf21_1_0 kf21_1_0.length ckf21_1_0]) (ld_blk (hC.bx (i := 4) rfl) Try.isAgg27 Try.sizeOf27 e6) ?_
        refine lex.pure (v := .agg #[.int .i64 1, .int .i64 (-1), .int .i64 0]) (pu_builds (places := [(0, 1), (1, 1), (2, 1)]) (pv := [(0, .int .i64 1), (1, .int .i64 (-1))]) Try.type28 Try.underlying28 rfl (mp_cons Try.type3 (mp_cons Try.type3 (mp_cons Try.type3 mp_nil rfl rfl) rfl rfl) rfl rfl) rfl (by simp [Instr.fill, Value.cells])) ?_
        obtain ⟨y88, h89, hb⟩ := bd hb
        refine lex.cl (⟨_, _, op_call (vs := [.agg #[.int .i64 3, .slice Akf21_1_0 kf21_1_0.length ckf21_1_0], .agg #[.int .i64 1, .int .i64 (-1), .int .i64 0]]) Try.call12 rfl rfl rfl, markov_Apply_ok n hC.lt (show I64 3 from by unfold I64; omega) (hC.rd (i := 5) rfl) (show I64 1 from by unfold I64; omega) (show I64 (-1) from by unfold I64; omega) (show I64 0 from by unfold I64; omega) h89⟩) ?_
        rintro _ w99 ⟨A91, m92, c93, rfl, hr90, hr95, hr96, hr97, hr98, hK⟩
        replace hC := hC.merge hK
        clear hK
        obtain ⟨rfl, hl100, hc101⟩ := (hC.rd (i := 0) rfl).sl_len
        refine lex.pure (v := .tuple #[.agg #[.int .i64 y88.1, .slice A91 y88.2.1.length c93], .agg #[.int .i64 y88.2.2.1, .int .i64 y88.2.2.2.1, .int .i64 y88.2.2.2.2.1], .int .i64 y88.2.2.2.2.2]) (pu_move rfl) ?_
        refine lex.pure (v := .agg #[.int .i64 y88.1, .slice A91 y88.2.1.length c93]) (pu_extract rfl rfl) ?_
        refine lex.pure (v := .agg #[.int .i64 y88.2.2.1, .int .i64 y88.2.2.2.1, .int .i64 y88.2.2.2.2.1]) (pu_extract rfl rfl) ?_
        refine lex.pure (v := .int .i64 y88.2.2.2.2.2) (pu_extract rfl rfl) ?_
        refine lex.op (hC.alloc (cs := [.int .i64 0, .slice none 0 0]) Try.zeroValue27 rfl) ?_
        rintro _ w103 ⟨g102, rfl, hC, hF, hG⟩
        clear hG
        refine lex.op (hC.alloc (cs := [.int .i64 0, .int .i64 0, .int .i64 0]) Try.zeroValue28 rfl) ?_
        rintro _ w106 ⟨g105, rfl, hC, hF, hG⟩
        clear hG
        refine lex.sk (hC.seta (i := 1) (ds := [.int .i64 y88.1, .slice A91 y88.2.1.length c93]) rfl Try.type27 rfl rfl rfl rfl rfl) ?_
        rintro w108 ⟨hC, hF⟩
        refine lex.sk (hC.seta (i := 0) (ds := [.int .i64 y88.2.2.1, .int .i64 y88.2.2.2.1, .int .i64 y88.2.2.2.2.1]) rfl Try.type28 rfl rfl rfl rfl rfl) ?_
        rintro w109 ⟨hC, hF⟩
        refine lex.pure (v := .int .i64 y88.2.2.2.2.2) (pu_assign rfl) ?_
        refine lex.nil ?_
        refine hK87 _ _ ?_
        refine Wc.fresh fun E110 hE => ?_
        have e4 : E110 4 = .bool false := (congrFun hE 4).trans e4
        have e5 : E110 5 = .pointer (some ⟨g14, 0, none⟩) := (congrFun hE 5).trans e5
        have e6 : E110 6 = .pointer (some ⟨g19, 0, none⟩) := (congrFun hE 6).trans e6
        have e9 : E110 9 = .int .i64 y64.2.2.2.2.2 := (congrFun hE 9).trans e9
        have e12 : E110 12 = .int .i64 y88.2.2.2.2.2 := (congrFun hE 12).trans rfl
        clear hE
        refine Wc.seq fun K111 hK111 => ?_
        refine Wc.region (by decide +kernel) ?_
        refine lex.val (v := .agg #[.int .i64 3, .slice Akf21_1_0 kf21_1_0.length ckf21_1_0]) (ld_blk (hC.bx (i := 7) rfl) Try.isAgg27 Try.sizeOf27 e6) ?_
        refine lex.pure (v := .agg #[.int .i64 2, .int .i64 1, .int .i64 0]) (pu_builds (places := [(0, 1), (1, 1), (2, 1)]) (pv := [(0, .int .i64 2), (1, .int .i64 1)]) Try.type28 Try.underlying28 rfl (mp_cons Try.type3 (mp_cons Try.type3 (mp_cons Try.type3 mp_nil rfl rfl) rfl rfl) rfl rfl) rfl (by simp [Instr.fill, Value.cells])) ?_
        obtain ⟨y112, h113, hb⟩ := bd hb
        refine lex.cl (⟨_, _, op_call (vs := [.agg #[.int .i64 3, .slice Akf21_1_0 kf21_1_0.length ckf21_1_0], .agg #[.int .i64 2, .int .i64 1, .int .i64 0]]) Try.call12 rfl rfl rfl, markov_Apply_ok n hC.lt (show I64 3 from by unfold I64; omega) (hC.rd (i := 8) rfl) (show I64 2 from by unfold I64; omega) (show I64 1 from by unfold I64; omega) (show I64 0 from by unfold I64; omega) h113⟩) ?_
        rintro _ w123 ⟨A115, m116, c117, rfl, hr114, hr119, hr120, hr121, hr122, hK⟩
        replace hC := hC.merge hK
        clear hK
        obtain ⟨rfl, hl124, hc125⟩ := (hC.rd (i := 0) rfl).sl_len
        refine lex.pure (v := .tuple #[.agg #[.int .i64 y112.1, .slice A115 y112.2.1.length c117], .agg #[.int .i64 y112.2.2.1, .int .i64 y112.2.2.2.1, .int .i64 y112.2.2.2.2.1], .int .i64 y112.2.2.2.2.2]) (pu_move rfl) ?_
        refine lex.pure (v := .agg #[.int .i64 y112.1, .slice A115 y112.2.1.length c117]) (pu_extract rfl rfl) ?_
        refine lex.pure (v := .agg #[.int .i64 y112.2.2.1, .int .i64 y112.2.2.2.1, .int .i64 y112.2.2.2.2.1]) (pu_extract rfl rfl) ?_
        refine lex.pure (v := .int .i64 y112.2.2.2.2.2) (pu_extract rfl rfl) ?_
        refine lex.op (hC.alloc (cs := [.int .i64 0, .slice none 0 0]) Try.zeroValue27 rfl) ?_
        rintro _ w127 ⟨g126, rfl, hC, hF, hG⟩
        clear hG
        refine lex.op (hC.alloc (cs := [.int .i64 0, .int .i64 0, .int .i64 0]) Try.zeroValue28 rfl) ?_
        rintro _ w130 ⟨g129, rfl, hC, hF, hG⟩
        clear hG
        refine lex.sk (hC.seta (i := 1) (ds := [.int .i64 y112.1, .slice A115 y112.2.1.length c117]) rfl Try.type27 rfl rfl rfl rfl rfl) ?_
        rintro w132 ⟨hC, hF⟩
        refine lex.sk (hC.seta (i := 0) (ds := [.int .i64 y112.2.2.1, .int .i64 y112.2.2.2.1, .int .i64 y112.2.2.2.2.1]) rfl Try.type28 rfl rfl rfl rfl rfl) ?_
        rintro w133 ⟨hC, hF⟩
        refine lex.pure (v := .int .i64 y112.2.2.2.2.2) (pu_assign rfl) ?_
        refine lex.nil ?_
        refine hK111 _ _ ?_
        refine Wc.fresh fun E134 hE => ?_
        have e4 : E134 4 = .bool false := (congrFun hE 4).trans e4
        have e5 : E134 5 = .pointer (some ⟨g14, 0, none⟩) := (congrFun hE 5).trans e5
        have e9 : E134 9 = .int .i64 y64.2.2.2.2.2 := (congrFun hE 9).trans e9
        have e12 : E134 12 = .int .i64 y88.2.2.2.2.2 := (congrFun hE 12).trans e12
        have e15 : E134 15 = .int .i64 y112.2.2.2.2.2 := (congrFun hE 15).trans rfl
        clear hE
        refine Wc.seq fun K135 hK135 => ?_
        refine Wc.region (by decide +kernel) ?_
        refine lex.pure (v := .agg #[.int .i64 10, .slice none 0 0]) (pu_builds (places := [(0, 1), (1, 1)]) (pv := [(0, .int .i64 10)]) Try.type27 Try.underlying27 rfl (mp_cons Try.type3 (mp_cons Try.type22 mp_nil rfl rfl) rfl rfl) rfl (by simp [Instr.fill, Value.cells])) ?_
        refine lex.pure (v := .agg #[.int .i64 2, .int .i64 1, .int .i64 0]) (pu_builds (places := [(0, 1), (1, 1), (2, 1)]) (pv := [(0, .int .i64 2), (1, .int .i64 1)]) Try.type28 Try.underlying28 rfl (mp_cons Try.type3 (mp_cons Try.type3 (mp_cons Try.type3 mp_nil rfl rfl) rfl rfl) rfl rfl) rfl (by simp [Instr.fill, Value.cells])) ?_
        obtain ⟨y136, h137, hb⟩ := bd hb
        refine lex.cl (⟨_, _, op_call (vs := [.agg #[.int .i64 10, .slice none 0 0], .agg #[.int .i64 2, .int .i64 1, .int .i64 0]]) Try.call12 rfl rfl rfl, markov_Apply_ok n hC.lt (show I64 10 from by unfold I64; omega) ((show Rep _ _ (.sl (.int .i64)) [.slice none 0 0] ([] : List Int) from ⟨none, 0, rfl, Nat.le_refl _, by omega, fun h => absurd h (by simp)⟩)) (show I64 2 from by unfold I64; omega) (show I64 1 from by unfold I64; omega) (show I64 0 from by unfold I64; omega) h137⟩) ?_
        rintro _ w147 ⟨A139, m140, c141, rfl, hr138, hr143, hr144, hr145, hr146, hK⟩
        replace hC := hC.merge hK
        clear hK
        obtain ⟨rfl, hl148, hc149⟩ := (hC.rd (i := 0) rfl).sl_len
        refine lex.pure (v := .tuple #[.agg #[.int .i64 y136.1, .slice A139 y136.2.1.length c141], .agg #[.int .i64 y136.2.2.1, .int .i64 y136.2.2.2.1, .int .i64 y136.2.2.2.2.1], .int .i64 y136.2.2.2.2.2]) (pu_move rfl) ?_
        refine lex.pure (v := .agg #[.int .i64 y136.1, .slice A139 y136.2.1.length c141]) (pu_extract rfl rfl) ?_
        refine lex.pure (v := .agg #[.int .i64 y136.2.2.1, .int .i64 y136.2.2.2.1, .int .i64 y136.2.2.2.2.1]) (pu_extract rfl rfl) ?_
        refine lex.pure (v := .int .i64 y136.2.2.2.2.2) (pu_extract rfl rfl) ?_
        refine lex.op (hC.alloc (cs := [.int .i64 0, .slice none 0 0]) Try.zeroValue27 rfl) ?_
        rintro _ w151 ⟨g150, rfl, hC, hF, hG⟩
        clear hG
        refine lex.op (hC.alloc (cs := [.int .i64 0, .int .i64 0, .int .i64 0]) Try.zeroValue28 rfl) ?_
        rintro _ w154 ⟨g153, rfl, hC, hF, hG⟩
        clear hG
        refine lex.sk (hC.seta (i := 1) (ds := [.int .i64 y136.1, .slice A139 y136.2.1.length c141]) rfl Try.type27 rfl rfl rfl rfl rfl) ?_
        rintro w156 ⟨hC, hF⟩
        refine lex.sk (hC.seta (i := 0) (ds := [.int .i64 y136.2.2.1, .int .i64 y136.2.2.2.1, .int .i64 y136.2.2.2.2.1]) rfl Try.type28 rfl rfl rfl rfl rfl) ?_
        rintro w157 ⟨hC, hF⟩
        refine lex.pure (v := .int .i64 y136.2.2.2.2.2) (pu_assign rfl) ?_
        refine lex.nil ?_
        refine hK135 _ _ ?_
        refine Wc.fresh fun E158 hE => ?_
        have e4 : E158 4 = .bool false := (congrFun hE 4).trans e4
        have e5 : E158 5 = .pointer (some ⟨g14, 0, none⟩) := (congrFun hE 5).trans e5
        have e9 : E158 9 = .int .i64 y64.2.2.2.2.2 := (congrFun hE 9).trans e9
        have e12 : E158 12 = .int .i64 y88.2.2.2.2.2 := (congrFun hE 12).trans e12
        have e15 : E158 15 = .int .i64 y112.2.2.2.2.2 := (congrFun hE 15).trans e15
        have e18 : E158 18 = .int .i64 y136.2.2.2.2.2 := (congrFun hE 18).trans rfl
        clear hE
        refine Wc.seq fun K159 hK159 => ?_
        refine Wc.region (by decide +kernel) ?_
        refine lex.pure (v := .func (.func 18) #[] #[.pointer (some ⟨g14, 0, none⟩)]) (pu_funcc (map_of (m2_cons e5 m2_nil))) ?_
        refine lex.pure (v := .func (.func 18) #[] #[.pointer (some ⟨g14, 0, none⟩)]) (pu_assign rfl) ?_
        refine lex.nil ?_
        refine hK159 _ _ ?_
        refine Wc.seq fun K160 hK160 => ?_
        refine Wc.region (by decide +kernel) ?_
        refine lex.pure (v := .func (.func 18) #[] #[.pointer (some ⟨g14, 0, none⟩)]) (pu_move rfl) ?_
        refine lex.pure (v := .int .i64 y64.2.2.2.2.2) (pu_move e9) ?_
        replace hC : Cx (fun _ => False) O0 w w157 ([.box g14 3 [.int .i64 z12]] ++ [.box g153 28 [.int .i64 y136.2.2.1, .int .i64 y136.2.2.2.1, .int .i64 y136.2.2.2.2.1], .box g150 27 [.int .i64 y136.1, .slice A139 y136.2.1.length c141], .ro (.sl (.int .i64)) [.slice A139 y136.2.1.length c141] y136.2.1, .box g129 28 [.int .i64 y112.2.2.1, .int .i64 y112.2.2.2.1, .int .i64 y112.2.2.2.2.1], .box g126 27 [.int .i64 y112.1, .slice A115 y112.2.1.length c117], .ro (.sl (.int .i64)) [.slice A115 y112.2.1.length c117] y112.2.1, .box g105 28 [.int .i64 y88.2.2.1, .int .i64 y88.2.2.2.1, .int .i64 y88.2.2.2.2.1], .box g102 27 [.int .i64 y88.1, .slice A91 y88.2.1.length c93], .ro (.sl (.int .i64)) [.slice A91 y88.2.1.length c93] y88.2.1, .box g81 28 [.int .i64 y64.2.2.1, .int .i64 y64.2.2.2.1, .int .i64 y64.2.2.2.2.1], .box g78 27 [.int .i64 y64.1, .slice A67 y64.2.1.length c69], .ro (.sl (.int .i64)) [.slice A67 y64.2.1.length c69] y64.2.1, .box g19 27 [.int .i64 3, .slice Akf21_1_0 kf21_1_0.length ckf21_1_0], .ro (.sl (.int .i64)) [.slice Akf21_1_0 kf21_1_0.length ckf21_1_0] kf21_1_0]) := hC.sel [12, 0, 1, 2, 3, 4, 5, 6, 7, 8, 9, 10, 11, 13, 14] (by decide)
        obtain ⟨y161, h162, hb⟩ := bd hb
        refine lex.cl (⟨_, _, op_callv (vs := [.int .i64 y64.2.2.2.2.2, .int .i64 2, .pointer (some ⟨g14, 0, none⟩)]) (ca := #[.pointer (some ⟨g14, 0, none⟩)]) Try.call18 rfl rfl rfl, law36_MarkovFull_c1_ok n hC.lt hr74 (show I64 2 from by unfold I64; omega) (chk_rng h13) hC.give h162⟩) ?_
        rintro _ w163 ⟨rfl, hK⟩
        replace hC := hC.back hK
        clear hK
        refine lex.pure (v := .bool y161) (pu_move rfl) ?_
        rcases bS y161 with hq164 | hq164
        · replace hb := (cT hq164).symm.trans hb
          refine lex.gpure (want_t rfl rfl (show _ = Value.bool y161 from rfl) hq164) (v := .func (.func 18) #[] #[.pointer (some ⟨g14, 0, none⟩)]) (pu_move rfl) ?_
          refine lex.gpure (want_t rfl rfl (show _ = Value.bool y161 from rfl) hq164) (v := .int .i64 y88.2.2.2.2.2) (pu_move e12) ?_
          replace hC : Cx (fun _ => False) O0 w w163 ([.box g14 3 [.int .i64 z12]] ++ [.box g153 28 [.int .i64 y136.2.2.1, .int .i64 y136.2.2.2.1, .int .i64 y136.2.2.2.2.1], .box g150 27 [.int .i64 y136.1, .slice A139 y136.2.1.length c141], .ro (.sl (.int .i64)) [.slice A139 y136.2.1.length c141] y136.2.1, .box g129 28 [.int .i64 y112.2.2.1, .int .i64 y112.2.2.2.1, .int .i64 y112.2.2.2.2.1], .box g126 27 [.int .i64 y112.1, .slice A115 y112.2.1.length c117], .ro (.sl (.int .i64)) [.slice A115 y112.2.1.length c117] y112.2.1, .box g105 28 [.int .i64 y88.2.2.1, .int .i64 y88.2.2.2.1, .int .i64 y88.2.2.2.2.1], .box g102 27 [.int .i64 y88.1, .slice A91 y88.2.1.length c93], .ro (.sl (.int .i64)) [.slice A91 y88.2.1.length c93] y88.2.1, .box g81 28 [.int .i64 y64.2.2.1, .int .i64 y64.2.2.2.1, .int .i64 y64.2.2.2.2.1], .box g78 27 [.int .i64 y64.1, .slice A67 y64.2.1.length c69], .ro (.sl (.int .i64)) [.slice A67 y64.2.1.length c69] y64.2.1, .box g19 27 [.int .i64 3, .slice Akf21_1_0 kf21_1_0.length ckf21_1_0], .ro (.sl (.int .i64)) [.slice Akf21_1_0 kf21_1_0.length ckf21_1_0] kf21_1_0]) := hC.sel [0, 1, 2, 3, 4, 5, 6, 7, 8, 9, 10, 11, 12, 13, 14] (by decide)
          obtain ⟨y165, h166, hb⟩ := bd hb
          refine lex.gcl (want_t rfl rfl (show _ = Value.bool y161 from rfl) hq164) (⟨_, _, op_callv (vs := [.int .i64 y88.2.2.2.2.2, .int .i64 2, .pointer (some ⟨g14, 0, none⟩)]) (ca := #[.pointer (some ⟨g14, 0, none⟩)]) Try.call18 rfl rfl rfl, law36_MarkovFull_c1_ok n hC.lt hr98 (show I64 2 from by unfold I64; omega) (chk_rng h13) hC.give h166⟩) ?_
          rintro _ w167 ⟨rfl, hK⟩
          replace hC := hC.back hK
          clear hK
          refine lex.pure (v := .bool y165) (pu_pickT (q := y161) rfl hq164 rfl) ?_
          refine lex.pure (v := .bool y165) (pu_move rfl) ?_
          rcases bS y165 with hq168 | hq168
          · replace hb := (cT hq168).symm.trans hb
            refine lex.gpure (want_t rfl rfl (show _ = Value.bool y165 from rfl) hq168) (v := .func (.func 18) #[] #[.pointer (some ⟨g14, 0, none⟩)]) (pu_move rfl) ?_
            refine lex.gpure (want_t rfl rfl (show _ = Value.bool y165 from rfl) hq168) (v := .int .i64 y112.2.2.2.2.2) (pu_move e15) ?_
            replace hC : Cx (fun _ => False) O0 w w167 ([.box g14 3 [.int .i64 z12]] ++ [.box g153 28 [.int .i64 y136.2.2.1, .int .i64 y136.2.2.2.1, .int .i64 y136.2.2.2.2.1], .box g150 27 [.int .i64 y136.1, .slice A139 y136.2.1.length c141], .ro (.sl (.int .i64)) [.slice A139 y136.2.1.length c141] y136.2.1, .box g129 28 [.int .i64 y112.2.2.1, .int .i64 y112.2.2.2.1, .int .i64 y112.2.2.2.2.1], .box g126 27 [.int .i64 y112.1, .slice A115 y112.2.1.length c117], .ro (.sl (.int .i64)) [.slice A115 y112.2.1.length c117] y112.2.1, .box g105 28 [.int .i64 y88.2.2.1, .int .i64 y88.2.2.2.1, .int .i64 y88.2.2.2.2.1], .box g102 27 [.int .i64 y88.1, .slice A91 y88.2.1.length c93], .ro (.sl (.int .i64)) [.slice A91 y88.2.1.length c93] y88.2.1, .box g81 28 [.int .i64 y64.2.2.1, .int .i64 y64.2.2.2.1, .int .i64 y64.2.2.2.2.1], .box g78 27 [.int .i64 y64.1, .slice A67 y64.2.1.length c69], .ro (.sl (.int .i64)) [.slice A67 y64.2.1.length c69] y64.2.1, .box g19 27 [.int .i64 3, .slice Akf21_1_0 kf21_1_0.length ckf21_1_0], .ro (.sl (.int .i64)) [.slice Akf21_1_0 kf21_1_0.length ckf21_1_0] kf21_1_0]) := hC.sel [0, 1, 2, 3, 4, 5, 6, 7, 8, 9, 10, 11, 12, 13, 14] (by decide)
            obtain ⟨y169, h170, hb⟩ := bd hb
            refine lex.gcl (want_t rfl rfl (show _ = Value.bool y165 from rfl) hq168) (⟨_, _, op_callv (vs := [.int .i64 y112.2.2.2.2.2, .int .i64 1, .pointer (some ⟨g14, 0, none⟩)]) (ca := #[.pointer (some ⟨g14, 0, none⟩)]) Try.call18 rfl rfl rfl, law36_MarkovFull_c1_ok n hC.lt hr122 (show I64 1 from by unfold I64; omega) (chk_rng h13) hC.give h170⟩) ?_
            rintro _ w171 ⟨rfl, hK⟩
            replace hC := hC.back hK
            clear hK
            refine lex.pure (v := .bool y169) (pu_pickT (q := y165) rfl hq168 rfl) ?_
            refine lex.pure (v := .bool y169) (pu_move rfl) ?_
            rcases bS y169 with hq172 | hq172
            · replace hb := (cT hq172).symm.trans hb
              refine lex.gpure (want_t rfl rfl (show _ = Value.bool y169 from rfl) hq172) (v := .int .i64 y136.2.2.2.2.2) (pu_move e18) ?_
              refine lex.gpure (want_t rfl rfl (show _ = Value.bool y169 from rfl) hq172) (v := .bool (decide (y136.2.2.2.2.2 = 5))) (pu_eql (k := .i64) (a := y136.2.2.2.2.2) (b := 5) rfl rfl) ?_
              refine lex.pure (v := .bool (decide (y136.2.2.2.2.2 = 5))) (pu_pickT (q := y169) rfl hq172 rfl) ?_
              refine lex.pure (v := .bool (decide (y136.2.2.2.2.2 = 5))) (pu_assign rfl) ?_
              refine lex.nil ?_
              refine hK160 _ _ ?_
              obtain rfl := Option.some.inj hb
              refine Wc.ret ?_
              refine hKR _ _ ?_
              refine ⟨_, res1 Try.results5 (show RV _ _ _ (.tmp _) (.bool (decide (y136.2.2.2.2.2 = 5))) from rfl), _, rfl, rfl, hC.sel [] (by decide)⟩
            · replace hb := (cF hq172).symm.trans hb
              refine lex.gskip (want_f rfl rfl (show _ = Value.bool y169 from rfl) hq172) ?_
              refine lex.gskip (want_f rfl rfl (show _ = Value.bool y169 from rfl) hq172) ?_
              refine lex.pure (v := .bool false) (pu_pickF (q := y169) rfl hq172 rfl) ?_
              refine lex.pure (v := .bool false) (pu_assign rfl) ?_
              refine lex.nil ?_
              refine hK160 _ _ ?_
              obtain rfl := Option.some.inj hb
              refine Wc.ret ?_
              refine hKR _ _ ?_
              refine ⟨_, res1 Try.results5 (show RV _ _ _ (.tmp _) (.bool false) from rfl), _, rfl, rfl, hC.sel [] (by decide)⟩
          · replace hb := (cF hq168).symm.trans hb
            refine lex.gskip (want_f rfl rfl (show _ = Value.bool y165 from rfl) hq168) ?_
            refine lex.gskip (want_f rfl rfl (show _ = Value.bool y165 from rfl) hq168) ?_
            refine lex.gskip (want_f rfl rfl (show _ = Value.bool y165 from rfl) hq168) ?_
            refine lex.pure (v := .bool false) (pu_pickF (q := y165) rfl hq168 rfl) ?_
            refine lex.pure (v := .bool false) (pu_move rfl) ?_
            refine lex.gskip (want_f rfl rfl (show _ = Value.bool false from rfl) rfl) ?_
            refine lex.gskip (want_f rfl rfl (show _ = Value.bool false from rfl) rfl) ?_
            refine lex.pure (v := .bool false) (pu_pickF (q := false) rfl rfl rfl) ?_
            refine lex.pure (v := .bool false) (pu_assign rfl) ?_
            refine lex.nil ?_
            refine hK160 _ _ ?_
            obtain rfl := Option.some.inj hb
            refine Wc.ret ?_
            refine hKR _ _ ?_
            refine ⟨_, res1 Try.results5 (show RV _ _ _ (.tmp _) (.bool false) from rfl), _, rfl, rfl, hC.sel [] (by decide)⟩
        · replace hb := (cF hq164).symm.trans hb
          refine lex.gskip (want_f rfl rfl (show _ = Value.bool y161 from rfl) hq164) ?_
          refine lex.gskip (want_f rfl rfl (show _ = Value.bool y161 from rfl) hq164) ?_
          refine lex.gskip (want_f rfl rfl (show _ = Value.bool y161 from rfl) hq164) ?_
          refine lex.pure (v := .bool false) (pu_pickF (q := y161) rfl hq164 rfl) ?_
          refine lex.pure (v := .bool false) (pu_move rfl) ?_
          refine lex.gskip (want_f rfl rfl (show _ = Value.bool false from rfl) rfl) ?_
          refine lex.gskip (want_f rfl rfl (show _ = Value.bool false from rfl) rfl) ?_
          refine lex.gskip (want_f rfl rfl (show _ = Value.bool false from rfl) rfl) ?_
          refine lex.pure (v := .bool false) (pu_pickF (q := false) rfl rfl rfl) ?_
          refine lex.pure (v := .bool false) (pu_move rfl) ?_
          refine lex.gskip (want_f rfl rfl (show _ = Value.bool false from rfl) rfl) ?_
          refine lex.gskip (want_f rfl rfl (show _ = Value.bool false from rfl) rfl) ?_
          refine lex.pure (v := .bool false) (pu_pickF (q := false) rfl rfl rfl) ?_
          refine lex.pure (v := .bool false) (pu_assign rfl) ?_
          refine lex.nil ?_
          refine hK160 _ _ ?_
          obtain rfl := Option.some.inj hb
          refine Wc.ret ?_
          refine hKR _ _ ?_
          refine ⟨_, res1 Try.results5 (show RV _ _ _ (.tmp _) (.bool false) from rfl), _, rfl, rfl, hC.sel [] (by decide)⟩
end Go.Proofs.Ytkjpldmelafooaa
