/- The walks: part 12. -/
import Derived.Test.YtmlkiafidahnbaaS
set_option linter.unusedVariables false
set_option linter.unusedSimpArgs false
namespace Go.Proofs.Ytmlkiafidahnbaa
open Ev
set_option maxRecDepth 100000 in
set_option maxHeartbeats 4000000 in
theorem ref30_Mul_ok (n : Nat) {w : World} {O0 : List Nat} (hO : ∀ k ∈ O0, k < w.heap.size) {Ap_0 : Option Addr} {mp_0 cp_0 : Nat} {p_0 : List Int} (hp_0 : Rep O0 w (.sl (.int .i64)) [.slice Ap_0 mp_0 cp_0] p_0) {Aq_1 : Option Addr} {mq_1 cq_1 : Nat} {q_1 : List Int} (hq_1 : Rep O0 w (.sl (.int .i64)) [.slice Aq_1 mq_1 cq_1] q_1) {r : (List Int)} (hb : F.ref30_Mul n p_0 q_1 = some r) :
    Calls Try.prog 22 #[.slice Ap_0 mp_0 cp_0, .slice Aq_1 mq_1 cq_1] w fun e w' => ∃ v, e = .returned v ∧ ∃ (A0 : Option Addr) (m0 c0 : Nat), v = .slice A0 m0 c0 ∧ Cx (fun _ => False) O0 w w' [.own 3 (.int .i64) (.slice A0 m0 c0) r] := by
  unfold F.ref30_Mul at hb
  have hC := Cx.start hO
  replace hC := hC.arg rfl hp_0
  replace hC := hC.arg rfl hq_1
  clear hO
  obtain ⟨rfl, hlp_0, hcp_0⟩ := hp_0.sl_len
  obtain ⟨rfl, hlq_1, hcq_1⟩ := hq_1.sl_len
  refine calls_of_Wc Try.func22 rfl (by rw [Try.ntmps22]; exact Nat.le_of_ble_eq_true rfl) fun KR hKR => ?_
  refine Wc.seq fun K3 hK3 => ?_
  refine Wc.region (by decide +kernel) ?_
  refine lex.pure (v := .slice none 0 0) (pu_assign rfl) ?_
  refine lex.nil ?_
  refine hK3 _ _ ?_
  refine Wc.seq fun K4 hK4 => ?_
  refine Wc.region (by decide +kernel) ?_
  refine lex.pure (v := .slice none 0 0) (pu_assign rfl) ?_
  refine lex.nil ?_
  refine hK4 _ _ ?_
  refine Wc.seq fun K5 hK5 => ?_
  refine Wc.seq fun K6 hK6 => ?_
  refine Wc.region (by decide +kernel) ?_
  refine lex.pure (v := .int .i64 0) (pu_assign rfl) ?_
  refine lex.nil ?_
  refine hK6 _ _ ?_
  replace hC := hC.nil 3 (.int .i64)
  obtain ⟨o8, hl0, hb⟩ := bd hb
  refine Wc.cut (fun E wv => ∃ (l5_0 : List Int) (v6_0 : Int) (Al5_0 : Option Addr) (ml5_0 cl5_0 : Nat), E 4 = .slice none 0 0 ∧ E 5 = .slice Al5_0 ml5_0 cl5_0 ∧ I64 v6_0 ∧ Cx (fun _ => False) O0 w wv [.own 3 (.int .i64) (.slice Al5_0 ml5_0 cl5_0) l5_0] ∧ (some l5_0 : Option ((List Int))) = some r) (fun K9 hK9 => ?_) ?_
  · refine Wc.block ?_
    refine Wc.loop (fun m E wv => ∃ (l5_0 : List Int) (v6_0 : Int) (Al5_0 : Option Addr) (ml5_0 cl5_0 : Nat), E 0 = .slice Ap_0 p_0.length cp_0 ∧ E 1 = .slice Aq_1 q_1.length cq_1 ∧ E 4 = .slice none 0 0 ∧ E 5 = .slice Al5_0 ml5_0 cl5_0 ∧ E 6 = .int .i64 v6_0 ∧ I64 v6_0 ∧ Cx (fun _ => False) O0 w wv [.ro (.sl (.int .i64)) [.slice Ap_0 p_0.length cp_0] p_0, .ro (.sl (.int .i64)) [.slice Aq_1 q_1.length cq_1] q_1, .own 3 (.int .i64) (.slice Al5_0 ml5_0 cl5_0) l5_0] ∧ loopN m (F.ref30_Mul_b0 n p_0 q_1) (l5_0, v6_0) = some o8) n ⟨([] : List Int), 0, none, 0, 0, rfl, rfl, rfl, rfl, rfl, (show I64 0 from by unfold I64; omega), hC.sel [2, 1, 0] (by decide), hl0⟩ ?_
    have hbK0 := hb
    clear hb hC hl0
    rintro m11 E13 w12 ⟨l5_0, v6_0, Al5_0, ml5_0, cl5_0, e0, e1, e4, e5, e6, hrv6_0, hC, hl0⟩ K10 hK10
    obtain ⟨m11', o14, rfl, hb, hl0⟩ := loopN_some hl0
    unfold F.ref30_Mul_b0 at hb
    obtain ⟨rfl, hll5_0, hcl5_0⟩ := (hC.ow (i := 2) rfl).sl_len
    refine Wc.seq fun K15 hK15 => ?_
    refine Wc.seq fun K16 hK16 => ?_
    refine Wc.region (by decide +kernel) ?_
    refine lex.pure (v := .int .i64 v6_0) (pu_move e6) ?_
    refine lex.pure (v := .slice Ap_0 p_0.length cp_0) (pu_move e0) ?_
    refine lex.pure (v := .int .i64 (p_0.length : Int)) (pu_len (A := Ap_0) (n := p_0.length) (m := cp_0) Try.underlying28 rfl) ?_
    refine lex.pure (v := .bool (decide (v6_0 < (p_0.length : Int)))) (pu_lss (k := .i64) (a := v6_0) (b := (p_0.length : Int)) rfl rfl) ?_
    refine lex.nil ?_
    refine hK16 _ _ ?_
    refine Wc.cond (t := (decide (v6_0 < (p_0.length : Int)))) (rfl) (fun hq17 => ?_) (fun hq17 => ?_)
    · replace hb := (cT hq17).symm.trans hb
      refine Wc.skip ?_
      refine hK15 _ _ ?_
      refine Wc.seq fun K18 hK18 => ?_
      refine Wc.block ?_
      refine Wc.region (by decide +kernel) ?_
      refine lex.pure (v := .slice Al5_0 l5_0.length cl5_0) (pu_move e5) ?_
      refine lex.pure (v := .slice Aq_1 q_1.length cq_1) (pu_move e1) ?_
      refine lex.pure (v := .slice Ap_0 p_0.length cp_0) (pu_move e0) ?_
      refine lex.pure (v := .int .i64 v6_0) (pu_move e6) ?_
      obtain ⟨x19, h20, hb⟩ := bd hb
      obtain ⟨ad21, cs22, hA, hc23, hr24⟩ := hC.elr (i := 0) rfl (get_some h20).2
      subst hA
      refine lex.pure (v := .pointer (some (ad21.add (v6_0.toNat * 1)))) (pu_index (a := v6_0) Try.underlying28 Try.sizeOf3 rfl rfl (get_some h20).1) ?_
      obtain ⟨rfl, hr24'⟩ := hr24
      refine lex.val (v := .int .i64 x19) (ld_one Try.isAgg3 rfl (hc23 0 _ rfl)) ?_
      obtain ⟨x25, h26, hb⟩ := bd hb
      obtain ⟨ad27, cs28, hA, hc29, hr30⟩ := hC.elr (i := 1) rfl (get_some h26).2
      subst hA
      refine lex.pure (v := .pointer (some (ad27.add (x19.toNat * 1)))) (pu_index (a := x19) Try.underlying28 Try.sizeOf3 rfl rfl (get_some h26).1) ?_
      obtain ⟨rfl, hr30'⟩ := hr30
      refine lex.val (v := .int .i64 x25) (ld_one Try.isAgg3 rfl (hc29 0 _ rfl)) ?_
      refine lex.op (hC.lit (s := (.int .i64)) (vs := [.int .i64 x25]) (xs := [x25]) Try.underlying28 Try.type3 rfl rfl (Nat.le_of_ble_eq_true rfl) rfl rfl (by simp [Value.cells, Sh.n]) rfl (show Elems _ _ (.int .i64) ([.int .i64 x25] ++ ([])) ([x25] : List Int) from Elems.cons (⟨rfl, I64.wr (wrap_I64 hr30')⟩) (Elems.nil _ _ _))) ?_
      rintro _ w35 ⟨A31, c32, rfl, hl33, hc34, hC, hF, hN⟩
      clear hF hN
      obtain ⟨u37, h38, hb⟩ := bd hb
      refine lex.op (hC.app (i := 3) (s := (.int .i64)) (xs := l5_0) (ys := ([x25] : List Int)) (m := ((([x25] : List Int)).length)) rfl Try.underlying28 Try.underlying28 Try.type3 rfl rfl rfl (hC.srco (i := 0) rfl) rfl rfl (by have := lim_some h38; simp at this ⊢ <;> omega) (by decide)) ?_
      rintro _ w43 ⟨A39, c40, rfl, hl41, hc42, hC, hF, hN⟩
      clear hF hN
      refine lex.pure (v := .slice A39 ((l5_0 ++ ([x25] : List Int)).length) c40) (pu_assign rfl) ?_
      refine lex.nil ?_
      refine hK18 _ _ ?_
      refine Wc.region (by decide +kernel) ?_
      refine lex.pure (v := .int .i64 v6_0) (pu_move e6) ?_
      obtain ⟨z44, h45, hb⟩ := bd hb
      refine lex.pure (v := .int .i64 z44) (pu_addc (a := v6_0) (b := 1) rfl rfl h45) ?_
      refine lex.pure (v := .int .i64 z44) (pu_assign rfl) ?_
      refine lex.nil ?_
      obtain rfl := Option.some.inj hb
      exact hK10 m11' _ _ (Nat.lt_succ_self _) ⟨(l5_0 ++ ([x25] : List Int)), z44, A39, (l5_0 ++ ([x25] : List Int)).length, c40, e0, e1, e4, rfl, rfl, (chk_rng h45), hC.sel [1, 2, 3] (by decide), lN hl0⟩
    · replace hb := (cF hq17).symm.trans hb
      refine Wc.exit rfl ?_
      obtain rfl := Option.some.inj hb
      obtain rfl := (lX hl0).symm
      exact hK9 _ _ ⟨l5_0, v6_0, Al5_0, l5_0.length, cl5_0, e4, e5, hrv6_0, hC.sel [2] (by decide), hbK0⟩
  · clear hb hC hl0
    rintro E47 w46 ⟨l5_0, v6_0, Al5_0, ml5_0, cl5_0, e4, e5, hrv6_0, hC, hb⟩
    obtain ⟨rfl, hll5_0, hcl5_0⟩ := (hC.ow (i := 0) rfl).sl_len
    refine hK5 _ _ ?_
    refine Wc.seq fun K48 hK48 => ?_
    refine Wc.region (by decide +kernel) ?_
    refine lex.pure (v := .slice Al5_0 l5_0.length cl5_0) (pu_move e5) ?_
    refine lex.pure (v := .slice Al5_0 l5_0.length cl5_0) (pu_assign rfl) ?_
    refine lex.nil ?_
    refine hK48 _ _ ?_
    obtain rfl := Option.some.inj hb
    refine Wc.ret ?_
    refine hKR _ _ ?_
    refine ⟨_, res1 Try.results22 (show RV _ _ _ (.tmp _) (.slice Al5_0 l5_0.length cl5_0) from rfl), _, rfl, Al5_0, l5_0.length, cl5_0, rfl, hC.sel [0] (by decide)⟩

set_option maxRecDepth 100000 in
set_option maxHeartbeats 4000000 in
theorem ref30_Inverse_ok (n : Nat) {w : World} {O0 : List Nat} (hO : ∀ k ∈ O0, k < w.heap.size) {Ap_0 : Option Addr} {mp_0 cp_0 : Nat} {p_0 : List Int} (hp_0 : Rep O0 w (.sl (.int .i64)) [.slice Ap_0 mp_0 cp_0] p_0) {r : (List Int)} (hb : F.ref30_Inverse n p_0 = some r) :
    Calls Try.prog 27 #[.slice Ap_0 mp_0 cp_0] w fun e w' => ∃ v, e = .returned v ∧ ∃ (A0 : Option Addr) (m0 c0 : Nat), v = .slice A0 m0 c0 ∧ Cx (fun _ => False) O0 w w' [.own 3 (.int .i64) (.slice A0 m0 c0) r] := by
  unfold F.ref30_Inverse at hb
  have hC := Cx.start hO
  replace hC := hC.arg rfl hp_0
  clear hO
  obtain ⟨rfl, hlp_0, hcp_0⟩ := hp_0.sl_len
  refine calls_of_Wc Try.func27 rfl (by rw [Try.ntmps27]; exact Nat.le_of_ble_eq_true rfl) fun KR hKR => ?_
  refine Wc.seq fun K2 hK2 => ?_
  refine Wc.region (by decide +kernel) ?_
  refine lex.pure (v := .slice none 0 0) (pu_assign rfl) ?_
  refine lex.nil ?_
  refine hK2 _ _ ?_
  refine Wc.seq fun K3 hK3 => ?_
  refine Wc.region (by decide +kernel) ?_
  refine lex.pure (v := .slice Ap_0 p_0.length cp_0) (pu_move rfl) ?_
  refine lex.pure (v := .int .i64 (p_0.length : Int)) (pu_len (A := Ap_0) (n := p_0.length) (m := cp_0) Try.underlying28 rfl) ?_
  obtain ⟨u4, h5, hb⟩ := bd hb
  refine lex.op (hC.make (s := (.int .i64)) (n := (p_0.length : Int)) Try.underlying28 Try.type3 rfl rfl rfl rfl rfl (pos_some h5).1 (pos_some h5).2 (by decide)) ?_
  rintro _ w10 ⟨A6, c7, rfl, hl8, hc9, hC, hF, hN⟩
  clear hF hN
  refine lex.pure (v := .slice A6 (((List.replicate (p_0.length : Int).toNat (0 : Int))).length) c7) (pu_assign rfl) ?_
  refine lex.nil ?_
  refine hK3 _ _ ?_
  refine Wc.seq fun K12 hK12 => ?_
  refine Wc.seq fun K13 hK13 => ?_
  refine Wc.region (by decide +kernel) ?_
  refine lex.pure (v := .int .i64 0) (pu_assign rfl) ?_
  refine lex.nil ?_
  refine hK13 _ _ ?_
  obtain ⟨o14, hl0, hb⟩ := bd hb
  refine Wc.cut (fun E wv => ∃ (v4_0 : Int) (qf11_0 : List Int), E 2 = .slice none 0 0 ∧ E 3 = .slice A6 (((List.replicate (p_0.length : Int).toNat (0 : Int))).length) c7 ∧ I64 v4_0 ∧ Cx (fun _ => False) O0 w wv [.own 3 (.int .i64) (.slice A6 (((List.replicate (p_0.length : Int).toNat (0 : Int))).length) c7) qf11_0] ∧ (some qf11_0 : Option ((List Int))) = some r) (fun K15 hK15 => ?_) ?_
  · refine Wc.block ?_
    refine Wc.loop (fun m E wv => ∃ (v4_0 : Int) (qf11_0 : List Int), E 0 = .slice Ap_0 p_0.length cp_0 ∧ E 2 = .slice none 0 0 ∧ E 3 = .slice A6 (((List.replicate (p_0.length : Int).toNat (0 : Int))).length) c7 ∧ E 4 = .int .i64 v4_0 ∧ I64 v4_0 ∧ Cx (fun _ => False) O0 w wv [.ro (.sl (.int .i64)) [.slice Ap_0 p_0.length cp_0] p_0, .own 3 (.int .i64) (.slice A6 (((List.replicate (p_0.length : Int).toNat (0 : Int))).length) c7) qf11_0] ∧ loopN m (F.ref30_Inverse_b0 n p_0) (v4_0, qf11_0) = some o14) n ⟨0, (List.replicate (p_0.length : Int).toNat (0 : Int)), rfl, rfl, rfl, rfl, (show I64 0 from by unfold I64; omega), hC.sel [1, 0] (by decide), hl0⟩ ?_
    have hbK0 := hb
    clear hb hC hl0
    rintro m17 E19 w18 ⟨v4_0, qf11_0, e0, e2, e3, e4, hrv4_0, hC, hl0⟩ K16 hK16
    obtain ⟨m17', o20, rfl, hb, hl0⟩ := loopN_some hl0
    unfold F.ref30_Inverse_b0 at hb
    refine Wc.seq fun K21 hK21 => ?_
    refine Wc.seq fun K22 hK22 => ?_
    refine Wc.region (by decide +kernel) ?_
    refine lex.pure (v := .int .i64 v4_0) (pu_move e4) ?_
    refine lex.pure (v := .slice Ap_0 p_0.length cp_0) (pu_move e0) ?_
    refine lex.pure (v := .int .i64 (p_0.length : Int)) (pu_len (A := Ap_0) (n := p_0.length) (m := cp_0) Try.underlying28 rfl) ?_
    refine lex.pure (v := .bool (decide (v4_0 < (p_0.length : Int)))) (pu_lss (k := .i64) (a := v4_0) (b := (p_0.length : Int)) rfl rfl) ?_
    refine lex.nil ?_
    refine hK22 _ _ ?_
    refine Wc.cond (t := (decide (v4_0 < (p_0.length : Int)))) (rfl) (fun hq23 => ?_) (fun hq23 => ?_)
    · replace hb := (cT hq23).symm.trans hb
      refine Wc.skip ?_
      refine hK21 _ _ ?_
      refine Wc.seq fun K24 hK24 => ?_
      refine Wc.block ?_
      refine Wc.region (by decide +kernel) ?_
      refine lex.pure (v := .slice A6 (((List.replicate (p_0.length : Int).toNat (0 : Int))).length) c7) (pu_move e3) ?_
      refine lex.pure (v := .slice Ap_0 p_0.length cp_0) (pu_move e0) ?_
      refine lex.pure (v := .int .i64 v4_0) (pu_move e4) ?_
      obtain ⟨x25, h26, hb⟩ := bd hb
      obtain ⟨ad27, cs28, hA, hc29, hr30⟩ := hC.elr (i := 0) rfl (get_some h26).2
      subst hA
      refine lex.pure (v := .pointer (some (ad27.add (v4_0.toNat * 1)))) (pu_index (a := v4_0) Try.underlying28 Try.sizeOf3 rfl rfl (get_some h26).1) ?_
      obtain ⟨rfl, hr30'⟩ := hr30
      refine lex.val (v := .int .i64 x25) (ld_one Try.isAgg3 rfl (hc29 0 _ rfl)) ?_
      refine lex.pure (v := .int .i64 v4_0) (pu_move e4) ?_
      obtain ⟨x31, h32, hb⟩ := bd hb
      obtain ⟨ad33, cs34, hA, hc35, hr36⟩ := hC.elo (i := 1) rfl (get_some h32).2
      subst hA
      refine lex.pure (v := .pointer (some (ad33.add (x25.toNat * 1)))) (pu_index (a := x25) Try.underlying28 Try.sizeOf3 rfl rfl (by rw [(hC.ow (i := 1) rfl).sl_len.1]; exact (get_some h32).1)) ?_
      refine lex.sk (hC.put (i := 1) rfl rfl Try.sizeOf3 (k := x25.toNat) (a := v4_0) (by have := (get_some h32).1; simp at this ⊢; omega) (⟨rfl, I64.wr hrv4_0⟩) rfl rfl rfl) ?_
      rintro w37 ⟨hC, hF⟩
      refine lex.nil ?_
      refine hK24 _ _ ?_
      refine Wc.region (by decide +kernel) ?_
      refine lex.pure (v := .int .i64 v4_0) (pu_move e4) ?_
      obtain ⟨z38, h39, hb⟩ := bd hb
      refine lex.pure (v := .int .i64 z38) (pu_addc (a := v4_0) (b := 1) rfl rfl h39) ?_
      refine lex.pure (v := .int .i64 z38) (pu_assign rfl) ?_
      refine lex.nil ?_
      obtain rfl := Option.some.inj hb
      exact hK16 m17' _ _ (Nat.lt_succ_self _) ⟨z38, (qf11_0.set x25.toNat v4_0), e0, e2, e3, rfl, (chk_rng h39), hC.sel [0, 1] (by decide), lN hl0⟩
    · replace hb := (cF hq23).symm.trans hb
      refine Wc.exit rfl ?_
      obtain rfl := Option.some.inj hb
      obtain rfl := (lX hl0).symm
      exact hK15 _ _ ⟨v4_0, qf11_0, e2, e3, hrv4_0, hC.sel [1] (by decide), hbK0⟩
  · clear hb hC hl0
    rintro E41 w40 ⟨v4_0, qf11_0, e2, e3, hrv4_0, hC, hb⟩
    refine hK12 _ _ ?_
    refine Wc.seq fun K42 hK42 => ?_
    refine Wc.region (by decide +kernel) ?_
    refine lex.pure (v := .slice A6 (((List.replicate (p_0.length : Int).toNat (0 : Int))).length) c7) (pu_move e3) ?_
    refine lex.pure (v := .slice A6 (((List.replicate (p_0.length : Int).toNat (0 : Int))).length) c7) (pu_assign rfl) ?_
    refine lex.nil ?_
    refine hK42 _ _ ?_
    obtain rfl := Option.some.inj hb
    refine Wc.ret ?_
    refine hKR _ _ ?_
    refine ⟨_, res1 Try.results27 (show RV _ _ _ (.tmp _) (.slice A6 (((List.replicate (p_0.length : Int).toNat (0 : Int))).length) c7) from rfl), _, rfl, A6, ((List.replicate (p_0.length : Int).toNat (0 : Int))).length, c7, rfl, hC.sel [0] (by decide)⟩

set_option maxRecDepth 100000 in
set_option maxHeartbeats 4000000 in
theorem ref30_Sign_ok (n : Nat) {w : World} {O0 : List Nat} (hO : ∀ k ∈ O0, k < w.heap.size) {Ap_0 : Option Addr} {mp_0 cp_0 : Nat} {p_0 : List Int} (hp_0 : Rep O0 w (.sl (.int .i64)) [.slice Ap_0 mp_0 cp_0] p_0) {r : Int} (hb : F.ref30_Sign n p_0 = some r) :
    Calls Try.prog 31 #[.slice Ap_0 mp_0 cp_0] w fun e w' => ∃ v, e = .returned v ∧ v = .int .i64 r ∧ I64 r ∧ Cx (fun _ => False) O0 w w' [] := by
  unfold F.ref30_Sign at hb
  have hC := Cx.start hO
  replace hC := hC.arg rfl hp_0
  clear hO
  obtain ⟨rfl, hlp_0, hcp_0⟩ := hp_0.sl_len
  refine calls_of_Wc Try.func31 rfl (by rw [Try.ntmps31]; exact Nat.le_of_ble_eq_true rfl) fun KR hKR => ?_
  refine Wc.seq fun K2 hK2 => ?_
  refine Wc.region (by decide +kernel) ?_
  refine lex.pure (v := .int .i64 0) (pu_assign rfl) ?_
  refine lex.nil ?_
  refine hK2 _ _ ?_
  refine Wc.seq fun K3 hK3 => ?_
  refine Wc.region (by decide +kernel) ?_
  refine lex.pure (v := .int .i64 1) (pu_assign rfl) ?_
  refine lex.nil ?_
  refine hK3 _ _ ?_
  refine Wc.seq fun K4 hK4 => ?_
  refine Wc.seq fun K5 hK5 => ?_
  refine Wc.region (by decide +kernel) ?_
  refine lex.pure (v := .int .i64 0) (pu_assign rfl) ?_
  refine lex.nil ?_
  refine hK5 _ _ ?_
  obtain ⟨o6, hl0, hb⟩ := bd hb
  refine Wc.cut (fun E wv => ∃ (v3_0 : Int) (v4_0 : Int), E 2 = .int .i64 0 ∧ E 3 = .int .i64 v3_0 ∧ I64 v3_0 ∧ I64 v4_0 ∧ Cx (fun _ => False) O0 w wv [] ∧ (some v3_0 : Option (Int)) = some r) (fun K7 hK7 => ?_) ?_
  · refine Wc.block ?_
    refine Wc.loop (fun m E wv => ∃ (v3_0 : Int) (v4_0 : Int), E 0 = .slice Ap_0 p_0.length cp_0 ∧ E 2 = .int .i64 0 ∧ E 3 = .int .i64 v3_0 ∧ E 4 = .int .i64 v4_0 ∧ I64 v3_0 ∧ I64 v4_0 ∧ Cx (fun _ => False) O0 w wv [.ro (.sl (.int .i64)) [.slice Ap_0 p_0.length cp_0] p_0] ∧ loopN m (F.ref30_Sign_b0 n p_0) (v3_0, v4_0) = some o6) n ⟨1, 0, rfl, rfl, rfl, rfl, (show I64 1 from by unfold I64; omega), (show I64 0 from by unfold I64; omega), hC.sel [0] (by decide), hl0⟩ ?_
    have hbK0 := hb
    clear hb hC hl0
    rintro m9 E11 w10 ⟨v3_0, v4_0, e0, e2, e3, e4, hrv3_0, hrv4_0, hC, hl0⟩ K8 hK8
    obtain ⟨m9', o12, rfl, hb, hl0⟩ := loopN_some hl0
    unfold F.ref30_Sign_b0 at hb
    refine Wc.seq fun K13 hK13 => ?_
    refine Wc.seq fun K14 hK14 => ?_
    refine Wc.region (by decide +kernel) ?_
    refine lex.pure (v := .int .i64 v4_0) (pu_move e4) ?_
    refine lex.pure (v := .slice Ap_0 p_0.length cp_0) (pu_move e0) ?_
    refine lex.pure (v := .int .i64 (p_0.length : Int)) (pu_len (A := Ap_0) (n := p_0.length) (m := cp_0) Try.underlying28 rfl) ?_
    refine lex.pure (v := .bool (decide (v4_0 < (p_0.length : Int)))) (pu_lss (k := .i64) (a := v4_0) (b := (p_0.length : Int)) rfl rfl) ?_
    refine lex.nil ?_
    refine hK14 _ _ ?_
    refine Wc.cond (t := (decide (v4_0 < (p_0.length : Int)))) (rfl) (fun hq15 => ?_) (fun hq15 => ?_)
    · replace hb := (cT hq15).symm.trans hb
      refine Wc.skip ?_
      refine hK13 _ _ ?_
      refine Wc.seq fun K16 hK16 => ?_
      refine Wc.block ?_
      refine Wc.seq fun K17 hK17 => ?_
      refine Wc.region (by decide +kernel) ?_
      refine lex.pure (v := .int .i64 v4_0) (pu_move e4) ?_
      obtain ⟨z18, h19, hb⟩ := bd hb
      refine lex.pure (v := .int .i64 z18) (pu_addc (a := v4_0) (b := 1) rfl rfl h19) ?_
      refine lex.pure (v := .int .i64 z18) (pu_assign rfl) ?_
      refine lex.nil ?_
      refine hK17 _ _ ?_
      obtain ⟨o20, hl1, hb⟩ := bd hb
      refine Wc.cut (fun E wv => ∃ (v3_1 : Int) (v5_1 : Int), E 0 = .slice Ap_0 p_0.length cp_0 ∧ E 2 = .int .i64 0 ∧ E 3 = .int .i64 v3_1 ∧ E 4 = .int .i64 v4_0 ∧ E 5 = .int .i64 v5_1 ∧ E 9 = .bool (decide (v4_0 < (p_0.length : Int))) ∧ I64 v3_1 ∧ I64 v5_1 ∧ Cx (fun _ => False) O0 w wv [.ro (.sl (.int .i64)) [.slice Ap_0 p_0.length cp_0] p_0] ∧ ((chk (v4_0 + 1)).bind fun z58 => some (.inl (v3_1, z58)) : Option ((Int × Int) ⊕ ((Int × Int)))) = some o12) (fun K21 hK21 => ?_) ?_
      · refine Wc.block ?_
        refine Wc.loop (fun m E wv => ∃ (v3_1 : Int) (v5_1 : Int), E 0 = .slice Ap_0 p_0.length cp_0 ∧ E 2 = .int .i64 0 ∧ E 3 = .int .i64 v3_1 ∧ E 4 = .int .i64 v4_0 ∧ E 5 = .int .i64 v5_1 ∧ E 9 = .bool (decide (v4_0 < (p_0.length : Int))) ∧ I64 v3_1 ∧ I64 v5_1 ∧ Cx (fun _ => False) O0 w wv [.ro (.sl (.int .i64)) [.slice Ap_0 p_0.length cp_0] p_0] ∧ loopN m (F.ref30_Sign_b1 n p_0 v4_0) (v3_1, v5_1) = some o20) n ⟨v3_0, z18, e0, e2, e3, e4, rfl, rfl, hrv3_0, (chk_rng h19), hC.sel [0] (by decide), hl1⟩ ?_
        have hbK1 := hb
        clear hb hC hl1
        rintro m23 E25 w24 ⟨v3_1, v5_1, e0, e2, e3, e4, e5, e9, hrv3_1, hrv5_1, hC, hl1⟩ K22 hK22
        obtain ⟨m23', o26, rfl, hb, hl1⟩ := loopN_some hl1
        unfold F.ref30_Sign_b1 at hb
        refine Wc.seq fun K27 hK27 => ?_
        refine Wc.seq fun K28 hK28 => ?_
        refine Wc.region (by decide +kernel) ?_
        refine lex.pure (v := .int .i64 v5_1) (pu_move e5) ?_
        refine lex.pure (v := .slice Ap_0 p_0.length cp_0) (pu_move e0) ?_
        refine lex.pure (v := .int .i64 (p_0.length : Int)) (pu_len (A := Ap_0) (n := p_0.length) (m := cp_0) Try.underlying28 rfl) ?_
        refine lex.pure (v := .bool (decide (v5_1 < (p_0.length : Int)))) (pu_lss (k := .i64) (a := v5_1) (b := (p_0.length : Int)) rfl rfl) ?_
        refine lex.nil ?_
        refine hK28 _ _ ?_
        refine Wc.cond (t := (decide (v5_1 < (p_0.length : Int)))) (rfl) (fun hq29 => ?_) (fun hq29 => ?_)
        · replace hb := (cT hq29).symm.trans hb
          refine Wc.skip ?_
          refine hK27 _ _ ?_
          refine Wc.seq fun K30 hK30 => ?_
          refine Wc.block ?_
          refine Wc.seq fun K31 hK31 => ?_
          refine Wc.regionMix [] (frm [] ([] : List Fact) ([] : List Fact)) (fun _ => rfl) mixed (by decide +kernel) (by decide +kernel) fun w33 hw32 => ?_
          replace hC := hC.step (Fr.of_drew hw32)
          have hM := Fr.refl (fun k => k ∈ blocks ([] : List Fact)) w33
          clear hw32
          have hS := hC
          refine mixE.pure (v := .slice Ap_0 p_0.length cp_0) (pu_move e0) ?_
          refine mixE.pure (v := .int .i64 v4_0) (pu_move e4) ?_
          obtain ⟨x34, h35, hb⟩ := bd hb
          obtain ⟨ad36, cs37, hA, ho40, hc38, hr39⟩ := hS.elr2 (i := 0) rfl (get_some h35).2 []
          subst hA
          refine mixE.pure (v := .pointer (some (ad36.add (v4_0.toNat * 1)))) (pu_index (a := v4_0) Try.underlying28 Try.sizeOf3 rfl rfl (get_some h35).1) ?_
          obtain ⟨rfl, hr39'⟩ := hr39
          refine mixE.load hM (v := .int .i64 x34) (fun _ hF => ld_one Try.isAgg3 rfl (hF.cell (hc38 0 _ rfl) (off1 ho40))) ?_
          refine mixE.pure (v := .slice (some ad36) p_0.length cp_0) (pu_move e0) ?_
          refine mixE.pure (v := .int .i64 v5_1) (pu_move e5) ?_
          obtain ⟨x41, h42, hb⟩ := bd hb
          obtain ⟨ad43, cs44, hA, ho47, hc45, hr46⟩ := hS.elr2 (i := 0) rfl (get_some h42).2 []
          obtain rfl := Option.some.inj hA
          refine mixE.pure (v := .pointer (some (ad36.add (v5_1.toNat * 1)))) (pu_index (a := v5_1) Try.underlying28 Try.sizeOf3 rfl rfl (get_some h42).1) ?_
          obtain ⟨rfl, hr46'⟩ := hr46
          refine mixE.load hM (v := .int .i64 x41) (fun _ hF => ld_one Try.isAgg3 rfl (hF.cell (hc45 0 _ rfl) (off1 ho47))) ?_
          refine mixE.pure (v := .bool (decide (x41 < x34))) (pu_gtr (k := .i64) (a := x34) (b := x41) rfl rfl) ?_
          refine mixE.nil ?_
          clear hS hM
          refine hK31 _ _ ?_
          refine Wc.fresh fun E48 hE => ?_
          have e0 : E48 0 = .slice (some ad36) p_0.length cp_0 := (congrFun hE 0).trans e0
          have e2 : E48 2 = .int .i64 0 := (congrFun hE 2).trans e2
          have e3 : E48 3 = .int .i64 v3_1 := (congrFun hE 3).trans e3
          have e4 : E48 4 = .int .i64 v4_0 := (congrFun hE 4).trans e4
          have e5 : E48 5 = .int .i64 v5_1 := (congrFun hE 5).trans e5
          have e9 : E48 9 = .bool (decide (v4_0 < (p_0.length : Int))) := (congrFun hE 9).trans e9
          have e17 : E48 17 = .bool (decide (v5_1 < (p_0.length : Int))) := (congrFun hE 17).trans rfl
          have e28 : E48 28 = .bool (decide (x41 < x34)) := (congrFun hE 28).trans rfl
          clear hE
          refine Wc.cond (t := (decide (x41 < x34))) (e28) (fun hq49 => ?_) (fun hq49 => ?_)
          · replace hb := (cT hq49).symm.trans hb
            refine Wc.region (by decide +kernel) ?_
            refine lex.pure (v := .int .i64 v3_1) (pu_move e3) ?_
            obtain ⟨z50, h51, hb⟩ := bd hb
            refine lex.pure (v := .int .i64 z50) (pu_subc (a := 0) (b := v3_1) rfl rfl h51) ?_
            refine lex.pure (v := .int .i64 z50) (pu_assign rfl) ?_
            refine lex.nil ?_
            refine hK30 _ _ ?_
            refine Wc.region (by decide +kernel) ?_
            refine lex.pure (v := .int .i64 v5_1) (pu_move e5) ?_
            obtain ⟨z52, h53, hb⟩ := bd hb
            refine lex.pure (v := .int .i64 z52) (pu_addc (a := v5_1) (b := 1) rfl rfl h53) ?_
            refine lex.pure (v := .int .i64 z52) (pu_assign rfl) ?_
            refine lex.nil ?_
            obtain rfl := Option.some.inj hb
            exact hK22 m23' _ _ (Nat.lt_succ_self _) ⟨z50, z52, e0, e2, rfl, e4, rfl, e9, (chk_rng h51), (chk_rng h53), hC.sel [0] (by decide), lN hl1⟩
          · replace hb := (cF hq49).symm.trans hb
            refine Wc.skip ?_
            refine hK30 _ _ ?_
            refine Wc.region (by decide +kernel) ?_
            refine lex.pure (v := .int .i64 v5_1) (pu_move e5) ?_
            obtain ⟨z54, h55, hb⟩ := bd hb
            refine lex.pure (v := .int .i64 z54) (pu_addc (a := v5_1) (b := 1) rfl rfl h55) ?_
            refine lex.pure (v := .int .i64 z54) (pu_assign rfl) ?_
            refine lex.nil ?_
            obtain rfl := Option.some.inj hb
            exact hK22 m23' _ _ (Nat.lt_succ_self _) ⟨v3_1, z54, e0, e2, e3, e4, rfl, e9, hrv3_1, (chk_rng h55), hC.sel [0] (by decide), lN hl1⟩
        · replace hb := (cF hq29).symm.trans hb
          refine Wc.exit rfl ?_
          obtain rfl := Option.some.inj hb
          obtain rfl := (lX hl1).symm
          exact hK21 _ _ ⟨v3_1, v5_1, e0, e2, e3, e4, e5, e9, hrv3_1, hrv5_1, hC.sel [0] (by decide), hbK1⟩
      · clear hb hC hl1
        rintro E57 w56 ⟨v3_1, v5_1, e0, e2, e3, e4, e5, e9, hrv3_1, hrv5_1, hC, hb⟩
        refine hK16 _ _ ?_
        refine Wc.region (by decide +kernel) ?_
        refine lex.pure (v := .int .i64 v4_0) (pu_move e4) ?_
        obtain ⟨z58, h59, hb⟩ := bd hb
        refine lex.pure (v := .int .i64 z58) (pu_addc (a := v4_0) (b := 1) rfl rfl h59) ?_
        refine lex.pure (v := .int .i64 z58) (pu_assign rfl) ?_
        refine lex.nil ?_
        obtain rfl := Option.some.inj hb
        exact hK8 m9' _ _ (Nat.lt_succ_self _) ⟨v3_1, z58, e0, e2, e3, rfl, hrv3_1, (chk_rng h59), hC.sel [0] (by decide), lN hl0⟩
    · replace hb := (cF hq15).symm.trans hb
      refine Wc.exit rfl ?_
      obtain rfl := Option.some.inj hb
      obtain rfl := (lX hl0).symm
      exact hK7 _ _ ⟨v3_0, v4_0, e2, e3, hrv3_0, hrv4_0, hC.sel [] (by decide), hbK0⟩
  · clear hb hC hl0
    rintro E61 w60 ⟨v3_0, v4_0, e2, e3, hrv3_0, hrv4_0, hC, hb⟩
    refine hK4 _ _ ?_
    refine Wc.seq fun K62 hK62 => ?_
    refine Wc.region (by decide +kernel) ?_
    refine lex.pure (v := .int .i64 v3_0) (pu_move e3) ?_
    refine lex.pure (v := .int .i64 v3_0) (pu_assign rfl) ?_
    refine lex.nil ?_
    refine hK62 _ _ ?_
    obtain rfl := Option.some.inj hb
    refine Wc.ret ?_
    refine hKR _ _ ?_
    refine ⟨_, res1 Try.results31 (show RV _ _ _ (.tmp _) (.int .i64 v3_0) from rfl), _, rfl, rfl, hrv3_0, hC.sel [] (by decide)⟩
end Go.Proofs.Ytmlkiafidahnbaa
