/- The walks: part 15. -/
import Derived.Test.YtlkmcbgkohpmiaaS
import Derived.Test.YtlkmcbgkohpmiaaG2
import Derived.Test.YtlkmcbgkohpmiaaG3
set_option linter.unusedVariables false
set_option linter.unusedSimpArgs false
namespace Go.Proofs.Ytlkmcbgkohpmiaa
open Ev
set_option maxRecDepth 100000 in
set_option maxHeartbeats 4000000 in
theorem artin_Trivial_ok (n : Nat) {w : World} {O0 : List Nat} (hO : ∀ k ∈ O0, k < w.heap.size) {b_0_0 : Int} (hb_0_0 : I64 b_0_0) {Ab_0_1 : Option Addr} {mb_0_1 cb_0_1 : Nat} {b_0_1 : List Int} (hb_0_1 : Rep O0 w (.sl (.int .i64)) [.slice Ab_0_1 mb_0_1 cb_0_1] b_0_1) {r : Bool} (hb : F.artin_Trivial n b_0_0 b_0_1 = some r) :
    Calls Try.prog 22 #[.agg #[.int .i64 b_0_0, .slice Ab_0_1 mb_0_1 cb_0_1]] w fun e w' => ∃ v, e = .returned v ∧ v = .bool r ∧ Cx (fun _ => False) O0 w w' [] := by
  unfold F.artin_Trivial at hb
  have hC := Cx.start hO
  replace hC := hC.arg rfl hb_0_1
  clear hO
  obtain ⟨rfl, hlb_0_1, hcb_0_1⟩ := hb_0_1.sl_len
  refine calls_of_Wc Try.func22 rfl (by rw [Try.ntmps22]; exact Nat.le_of_ble_eq_true rfl) fun KR hKR => ?_
  refine Wc.seq fun K2 hK2 => ?_
  refine Wc.region (by decide +kernel) ?_
  refine lex.op (hC.box (cs := [.int .i64 b_0_0, .slice Ab_0_1 b_0_1.length cb_0_1]) rfl rfl) ?_
  rintro _ w4 ⟨g3, rfl, hC, hF, hG⟩
  clear hG
  refine lex.pure (v := .bool false) (pu_assign rfl) ?_
  refine lex.nil ?_
  refine hK2 _ _ ?_
  refine Wc.seq fun K6 hK6 => ?_
  refine Wc.region (by decide +kernel) ?_
  refine lex.val (v := .agg #[.int .i64 b_0_0, .slice Ab_0_1 b_0_1.length cb_0_1]) (ld_blk (hC.bx (i := 0) rfl) Try.isAgg24 Try.sizeOf24 rfl) ?_
  obtain ⟨y7, h8, hb⟩ := bd hb
  refine lex.cl (⟨_, _, op_call (vs := [.agg #[.int .i64 b_0_0, .slice Ab_0_1 b_0_1.length cb_0_1]]) Try.call17 rfl rfl rfl, artin_Images_ok n hC.lt hb_0_0 (hC.rd (i := 1) rfl) h8⟩) ?_
  rintro _ w14 ⟨A9, m10, c11, rfl, hr13, hK⟩
  replace hC := hC.merge hK
  clear hK
  obtain ⟨rfl, hl15, hc16⟩ := (hC.ow (i := 0) rfl).sl_len
  refine lex.pure (v := .tuple #[.slice A9 y7.1.length c11, .int .i64 y7.2]) (pu_move rfl) ?_
  refine lex.pure (v := .slice A9 y7.1.length c11) (pu_extract rfl rfl) ?_
  refine lex.pure (v := .int .i64 y7.2) (pu_extract rfl rfl) ?_
  refine lex.pure (v := .slice A9 y7.1.length c11) (pu_assign rfl) ?_
  refine lex.pure (v := .int .i64 y7.2) (pu_assign rfl) ?_
  refine lex.nil ?_
  refine hK6 _ _ ?_
  refine Wc.seq fun K17 hK17 => ?_
  refine Wc.seq fun K18 hK18 => ?_
  refine Wc.region (by decide +kernel) ?_
  refine lex.pure (v := .int .i64 y7.2) (pu_move rfl) ?_
  refine lex.pure (v := .bool (!(decide (y7.2 = 0)))) (pu_neq (k := .i64) (a := y7.2) (b := 0) rfl rfl) ?_
  refine lex.nil ?_
  refine hK18 _ _ ?_
  refine Wc.cond (t := (!(decide (y7.2 = 0)))) (rfl) (fun hq19 => ?_) (fun hq19 => ?_)
  · replace hb := (cT hq19).symm.trans hb
    refine Wc.seq fun K20 hK20 => ?_
    refine Wc.region (by decide +kernel) ?_
    refine lex.pure (v := .bool false) (pu_assign rfl) ?_
    refine lex.nil ?_
    refine hK20 _ _ ?_
    obtain rfl := Option.some.inj hb
    refine Wc.ret ?_
    refine hKR _ _ ?_
    refine ⟨_, res1 Try.results22 (show RV _ _ _ (.tmp _) (.bool false) from rfl), _, rfl, rfl, hC.sel [] (by decide)⟩
  · replace hb := (cF hq19).symm.trans hb
    refine Wc.skip ?_
    refine hK17 _ _ ?_
    refine Wc.fresh fun E21 hE => ?_
    have e2 : E21 2 = .bool false := (congrFun hE 2).trans rfl
    have e3 : E21 3 = .slice A9 y7.1.length c11 := (congrFun hE 3).trans rfl
    clear hE
    refine Wc.seq fun K22 hK22 => ?_
    refine Wc.seq fun K23 hK23 => ?_
    refine Wc.region (by decide +kernel) ?_
    refine lex.pure (v := .slice A9 y7.1.length c11) (pu_move e3) ?_
    refine lex.pure (v := .int .i64 (y7.1.length : Int)) (pu_len (A := A9) (n := y7.1.length) (m := c11) Try.underlying37 rfl) ?_
    refine lex.pure (v := .int .i64 0) (pu_move rfl) ?_
    refine lex.nil ?_
    refine hK23 _ _ ?_
    obtain ⟨o24, hl0, hb⟩ := bd hb
    refine Wc.cut (fun E wv => ∃ (v16_0 : Int), E 2 = .bool false ∧ I64 v16_0 ∧ Cx (fun _ => False) O0 w wv [] ∧ (some true : Option (Bool)) = some r) (fun K25 hK25 => ?_) ?_
    · refine Wc.block ?_
      refine Wc.loop (fun m E wv => ∃ (v16_0 : Int), E 2 = .bool false ∧ E 14 = .slice A9 y7.1.length c11 ∧ E 15 = .int .i64 (y7.1.length : Int) ∧ E 16 = .int .i64 v16_0 ∧ I64 v16_0 ∧ Cx (fun _ => False) O0 w wv [.own 27 (.sl (.int .i64)) (.slice A9 y7.1.length c11) y7.1] ∧ loopN m (F.artin_Trivial_b0 n y7) v16_0 = some o24) n ⟨0, e2, rfl, rfl, rfl, (show I64 0 from by unfold I64; omega), hC.sel [0] (by decide), hl0⟩ ?_
      have hbK0 := hb
      clear hb hC hl0
      rintro m27 E29 w28 ⟨v16_0, e2, e14, e15, e16, hrv16_0, hC, hl0⟩ K26 hK26
      obtain ⟨m27', o30, rfl, hb, hl0⟩ := loopN_some hl0
      unfold F.artin_Trivial_b0 at hb
      refine Wc.seq fun K31 hK31 => ?_
      refine Wc.region (by decide +kernel) ?_
      refine lex.pure (v := .bool (decide (v16_0 < (y7.1.length : Int)))) (pu_lss (k := .i64) (a := v16_0) (b := (y7.1.length : Int)) e16 e15) ?_
      refine lex.nil ?_
      refine hK31 _ _ ?_
      refine Wc.seq fun K32 hK32 => ?_
      refine Wc.cond (t := (decide (v16_0 < (y7.1.length : Int)))) (rfl) (fun hq33 => ?_) (fun hq33 => ?_)
      · replace hb := (cT hq33).symm.trans hb
        refine Wc.skip ?_
        refine hK32 _ _ ?_
        refine Wc.seq fun K34 hK34 => ?_
        refine Wc.block ?_
        refine Wc.seq fun K35 hK35 => ?_
        refine Wc.region (by decide +kernel) ?_
        refine lex.pure (v := .int .i64 v16_0) (pu_move e16) ?_
        obtain ⟨x36, h37, hb⟩ := bd hb
        obtain ⟨ad38, cs39, hA, hc40, hr41⟩ := hC.elo (i := 0) rfl (get_some h37).2
        subst hA
        refine lex.pure (v := .pointer (some (ad38.add (v16_0.toNat * 1)))) (pu_index (a := v16_0) Try.underlying37 Try.sizeOf27 e14 e16 (get_some h37).1) ?_
        have hR := hr41
        obtain ⟨A42, c43, rfl, hl44, hc45, _⟩ := hr41
        replace hC := hC.ro hR
        clear hR
        refine lex.val (v := .slice A42 x36.length c43) (ld_one Try.isAgg27 rfl (hc40 0 _ rfl)) ?_
        refine lex.pure (v := .int .i64 v16_0) (pu_assign rfl) ?_
        refine lex.pure (v := .slice A42 x36.length c43) (pu_assign rfl) ?_
        refine lex.nil ?_
        refine hK35 _ _ ?_
        refine Wc.seq fun K47 hK47 => ?_
        refine Wc.region (by decide +kernel) ?_
        refine lex.pure (v := .slice A42 x36.length c43) (pu_move rfl) ?_
        refine lex.pure (v := .int .i64 v16_0) (pu_move rfl) ?_
        obtain ⟨z48, h49, hb⟩ := bd hb
        refine lex.pure (v := .int .i64 z48) (pu_addc (a := v16_0) (b := 1) rfl rfl h49) ?_
        refine lex.op (hC.lit (s := (.int .i64)) (vs := [.int .i64 z48]) (xs := [z48]) Try.underlying27 Try.type3 rfl rfl (Nat.le_of_ble_eq_true rfl) rfl rfl (by simp [Value.cells, Sh.n]) rfl (show Elems _ _ (.int .i64) ([.int .i64 z48] ++ ([])) ([z48] : List Int) from Elems.cons (⟨rfl, I64.wr (chk_rng h49)⟩) (Elems.nil _ _ _))) ?_
        rintro _ w54 ⟨A50, c51, rfl, hl52, hc53, hC, hF, hN⟩
        clear hF hN
        obtain ⟨y56, h57, hb⟩ := bd hb
        refine lex.cl (⟨_, _, op_call (vs := [.slice A42 x36.length c43, .slice A50 ((([z48] : List Int)).length) c51]) Try.call24 rfl rfl rfl, slices_Equal_Word_int_ok n (hC.lentLt [.slice A50 ((([z48] : List Int)).length) c51]) ((hC.rd (i := 1) rfl).lent [.slice A50 ((([z48] : List Int)).length) c51]) ((hC.ow (i := 0) rfl).lend (vs := [.slice A50 ((([z48] : List Int)).length) c51]) (by simp)) h57⟩) ?_
        rintro _ w58 ⟨rfl, hK⟩
        replace hC := hC.mergeF hK rfl
        clear hK
        refine lex.pure (v := .bool (!y56)) (pu_not (q := y56) rfl) ?_
        refine lex.nil ?_
        refine hK47 _ _ ?_
        refine Wc.cond (t := (!y56)) (rfl) (fun hq59 => ?_) (fun hq59 => ?_)
        · replace hb := (cT hq59).symm.trans hb
          refine Wc.seq fun K60 hK60 => ?_
          refine Wc.region (by decide +kernel) ?_
          refine lex.pure (v := .bool false) (pu_assign rfl) ?_
          refine lex.nil ?_
          refine hK60 _ _ ?_
          obtain rfl := Option.some.inj hb
          obtain rfl := (lX hl0).symm
          replace hb := hbK0
          obtain rfl := Option.some.inj hb
          refine Wc.ret ?_
          refine hKR _ _ ?_
          refine ⟨_, res1 Try.results22 (show RV _ _ _ (.tmp _) (.bool false) from rfl), _, rfl, rfl, hC.sel [] (by decide)⟩
        · replace hb := (cF hq59).symm.trans hb
          refine Wc.skip ?_
          refine hK34 _ _ ?_
          refine Wc.region (by decide +kernel) ?_
          obtain ⟨z61, h62, hb⟩ := bd hb
          refine lex.pure (v := .int .i64 z61) (pu_addc (a := v16_0) (b := 1) e16 rfl h62) ?_
          refine lex.pure (v := .int .i64 z61) (pu_move rfl) ?_
          refine lex.nil ?_
          obtain rfl := Option.some.inj hb
          exact hK26 m27' _ _ (Nat.lt_succ_self _) ⟨z61, e2, e14, e15, rfl, (chk_rng h62), hC.sel [2] (by decide), lN hl0⟩
      · replace hb := (cF hq33).symm.trans hb
        refine Wc.exit rfl ?_
        obtain rfl := Option.some.inj hb
        obtain rfl := (lX hl0).symm
        exact hK25 _ _ ⟨v16_0, e2, hrv16_0, hC.sel [] (by decide), hbK0⟩
    · clear hb hC hl0
      rintro E64 w63 ⟨v16_0, e2, hrv16_0, hC, hb⟩
      refine hK22 _ _ ?_
      refine Wc.seq fun K65 hK65 => ?_
      refine Wc.region (by decide +kernel) ?_
      refine lex.pure (v := .bool true) (pu_assign rfl) ?_
      refine lex.nil ?_
      refine hK65 _ _ ?_
      obtain rfl := Option.some.inj hb
      refine Wc.ret ?_
      refine hKR _ _ ?_
      refine ⟨_, res1 Try.results22 (show RV _ _ _ (.tmp _) (.bool true) from rfl), _, rfl, rfl, hC.sel [] (by decide)⟩
end Go.Proofs.Ytlkmcbgkohpmiaa
