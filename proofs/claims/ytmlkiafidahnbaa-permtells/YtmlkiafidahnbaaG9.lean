/- The walks: part 9. -/
import Derived.Test.YtmlkiafidahnbaaS
set_option linter.unusedVariables false
set_option linter.unusedSimpArgs false
namespace Go.Proofs.Ytmlkiafidahnbaa
open Ev
set_option maxRecDepth 100000 in
set_option maxHeartbeats 4000000 in
theorem ref30_Cycles_ok (n : Nat) {w : World} {O0 : List Nat} (hO : ∀ k ∈ O0, k < w.heap.size) {Ap_0 : Option Addr} {mp_0 cp_0 : Nat} {p_0 : List Int} (hp_0 : Rep O0 w (.sl (.int .i64)) [.slice Ap_0 mp_0 cp_0] p_0) {r : (List (List Int))} (hb : F.ref30_Cycles n p_0 = some r) :
    Calls Try.prog 28 #[.slice Ap_0 mp_0 cp_0] w fun e w' => ∃ v, e = .returned v ∧ ∃ (A0 : Option Addr) (m0 c0 : Nat), v = .slice A0 m0 c0 ∧ Cx (fun _ => False) O0 w w' [.own 28 (.sl (.int .i64)) (.slice A0 m0 c0) r] := by
  unfold F.ref30_Cycles at hb
  have hC := Cx.start hO
  replace hC := hC.arg rfl hp_0
  clear hO
  obtain ⟨rfl, hlp_0, hcp_0⟩ := hp_0.sl_len
  refine calls_of_Wc Try.func28 rfl (by rw [Try.ntmps28]; exact Nat.le_of_ble_eq_true rfl) fun KR hKR => ?_
  refine Wc.seq fun K2 hK2 => ?_
  refine Wc.region (by decide +kernel) ?_
  refine lex.pure (v := .slice none 0 0) (pu_assign rfl) ?_
  refine lex.nil ?_
  refine hK2 _ _ ?_
  refine Wc.seq fun K3 hK3 => ?_
  refine Wc.region (by decide +kernel) ?_
  refine lex.pure (v := .slice none 0 0) (pu_assign rfl) ?_
  refine lex.nil ?_
  refine hK3 _ _ ?_
  refine Wc.seq fun K4 hK4 => ?_
  refine Wc.region (by decide +kernel) ?_
  refine lex.pure (v := .slice Ap_0 p_0.length cp_0) (pu_move rfl) ?_
  refine lex.pure (v := .int .i64 (p_0.length : Int)) (pu_len (A := Ap_0) (n := p_0.length) (m := cp_0) Try.underlying28 rfl) ?_
  obtain ⟨u5, h6, hb⟩ := bd hb
  refine lex.op (hC.make (s := .bool) (n := (p_0.length : Int)) Try.underlying63 Try.type4 rfl rfl rfl rfl rfl (pos_some h6).1 (pos_some h6).2 (by decide)) ?_
  rintro _ w11 ⟨A7, c8, rfl, hl9, hc10, hC, hF, hN⟩
  clear hF hN
  refine lex.pure (v := .slice A7 (((List.replicate (p_0.length : Int).toNat false)).length) c8) (pu_assign rfl) ?_
  refine lex.nil ?_
  refine hK4 _ _ ?_
  refine Wc.seq fun K13 hK13 => ?_
  refine Wc.seq fun K14 hK14 => ?_
  refine Wc.region (by decide +kernel) ?_
  refine lex.pure (v := .int .i64 0) (pu_assign rfl) ?_
  refine lex.nil ?_
  refine hK14 _ _ ?_
  replace hC := hC.nil 28 (.sl (.int .i64))
  obtain ⟨o16, hl0, hb⟩ := bd hb
  refine Wc.cut (fun E wv => ∃ (l3_0 : List (List Int)) (v5_0 : Int) (qf12_0 : List Bool) (Al3_0 : Option Addr) (ml3_0 cl3_0 : Nat), E 2 = .slice none 0 0 ∧ E 3 = .slice Al3_0 ml3_0 cl3_0 ∧ I64 v5_0 ∧ Cx (fun _ => False) O0 w wv [.own 28 (.sl (.int .i64)) (.slice Al3_0 ml3_0 cl3_0) l3_0] ∧ (some l3_0 : Option ((List (List Int)))) = some r) (fun K17 hK17 => ?_) ?_
  · refine Wc.block ?_
    refine Wc.loop (fun m E wv => ∃ (l3_0 : List (List Int)) (v5_0 : Int) (qf12_0 : List Bool) (Al3_0 : Option Addr) (ml3_0 cl3_0 : Nat), E 0 = .slice Ap_0 p_0.length cp_0 ∧ E 2 = .slice none 0 0 ∧ E 3 = .slice Al3_0 ml3_0 cl3_0 ∧ E 4 = .slice A7 (((List.replicate (p_0.length : Int).toNat false)).length) c8 ∧ E 5 = .int .i64 v5_0 ∧ I64 v5_0 ∧ Cx (fun _ => False) O0 w wv [.ro (.sl (.int .i64)) [.slice Ap_0 p_0.length cp_0] p_0, .own 28 (.sl (.int .i64)) (.slice Al3_0 ml3_0 cl3_0) l3_0, .own 4 .bool (.slice A7 (((List.replicate (p_0.length : Int).toNat false)).length) c8) qf12_0] ∧ loopN m (F.ref30_Cycles_b0 n p_0) (l3_0, v5_0, qf12_0) = some o16) n ⟨([] : List (List Int)), 0, (List.replicate (p_0.length : Int).toNat false), none, 0, 0, rfl, rfl, rfl, rfl, rfl, (show I64 0 from by unfold I64; omega), hC.sel [2, 0, 1] (by decide), hl0⟩ ?_
    have hbK0 := hb
    clear hb hC hl0
    rintro m19 E21 w20 ⟨l3_0, v5_0, qf12_0, Al3_0, ml3_0, cl3_0, e0, e2, e3, e4, e5, hrv5_0, hC, hl0⟩ K18 hK18
    obtain ⟨m19', o22, rfl, hb, hl0⟩ := loopN_some hl0
    unfold F.ref30_Cycles_b0 at hb
    obtain ⟨rfl, hll3_0, hcl3_0⟩ := (hC.ow (i := 1) rfl).sl_len
    refine Wc.seq fun K23 hK23 => ?_
    refine Wc.seq fun K24 hK24 => ?_
    refine Wc.region (by decide +kernel) ?_
    refine lex.pure (v := .int .i64 v5_0) (pu_move e5) ?_
    refine lex.pure (v := .slice Ap_0 p_0.length cp_0) (pu_move e0) ?_
    refine lex.pure (v := .int .i64 (p_0.length : Int)) (pu_len (A := Ap_0) (n := p_0.length) (m := cp_0) Try.underlying28 rfl) ?_
    refine lex.pure (v := .bool (decide (v5_0 < (p_0.length : Int)))) (pu_lss (k := .i64) (a := v5_0) (b := (p_0.length : Int)) rfl rfl) ?_
    refine lex.nil ?_
    refine hK24 _ _ ?_
    refine Wc.cond (t := (decide (v5_0 < (p_0.length : Int)))) (rfl) (fun hq25 => ?_) (fun hq25 => ?_)
    · replace hb := (cT hq25).symm.trans hb
      refine Wc.skip ?_
      refine hK23 _ _ ?_
      refine Wc.seq fun K26 hK26 => ?_
      refine Wc.block ?_
      refine Wc.seq fun K27 hK27 => ?_
      refine Wc.region (by decide +kernel) ?_
      refine lex.pure (v := .slice none 0 0) (pu_assign rfl) ?_
      refine lex.nil ?_
      refine hK27 _ _ ?_
      refine Wc.seq fun K28 hK28 => ?_
      refine Wc.seq fun K29 hK29 => ?_
      refine Wc.region (by decide +kernel) ?_
      refine lex.pure (v := .int .i64 v5_0) (pu_move e5) ?_
      refine lex.pure (v := .int .i64 v5_0) (pu_assign rfl) ?_
      refine lex.nil ?_
      refine hK29 _ _ ?_
      replace hC := hC.nil 3 (.int .i64)
      obtain ⟨o31, hl1, hb⟩ := bd hb
      refine Wc.cut (fun E wv => ∃ (l6_1 : List Int) (v7_1 : Int) (qf12_1 : List Bool) (Al6_1 : Option Addr) (ml6_1 cl6_1 : Nat), E 0 = .slice Ap_0 p_0.length cp_0 ∧ E 2 = .slice none 0 0 ∧ E 3 = .slice Al3_0 l3_0.length cl3_0 ∧ E 4 = .slice A7 (((List.replicate (p_0.length : Int).toNat false)).length) c8 ∧ E 5 = .int .i64 v5_0 ∧ E 6 = .slice Al6_1 ml6_1 cl6_1 ∧ E 7 = .int .i64 v7_1 ∧ E 14 = .bool (decide (v5_0 < (p_0.length : Int))) ∧ I64 v7_1 ∧ Cx (fun _ => False) O0 w wv [.ro (.sl (.int .i64)) [.slice Ap_0 p_0.length cp_0] p_0, .own 28 (.sl (.int .i64)) (.slice Al3_0 l3_0.length cl3_0) l3_0, .own 4 .bool (.slice A7 (((List.replicate (p_0.length : Int).toNat false)).length) c8) qf12_1, .own 3 (.int .i64) (.slice Al6_1 ml6_1 cl6_1) l6_1] ∧ (cond (decide (0 < (l6_1.length : Int))) ((lim (l3_0.length + ([l6_1] : List (List Int)).length)).bind fun u86 => (chk (v5_0 + 1)).bind fun z93 => some (.inl ((l3_0 ++ ([l6_1] : List (List Int))), z93, qf12_1))) ((chk (v5_0 + 1)).bind fun z95 => some (.inl (l3_0, z95, qf12_1))) : Option (((List (List Int)) × Int × (List Bool)) ⊕ (((List (List Int)) × Int × (List Bool))))) = some o22) (fun K32 hK32 => ?_) ?_
      · refine Wc.block ?_
        refine Wc.loop (fun m E wv => ∃ (l6_1 : List Int) (v7_1 : Int) (qf12_1 : List Bool) (Al6_1 : Option Addr) (ml6_1 cl6_1 : Nat), E 0 = .slice Ap_0 p_0.length cp_0 ∧ E 2 = .slice none 0 0 ∧ E 3 = .slice Al3_0 l3_0.length cl3_0 ∧ E 4 = .slice A7 (((List.replicate (p_0.length : Int).toNat false)).length) c8 ∧ E 5 = .int .i64 v5_0 ∧ E 6 = .slice Al6_1 ml6_1 cl6_1 ∧ E 7 = .int .i64 v7_1 ∧ E 14 = .bool (decide (v5_0 < (p_0.length : Int))) ∧ I64 v7_1 ∧ Cx (fun _ => False) O0 w wv [.ro (.sl (.int .i64)) [.slice Ap_0 p_0.length cp_0] p_0, .own 28 (.sl (.int .i64)) (.slice Al3_0 l3_0.length cl3_0) l3_0, .own 4 .bool (.slice A7 (((List.replicate (p_0.length : Int).toNat false)).length) c8) qf12_1, .own 3 (.int .i64) (.slice Al6_1 ml6_1 cl6_1) l6_1] ∧ loopN m (F.ref30_Cycles_b1 n p_0) (l6_1, v7_1, qf12_1) = some o31) n ⟨([] : List Int), v5_0, qf12_0, none, 0, 0, e0, e2, e3, e4, e5, rfl, rfl, rfl, hrv5_0, hC.sel [1, 2, 3, 0] (by decide), hl1⟩ ?_
        have hbK1 := hb
        clear hb hC hl1
        rintro m34 E36 w35 ⟨l6_1, v7_1, qf12_1, Al6_1, ml6_1, cl6_1, e0, e2, e3, e4, e5, e6, e7, e14, hrv7_1, hC, hl1⟩ K33 hK33
        obtain ⟨m34', o37, rfl, hb, hl1⟩ := loopN_some hl1
        unfold F.ref30_Cycles_b1 at hb
        obtain ⟨rfl, hll6_1, hcl6_1⟩ := (hC.ow (i := 3) rfl).sl_len
        refine Wc.seq fun K38 hK38 => ?_
        refine Wc.seq fun K39 hK39 => ?_
        refine Wc.region (by decide +kernel) ?_
        refine lex.pure (v := .slice A7 (((List.replicate (p_0.length : Int).toNat false)).length) c8) (pu_move e4) ?_
        refine lex.pure (v := .int .i64 v7_1) (pu_move e7) ?_
        obtain ⟨x40, h41, hb⟩ := bd hb
        obtain ⟨ad42, cs43, hA, hc44, hr45⟩ := hC.elo (i := 2) rfl (get_some h41).2
        subst hA
        refine lex.pure (v := .pointer (some (ad42.add (v7_1.toNat * 1)))) (pu_index (a := v7_1) Try.underlying63 Try.sizeOf4 rfl rfl (by rw [(hC.ow (i := 2) rfl).sl_len.1]; exact (get_some h41).1)) ?_
        obtain rfl := (show _ = _ from hr45)
        refine lex.val (v := .bool x40) (ld_one Try.isAgg4 rfl (hc44 0 _ rfl)) ?_
        refine lex.pure (v := .bool (!x40)) (pu_not (q := x40) rfl) ?_
        refine lex.nil ?_
        refine hK39 _ _ ?_
        refine Wc.cond (t := (!x40)) (rfl) (fun hq46 => ?_) (fun hq46 => ?_)
        · replace hb := (cT hq46).symm.trans hb
          refine Wc.skip ?_
          refine hK38 _ _ ?_
          refine Wc.seq fun K47 hK47 => ?_
          refine Wc.block ?_
          refine Wc.seq fun K48 hK48 => ?_
          refine Wc.region (by decide +kernel) ?_
          refine lex.pure (v := .slice (some ad42) (((List.replicate (p_0.length : Int).toNat false)).length) c8) (pu_move e4) ?_
          refine lex.pure (v := .int .i64 v7_1) (pu_move e7) ?_
          obtain ⟨x49, h50, hb⟩ := bd hb
          obtain ⟨ad51, cs52, hA, hc53, hr54⟩ := hC.elo (i := 2) rfl (get_some h50).2
          obtain rfl := Option.some.inj hA
          refine lex.pure (v := .pointer (some (ad42.add (v7_1.toNat * 1)))) (pu_index (a := v7_1) Try.underlying63 Try.sizeOf4 rfl rfl (by rw [(hC.ow (i := 2) rfl).sl_len.1]; exact (get_some h50).1)) ?_
          refine lex.sk (hC.put (i := 2) rfl rfl Try.sizeOf4 (k := v7_1.toNat) (a := true) (by have := (get_some h50).1; simp at this ⊢; omega) (show Rep _ _ .bool _ _ from rfl) rfl rfl rfl) ?_
          rintro w55 ⟨hC, hF⟩
          refine lex.nil ?_
          refine hK48 _ _ ?_
          refine Wc.region (by decide +kernel) ?_
          refine lex.pure (v := .slice Al6_1 l6_1.length cl6_1) (pu_move e6) ?_
          refine lex.pure (v := .int .i64 v7_1) (pu_move e7) ?_
          refine lex.op (hC.lit (s := (.int .i64)) (vs := [.int .i64 v7_1]) (xs := [v7_1]) Try.underlying28 Try.type3 rfl rfl (Nat.le_of_ble_eq_true rfl) rfl rfl (by simp [Value.cells, Sh.n]) rfl (show Elems _ _ (.int .i64) ([.int .i64 v7_1] ++ ([])) ([v7_1] : List Int) from Elems.cons (⟨rfl, I64.wr hrv7_1⟩) (Elems.nil _ _ _))) ?_
          rintro _ w60 ⟨A56, c57, rfl, hl58, hc59, hC, hF, hN⟩
          clear hF hN
          obtain ⟨u62, h63, hb⟩ := bd hb
          refine lex.op (hC.app (i := 4) (s := (.int .i64)) (xs := l6_1) (ys := ([v7_1] : List Int)) (m := ((([v7_1] : List Int)).length)) rfl Try.underlying28 Try.underlying28 Try.type3 rfl rfl rfl (hC.srco (i := 0) rfl) rfl rfl (by have := lim_some h63; simp at this ⊢ <;> omega) (by decide)) ?_
          rintro _ w68 ⟨A64, c65, rfl, hl66, hc67, hC, hF, hN⟩
          clear hF hN
          refine lex.pure (v := .slice A64 ((l6_1 ++ ([v7_1] : List Int)).length) c65) (pu_assign rfl) ?_
          refine lex.nil ?_
          refine hK47 _ _ ?_
          refine Wc.fresh fun E69 hE => ?_
          have e0 : E69 0 = .slice Ap_0 p_0.length cp_0 := (congrFun hE 0).trans e0
          have e2 : E69 2 = .slice none 0 0 := (congrFun hE 2).trans e2
          have e3 : E69 3 = .slice Al3_0 l3_0.length cl3_0 := (congrFun hE 3).trans e3
          have e4 : E69 4 = .slice (some ad42) (((List.replicate (p_0.length : Int).toNat false)).length) c8 := (congrFun hE 4).trans e4
          have e5 : E69 5 = .int .i64 v5_0 := (congrFun hE 5).trans e5
          have e6 : E69 6 = .slice A64 ((l6_1 ++ ([v7_1] : List Int)).length) c65 := (congrFun hE 6).trans rfl
          have e7 : E69 7 = .int .i64 v7_1 := (congrFun hE 7).trans e7
          have e14 : E69 14 = .bool (decide (v5_0 < (p_0.length : Int))) := (congrFun hE 14).trans e14
          have e22 : E69 22 = .bool (!x40) := (congrFun hE 22).trans rfl
          clear hE
          refine Wc.region (by decide +kernel) ?_
          refine lex.pure (v := .slice Ap_0 p_0.length cp_0) (pu_move e0) ?_
          refine lex.pure (v := .int .i64 v7_1) (pu_move e7) ?_
          obtain ⟨x70, h71, hb⟩ := bd hb
          obtain ⟨ad72, cs73, hA, hc74, hr75⟩ := hC.elr (i := 1) rfl (get_some h71).2
          subst hA
          refine lex.pure (v := .pointer (some (ad72.add (v7_1.toNat * 1)))) (pu_index (a := v7_1) Try.underlying28 Try.sizeOf3 rfl rfl (get_some h71).1) ?_
          obtain ⟨rfl, hr75'⟩ := hr75
          refine lex.val (v := .int .i64 x70) (ld_one Try.isAgg3 rfl (hc74 0 _ rfl)) ?_
          refine lex.pure (v := .int .i64 x70) (pu_assign rfl) ?_
          refine lex.nil ?_
          obtain rfl := Option.some.inj hb
          exact hK33 m34' _ _ (Nat.lt_succ_self _) ⟨(l6_1 ++ ([v7_1] : List Int)), x70, (qf12_1.set v7_1.toNat true), A64, (l6_1 ++ ([v7_1] : List Int)).length, c65, e0, e2, e3, e4, e5, e6, rfl, e14, (wrap_I64 hr75'), hC.sel [1, 2, 3, 4] (by decide), lN hl1⟩
        · replace hb := (cF hq46).symm.trans hb
          refine Wc.exit rfl ?_
          obtain rfl := Option.some.inj hb
          obtain rfl := (lX hl1).symm
          exact hK32 _ _ ⟨l6_1, v7_1, qf12_1, Al6_1, l6_1.length, cl6_1, e0, e2, e3, e4, e5, e6, e7, e14, hrv7_1, hC.sel [0, 1, 2, 3] (by decide), hbK1⟩
      · clear hb hC hl1
        rintro E77 w76 ⟨l6_1, v7_1, qf12_1, Al6_1, ml6_1, cl6_1, e0, e2, e3, e4, e5, e6, e7, e14, hrv7_1, hC, hb⟩
        obtain ⟨rfl, hll6_1, hcl6_1⟩ := (hC.ow (i := 3) rfl).sl_len
        refine hK28 _ _ ?_
        refine Wc.seq fun K78 hK78 => ?_
        refine Wc.region (by decide +kernel) ?_
        refine lex.pure (v := .slice Al6_1 l6_1.length cl6_1) (pu_move e6) ?_
        refine lex.pure (v := .int .i64 (l6_1.length : Int)) (pu_len (A := Al6_1) (n := l6_1.length) (m := cl6_1) Try.underlying28 rfl) ?_
        refine lex.pure (v := .bool (decide (0 < (l6_1.length : Int)))) (pu_gtr (k := .i64) (a := (l6_1.length : Int)) (b := 0) rfl rfl) ?_
        refine lex.nil ?_
        refine hK78 _ _ ?_
        refine Wc.cond (t := (decide (0 < (l6_1.length : Int)))) (rfl) (fun hq79 => ?_) (fun hq79 => ?_)
        · replace hb := (cT hq79).symm.trans hb
          refine Wc.region (by decide +kernel) ?_
          refine lex.pure (v := .slice Al3_0 l3_0.length cl3_0) (pu_move e3) ?_
          refine lex.pure (v := .slice Al6_1 l6_1.length cl6_1) (pu_move e6) ?_
          replace hC := hC.freeze (i := 3) rfl (hC.own_new (i := 3) rfl)
          refine lex.op (hC.lit (s := (.sl (.int .i64))) (vs := [.slice Al6_1 l6_1.length cl6_1]) (xs := [l6_1]) Try.underlying23 Try.type28 rfl rfl (Nat.le_of_ble_eq_true rfl) rfl rfl (by simp [Value.cells, Sh.n]) rfl (show Elems _ _ (.sl (.int .i64)) ([.slice Al6_1 l6_1.length cl6_1] ++ ([])) ([l6_1] : List (List Int)) from Elems.cons (hC.rd (i := 3) rfl) (Elems.nil _ _ _))) ?_
          rintro _ w84 ⟨A80, c81, rfl, hl82, hc83, hC, hF, hN⟩
          clear hF hN
          obtain ⟨u86, h87, hb⟩ := bd hb
          refine lex.op (hC.app (i := 2) (s := (.sl (.int .i64))) (xs := l3_0) (ys := ([l6_1] : List (List Int))) (m := ((([l6_1] : List (List Int))).length)) rfl Try.underlying23 Try.underlying23 Try.type28 rfl rfl rfl (hC.srco (i := 0) rfl) rfl rfl (by have := lim_some h87; simp at this ⊢ <;> omega) (by decide)) ?_
          rintro _ w92 ⟨A88, c89, rfl, hl90, hc91, hC, hF, hN⟩
          clear hF hN
          refine lex.pure (v := .slice A88 ((l3_0 ++ ([l6_1] : List (List Int))).length) c89) (pu_assign rfl) ?_
          refine lex.nil ?_
          refine hK26 _ _ ?_
          refine Wc.region (by decide +kernel) ?_
          refine lex.pure (v := .int .i64 v5_0) (pu_move e5) ?_
          obtain ⟨z93, h94, hb⟩ := bd hb
          refine lex.pure (v := .int .i64 z93) (pu_addc (a := v5_0) (b := 1) rfl rfl h94) ?_
          refine lex.pure (v := .int .i64 z93) (pu_assign rfl) ?_
          refine lex.nil ?_
          obtain rfl := Option.some.inj hb
          exact hK18 m19' _ _ (Nat.lt_succ_self _) ⟨(l3_0 ++ ([l6_1] : List (List Int))), z93, qf12_1, A88, (l3_0 ++ ([l6_1] : List (List Int))).length, c89, e0, e2, rfl, e4, rfl, (chk_rng h94), hC.sel [1, 2, 3] (by decide), lN hl0⟩
        · replace hb := (cF hq79).symm.trans hb
          refine Wc.skip ?_
          refine hK26 _ _ ?_
          refine Wc.region (by decide +kernel) ?_
          refine lex.pure (v := .int .i64 v5_0) (pu_move e5) ?_
          obtain ⟨z95, h96, hb⟩ := bd hb
          refine lex.pure (v := .int .i64 z95) (pu_addc (a := v5_0) (b := 1) rfl rfl h96) ?_
          refine lex.pure (v := .int .i64 z95) (pu_assign rfl) ?_
          refine lex.nil ?_
          obtain rfl := Option.some.inj hb
          exact hK18 m19' _ _ (Nat.lt_succ_self _) ⟨l3_0, z95, qf12_1, Al3_0, l3_0.length, cl3_0, e0, e2, e3, e4, rfl, (chk_rng h96), hC.sel [0, 1, 2] (by decide), lN hl0⟩
    · replace hb := (cF hq25).symm.trans hb
      refine Wc.exit rfl ?_
      obtain rfl := Option.some.inj hb
      obtain rfl := (lX hl0).symm
      exact hK17 _ _ ⟨l3_0, v5_0, qf12_0, Al3_0, l3_0.length, cl3_0, e2, e3, hrv5_0, hC.sel [1] (by decide), hbK0⟩
  · clear hb hC hl0
    rintro E98 w97 ⟨l3_0, v5_0, qf12_0, Al3_0, ml3_0, cl3_0, e2, e3, hrv5_0, hC, hb⟩
    obtain ⟨rfl, hll3_0, hcl3_0⟩ := (hC.ow (i := 0) rfl).sl_len
    refine hK13 _ _ ?_
    refine Wc.seq fun K99 hK99 => ?_
    refine Wc.region (by decide +kernel) ?_
    refine lex.pure (v := .slice Al3_0 l3_0.length cl3_0) (pu_move e3) ?_
    refine lex.pure (v := .slice Al3_0 l3_0.length cl3_0) (pu_assign rfl) ?_
    refine lex.nil ?_
    refine hK99 _ _ ?_
    obtain rfl := Option.some.inj hb
    refine Wc.ret ?_
    refine hKR _ _ ?_
    refine ⟨_, res1 Try.results28 (show RV _ _ _ (.tmp _) (.slice Al3_0 l3_0.length cl3_0) from rfl), _, rfl, Al3_0, l3_0.length, cl3_0, rfl, hC.sel [0] (by decide)⟩

set_option maxRecDepth 100000 in
set_option maxHeartbeats 4000000 in
theorem ref30_Type_ok (n : Nat) {w : World} {O0 : List Nat} (hO : ∀ k ∈ O0, k < w.heap.size) {Ap_0 : Option Addr} {mp_0 cp_0 : Nat} {p_0 : List Int} (hp_0 : Rep O0 w (.sl (.int .i64)) [.slice Ap_0 mp_0 cp_0] p_0) {r : (List Int)} (hb : F.ref30_Type n p_0 = some r) :
    Calls Try.prog 30 #[.slice Ap_0 mp_0 cp_0] w fun e w' => ∃ v, e = .returned v ∧ ∃ (A0 : Option Addr) (m0 c0 : Nat), v = .slice A0 m0 c0 ∧ Cx (fun _ => False) O0 w w' [.own 3 (.int .i64) (.slice A0 m0 c0) r] := by
  unfold F.ref30_Type at hb
  have hC := Cx.start hO
  replace hC := hC.arg rfl hp_0
  clear hO
  obtain ⟨rfl, hlp_0, hcp_0⟩ := hp_0.sl_len
  refine calls_of_Wc Try.func30 rfl (by rw [Try.ntmps30]; exact Nat.le_of_ble_eq_true rfl) fun KR hKR => ?_
  refine Wc.seq fun K2 hK2 => ?_
  refine Wc.region (by decide +kernel) ?_
  refine lex.pure (v := .slice none 0 0) (pu_assign rfl) ?_
  refine lex.nil ?_
  refine hK2 _ _ ?_
  refine Wc.seq fun K3 hK3 => ?_
  refine Wc.region (by decide +kernel) ?_
  refine lex.pure (v := .slice Ap_0 p_0.length cp_0) (pu_move rfl) ?_
  obtain ⟨y4, h5, hb⟩ := bd hb
  refine lex.cl (⟨_, _, op_call (vs := [.slice Ap_0 p_0.length cp_0]) Try.call28 rfl rfl rfl, ref30_Cycles_ok n hC.lt (hC.rd (i := 0) rfl) h5⟩) ?_
  rintro _ w10 ⟨A6, m7, c8, rfl, hK⟩
  replace hC := hC.merge hK
  clear hK
  obtain ⟨rfl, hl11, hc12⟩ := (hC.ow (i := 0) rfl).sl_len
  refine lex.pure (v := .slice A6 y4.length c8) (pu_assign rfl) ?_
  refine lex.nil ?_
  refine hK3 _ _ ?_
  refine Wc.seq fun K13 hK13 => ?_
  refine Wc.region (by decide +kernel) ?_
  refine lex.pure (v := .slice none 0 0) (pu_assign rfl) ?_
  refine lex.nil ?_
  refine hK13 _ _ ?_
  refine Wc.seq fun K14 hK14 => ?_
  refine Wc.seq fun K15 hK15 => ?_
  refine Wc.region (by decide +kernel) ?_
  refine lex.pure (v := .slice Ap_0 p_0.length cp_0) (pu_move rfl) ?_
  refine lex.pure (v := .int .i64 (p_0.length : Int)) (pu_len (A := Ap_0) (n := p_0.length) (m := cp_0) Try.underlying28 rfl) ?_
  refine lex.pure (v := .int .i64 (p_0.length : Int)) (pu_assign rfl) ?_
  refine lex.nil ?_
  refine hK15 _ _ ?_
  replace hC := hC.nil 3 (.int .i64)
  obtain ⟨o17, hl0, hb⟩ := bd hb
  refine Wc.cut (fun E wv => ∃ (l4_0 : List Int) (v5_0 : Int) (Al4_0 : Option Addr) (ml4_0 cl4_0 : Nat), E 2 = .slice none 0 0 ∧ E 4 = .slice Al4_0 ml4_0 cl4_0 ∧ I64 v5_0 ∧ Cx (fun _ => False) O0 w wv [.own 3 (.int .i64) (.slice Al4_0 ml4_0 cl4_0) l4_0] ∧ (some l4_0 : Option ((List Int))) = some r) (fun K18 hK18 => ?_) ?_
  · refine Wc.block ?_
    refine Wc.loop (fun m E wv => ∃ (l4_0 : List Int) (v5_0 : Int) (Al4_0 : Option Addr) (ml4_0 cl4_0 : Nat), E 2 = .slice none 0 0 ∧ E 3 = .slice A6 y4.length c8 ∧ E 4 = .slice Al4_0 ml4_0 cl4_0 ∧ E 5 = .int .i64 v5_0 ∧ I64 v5_0 ∧ Cx (fun _ => False) O0 w wv [.own 28 (.sl (.int .i64)) (.slice A6 y4.length c8) y4, .own 3 (.int .i64) (.slice Al4_0 ml4_0 cl4_0) l4_0] ∧ loopN m (F.ref30_Type_b0 n y4) (l4_0, v5_0) = some o17) n ⟨([] : List Int), (p_0.length : Int), none, 0, 0, rfl, rfl, rfl, rfl, (I64.len hlp_0 hcp_0), hC.sel [1, 0] (by decide), hl0⟩ ?_
    have hbK0 := hb
    clear hb hC hl0
    rintro m20 E22 w21 ⟨l4_0, v5_0, Al4_0, ml4_0, cl4_0, e2, e3, e4, e5, hrv5_0, hC, hl0⟩ K19 hK19
    obtain ⟨m20', o23, rfl, hb, hl0⟩ := loopN_some hl0
    unfold F.ref30_Type_b0 at hb
    obtain ⟨rfl, hll4_0, hcl4_0⟩ := (hC.ow (i := 1) rfl).sl_len
    refine Wc.seq fun K24 hK24 => ?_
    refine Wc.seq fun K25 hK25 => ?_
    refine Wc.region (by decide +kernel) ?_
    refine lex.pure (v := .int .i64 v5_0) (pu_move e5) ?_
    refine lex.pure (v := .bool (decide (0 < v5_0))) (pu_gtr (k := .i64) (a := v5_0) (b := 0) rfl rfl) ?_
    refine lex.nil ?_
    refine hK25 _ _ ?_
    refine Wc.cond (t := (decide (0 < v5_0))) (rfl) (fun hq26 => ?_) (fun hq26 => ?_)
    · replace hb := (cT hq26).symm.trans hb
      refine Wc.skip ?_
      refine hK24 _ _ ?_
      refine Wc.seq fun K27 hK27 => ?_
      refine Wc.block ?_
      refine Wc.seq fun K28 hK28 => ?_
      refine Wc.region (by decide +kernel) ?_
      refine lex.pure (v := .int .i64 0) (pu_assign rfl) ?_
      refine lex.nil ?_
      refine hK28 _ _ ?_
      obtain ⟨o29, hl1, hb⟩ := bd hb
      refine Wc.cut (fun E wv => ∃ (l4_1 : List Int) (v6_1 : Int) (Al4_1 : Option Addr) (ml4_1 cl4_1 : Nat), E 2 = .slice none 0 0 ∧ E 3 = .slice A6 y4.length c8 ∧ E 4 = .slice Al4_1 ml4_1 cl4_1 ∧ E 5 = .int .i64 v5_0 ∧ E 6 = .int .i64 v6_1 ∧ E 12 = .bool (decide (0 < v5_0)) ∧ I64 v6_1 ∧ Cx (fun _ => False) O0 w wv [.own 28 (.sl (.int .i64)) (.slice A6 y4.length c8) y4, .own 3 (.int .i64) (.slice Al4_1 ml4_1 cl4_1) l4_1] ∧ ((chk (v5_0 - 1)).bind fun z73 => some (.inl (l4_1, z73)) : Option (((List Int) × Int) ⊕ (((List Int) × Int)))) = some o23) (fun K30 hK30 => ?_) ?_
      · refine Wc.block ?_
        refine Wc.loop (fun m E wv => ∃ (l4_1 : List Int) (v6_1 : Int) (Al4_1 : Option Addr) (ml4_1 cl4_1 : Nat), E 2 = .slice none 0 0 ∧ E 3 = .slice A6 y4.length c8 ∧ E 4 = .slice Al4_1 ml4_1 cl4_1 ∧ E 5 = .int .i64 v5_0 ∧ E 6 = .int .i64 v6_1 ∧ E 12 = .bool (decide (0 < v5_0)) ∧ I64 v6_1 ∧ Cx (fun _ => False) O0 w wv [.own 28 (.sl (.int .i64)) (.slice A6 y4.length c8) y4, .own 3 (.int .i64) (.slice Al4_1 ml4_1 cl4_1) l4_1] ∧ loopN m (F.ref30_Type_b1 n y4 v5_0) (l4_1, v6_1) = some o29) n ⟨l4_0, 0, Al4_0, l4_0.length, cl4_0, e2, e3, e4, e5, rfl, rfl, (show I64 0 from by unfold I64; omega), hC.sel [0, 1] (by decide), hl1⟩ ?_
        have hbK1 := hb
        clear hb hC hl1
        rintro m32 E34 w33 ⟨l4_1, v6_1, Al4_1, ml4_1, cl4_1, e2, e3, e4, e5, e6, e12, hrv6_1, hC, hl1⟩ K31 hK31
        obtain ⟨m32', o35, rfl, hb, hl1⟩ := loopN_some hl1
        unfold F.ref30_Type_b1 at hb
        obtain ⟨rfl, hll4_1, hcl4_1⟩ := (hC.ow (i := 1) rfl).sl_len
        refine Wc.seq fun K36 hK36 => ?_
        refine Wc.seq fun K37 hK37 => ?_
        refine Wc.region (by decide +kernel) ?_
        refine lex.pure (v := .int .i64 v6_1) (pu_move e6) ?_
        refine lex.pure (v := .slice A6 y4.length c8) (pu_move e3) ?_
        refine lex.pure (v := .int .i64 (y4.length : Int)) (pu_len (A := A6) (n := y4.length) (m := c8) Try.underlying23 rfl) ?_
        refine lex.pure (v := .bool (decide (v6_1 < (y4.length : Int)))) (pu_lss (k := .i64) (a := v6_1) (b := (y4.length : Int)) rfl rfl) ?_
        refine lex.nil ?_
        refine hK37 _ _ ?_
        refine Wc.cond (t := (decide (v6_1 < (y4.length : Int)))) (rfl) (fun hq38 => ?_) (fun hq38 => ?_)
        · replace hb := (cT hq38).symm.trans hb
          refine Wc.skip ?_
          refine hK36 _ _ ?_
          refine Wc.seq fun K39 hK39 => ?_
          refine Wc.block ?_
          refine Wc.seq fun K40 hK40 => ?_
          refine Wc.region (by decide +kernel) ?_
          refine lex.pure (v := .slice A6 y4.length c8) (pu_move e3) ?_
          refine lex.pure (v := .int .i64 v6_1) (pu_move e6) ?_
          obtain ⟨x41, h42, hb⟩ := bd hb
          obtain ⟨ad43, cs44, hA, hc45, hr46⟩ := hC.elo (i := 0) rfl (get_some h42).2
          subst hA
          refine lex.pure (v := .pointer (some (ad43.add (v6_1.toNat * 1)))) (pu_index (a := v6_1) Try.underlying23 Try.sizeOf28 rfl rfl (get_some h42).1) ?_
          have hR := hr46
          obtain ⟨A47, c48, rfl, hl49, hc50, _⟩ := hr46
          replace hC := hC.ro hR
          clear hR
          refine lex.val (v := .slice A47 x41.length c48) (ld_one Try.isAgg28 rfl (hc45 0 _ rfl)) ?_
          refine lex.pure (v := .int .i64 (x41.length : Int)) (pu_len (A := A47) (n := x41.length) (m := c48) Try.underlying28 rfl) ?_
          refine lex.pure (v := .int .i64 v5_0) (pu_move e5) ?_
          refine lex.pure (v := .bool (decide ((x41.length : Int) = v5_0))) (pu_eql (k := .i64) (a := (x41.length : Int)) (b := v5_0) rfl rfl) ?_
          refine lex.nil ?_
          refine hK40 _ _ ?_
          refine Wc.fresh fun E52 hE => ?_
          have e2 : E52 2 = .slice none 0 0 := (congrFun hE 2).trans e2
          have e3 : E52 3 = .slice (some ad43) y4.length c8 := (congrFun hE 3).trans e3
          have e4 : E52 4 = .slice Al4_1 l4_1.length cl4_1 := (congrFun hE 4).trans e4
          have e5 : E52 5 = .int .i64 v5_0 := (congrFun hE 5).trans e5
          have e6 : E52 6 = .int .i64 v6_1 := (congrFun hE 6).trans e6
          have e12 : E52 12 = .bool (decide (0 < v5_0)) := (congrFun hE 12).trans e12
          have e18 : E52 18 = .bool (decide (v6_1 < (y4.length : Int))) := (congrFun hE 18).trans rfl
          have e27 : E52 27 = .bool (decide ((x41.length : Int) = v5_0)) := (congrFun hE 27).trans rfl
          clear hE
          refine Wc.cond (t := (decide ((x41.length : Int) = v5_0))) (e27) (fun hq53 => ?_) (fun hq53 => ?_)
          · replace hb := (cT hq53).symm.trans hb
            refine Wc.region (by decide +kernel) ?_
            refine lex.pure (v := .slice Al4_1 l4_1.length cl4_1) (pu_move e4) ?_
            refine lex.pure (v := .int .i64 v5_0) (pu_move e5) ?_
            refine lex.op (hC.lit (s := (.int .i64)) (vs := [.int .i64 v5_0]) (xs := [v5_0]) Try.underlying28 Try.type3 rfl rfl (Nat.le_of_ble_eq_true rfl) rfl rfl (by simp [Value.cells, Sh.n]) rfl (show Elems _ _ (.int .i64) ([.int .i64 v5_0] ++ ([])) ([v5_0] : List Int) from Elems.cons (⟨rfl, I64.wr hrv5_0⟩) (Elems.nil _ _ _))) ?_
            rintro _ w58 ⟨A54, c55, rfl, hl56, hc57, hC, hF, hN⟩
            clear hF hN
            obtain ⟨u60, h61, hb⟩ := bd hb
            refine lex.op (hC.app (i := 3) (s := (.int .i64)) (xs := l4_1) (ys := ([v5_0] : List Int)) (m := ((([v5_0] : List Int)).length)) rfl Try.underlying28 Try.underlying28 Try.type3 rfl rfl rfl (hC.srco (i := 0) rfl) rfl rfl (by have := lim_some h61; simp at this ⊢ <;> omega) (by decide)) ?_
            rintro _ w66 ⟨A62, c63, rfl, hl64, hc65, hC, hF, hN⟩
            clear hF hN
            refine lex.pure (v := .slice A62 ((l4_1 ++ ([v5_0] : List Int)).length) c63) (pu_assign rfl) ?_
            refine lex.nil ?_
            refine hK39 _ _ ?_
            refine Wc.region (by decide +kernel) ?_
            refine lex.pure (v := .int .i64 v6_1) (pu_move e6) ?_
            obtain ⟨z67, h68, hb⟩ := bd hb
            refine lex.pure (v := .int .i64 z67) (pu_addc (a := v6_1) (b := 1) rfl rfl h68) ?_
            refine lex.pure (v := .int .i64 z67) (pu_assign rfl) ?_
            refine lex.nil ?_
            obtain rfl := Option.some.inj hb
            exact hK31 m32' _ _ (Nat.lt_succ_self _) ⟨(l4_1 ++ ([v5_0] : List Int)), z67, A62, (l4_1 ++ ([v5_0] : List Int)).length, c63, e2, e3, rfl, e5, rfl, e12, (chk_rng h68), hC.sel [2, 3] (by decide), lN hl1⟩
          · replace hb := (cF hq53).symm.trans hb
            refine Wc.skip ?_
            refine hK39 _ _ ?_
            refine Wc.region (by decide +kernel) ?_
            refine lex.pure (v := .int .i64 v6_1) (pu_move e6) ?_
            obtain ⟨z69, h70, hb⟩ := bd hb
            refine lex.pure (v := .int .i64 z69) (pu_addc (a := v6_1) (b := 1) rfl rfl h70) ?_
            refine lex.pure (v := .int .i64 z69) (pu_assign rfl) ?_
            refine lex.nil ?_
            obtain rfl := Option.some.inj hb
            exact hK31 m32' _ _ (Nat.lt_succ_self _) ⟨l4_1, z69, Al4_1, l4_1.length, cl4_1, e2, e3, e4, e5, rfl, e12, (chk_rng h70), hC.sel [1, 2] (by decide), lN hl1⟩
        · replace hb := (cF hq38).symm.trans hb
          refine Wc.exit rfl ?_
          obtain rfl := Option.some.inj hb
          obtain rfl := (lX hl1).symm
          exact hK30 _ _ ⟨l4_1, v6_1, Al4_1, l4_1.length, cl4_1, e2, e3, e4, e5, e6, e12, hrv6_1, hC.sel [0, 1] (by decide), hbK1⟩
      · clear hb hC hl1
        rintro E72 w71 ⟨l4_1, v6_1, Al4_1, ml4_1, cl4_1, e2, e3, e4, e5, e6, e12, hrv6_1, hC, hb⟩
        obtain ⟨rfl, hll4_1, hcl4_1⟩ := (hC.ow (i := 1) rfl).sl_len
        refine hK27 _ _ ?_
        refine Wc.region (by decide +kernel) ?_
        refine lex.pure (v := .int .i64 v5_0) (pu_move e5) ?_
        obtain ⟨z73, h74, hb⟩ := bd hb
        refine lex.pure (v := .int .i64 z73) (pu_subc (a := v5_0) (b := 1) rfl rfl h74) ?_
        refine lex.pure (v := .int .i64 z73) (pu_assign rfl) ?_
        refine lex.nil ?_
        obtain rfl := Option.some.inj hb
        exact hK19 m20' _ _ (Nat.lt_succ_self _) ⟨l4_1, z73, Al4_1, l4_1.length, cl4_1, e2, e3, e4, rfl, (chk_rng h74), hC.sel [0, 1] (by decide), lN hl0⟩
    · replace hb := (cF hq26).symm.trans hb
      refine Wc.exit rfl ?_
      obtain rfl := Option.some.inj hb
      obtain rfl := (lX hl0).symm
      exact hK18 _ _ ⟨l4_0, v5_0, Al4_0, l4_0.length, cl4_0, e2, e4, hrv5_0, hC.sel [1] (by decide), hbK0⟩
  · clear hb hC hl0
    rintro E76 w75 ⟨l4_0, v5_0, Al4_0, ml4_0, cl4_0, e2, e4, hrv5_0, hC, hb⟩
    obtain ⟨rfl, hll4_0, hcl4_0⟩ := (hC.ow (i := 0) rfl).sl_len
    refine hK14 _ _ ?_
    refine Wc.seq fun K77 hK77 => ?_
    refine Wc.region (by decide +kernel) ?_
    refine lex.pure (v := .slice Al4_0 l4_0.length cl4_0) (pu_move e4) ?_
    refine lex.pure (v := .slice Al4_0 l4_0.length cl4_0) (pu_assign rfl) ?_
    refine lex.nil ?_
    refine hK77 _ _ ?_
    obtain rfl := Option.some.inj hb
    refine Wc.ret ?_
    refine hKR _ _ ?_
    refine ⟨_, res1 Try.results30 (show RV _ _ _ (.tmp _) (.slice Al4_0 l4_0.length cl4_0) from rfl), _, rfl, Al4_0, l4_0.length, cl4_0, rfl, hC.sel [0] (by decide)⟩
end Go.Proofs.Ytmlkiafidahnbaa
