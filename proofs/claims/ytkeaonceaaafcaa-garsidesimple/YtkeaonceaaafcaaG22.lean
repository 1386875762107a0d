/- The walks: part 22. -/
import Derived.Test.YtkeaonceaaafcaaS
import Derived.Test.YtkeaonceaaafcaaG0
import Derived.Test.YtkeaonceaaafcaaG2
import Derived.Test.YtkeaonceaaafcaaG3
import Derived.Test.YtkeaonceaaafcaaG4
import Derived.Test.YtkeaonceaaafcaaG6
import Derived.Test.YtkeaonceaaafcaaG9
import Derived.Test.YtkeaonceaaafcaaG16
import Derived.Test.YtkeaonceaaafcaaG19
set_option linter.unusedVariables false
set_option linter.unusedSimpArgs false
namespace Go.Proofs.Ytkeaonceaaafcaa
open Ev
set_option maxRecDepth 100000 in
set_option maxHeartbeats 4000000 in
theorem garside_letters_ok (n : Nat) {w : World} {O0 : List Nat} (hO : ∀ k ∈ O0, k < w.heap.size) {Ap_0 : Option Addr} {mp_0 cp_0 : Nat} {p_0 : List Int} (hp_0 : Rep O0 w (.sl (.int .i64)) [.slice Ap_0 mp_0 cp_0] p_0) {r : (List Int)} (hb : F.garside_letters n p_0 = some r) :
    Calls Try.prog 55 #[.slice Ap_0 mp_0 cp_0] w fun e w' => ∃ v, e = .returned v ∧ ∃ (A0 : Option Addr) (m0 c0 : Nat), v = .slice A0 m0 c0 ∧ Cx (fun _ => False) O0 w w' [.own 3 (.int .i64) (.slice A0 m0 c0) r] := by
  unfold F.garside_letters at hb
  have hC := Cx.start hO
  replace hC := hC.arg rfl hp_0
  clear hO
  obtain ⟨rfl, hlp_0, hcp_0⟩ := hp_0.sl_len
  refine calls_of_Wc Try.func55 rfl (by rw [Try.ntmps55]; exact Nat.le_of_ble_eq_true rfl) fun KR hKR => ?_
  refine Wc.seq fun K2 hK2 => ?_
  refine Wc.region (by decide +kernel) ?_
  refine lex.pure (v := .slice none 0 0) (pu_assign rfl) ?_
  refine lex.nil ?_
  refine hK2 _ _ ?_
  refine Wc.seq fun K3 hK3 => ?_
  refine Wc.region (by decide +kernel) ?_
  refine lex.pure (v := .slice Ap_0 p_0.length cp_0) (pu_move rfl) ?_
  obtain ⟨y4, h5, hb⟩ := bd hb
  refine lex.cl (⟨_, _, op_call (vs := [.slice Ap_0 p_0.length cp_0]) Try.call42 rfl rfl rfl, slices_Clone_Perm_int_ok n hC.lt (hC.rd (i := 0) rfl) h5⟩) ?_
  rintro _ w10 ⟨A6, m7, c8, rfl, hK⟩
  replace hC := hC.merge hK
  clear hK
  obtain ⟨rfl, hl11, hc12⟩ := (hC.ow (i := 0) rfl).sl_len
  refine lex.pure (v := .slice A6 y4.length c8) (pu_assign rfl) ?_
  refine lex.nil ?_
  refine hK3 _ _ ?_
  refine Wc.seq fun K13 hK13 => ?_
  refine Wc.region (by decide +kernel) ?_
  refine lex.pure (v := .slice none 0 0) (pu_assign rfl) ?_
  refine lex.nil ?_
  refine hK13 _ _ ?_
  refine Wc.seq fun K14 hK14 => ?_
  refine Wc.seq fun K15 hK15 => ?_
  refine Wc.region (by decide +kernel) ?_
  refine lex.pure (v := .int .i64 1) (pu_assign rfl) ?_
  refine lex.nil ?_
  refine hK15 _ _ ?_
  replace hC := hC.nil 3 (.int .i64)
  obtain ⟨o17, hl0, hb⟩ := bd hb
  refine Wc.cut (fun E wv => ∃ (l3_0 : List Int) (v4_0 : Int) (qf9_0 : List Int) (Al3_0 : Option Addr) (ml3_0 cl3_0 : Nat), E 2 = .slice none 0 0 ∧ E 3 = .slice Al3_0 ml3_0 cl3_0 ∧ I64 v4_0 ∧ Cx (fun _ => False) O0 w wv [.own 3 (.int .i64) (.slice Al3_0 ml3_0 cl3_0) l3_0] ∧ (some l3_0) = some r) (fun K18 hK18 => ?_) ?_
  · refine Wc.block ?_
    refine Wc.loop (fun m E wv => ∃ (l3_0 : List Int) (v4_0 : Int) (qf9_0 : List Int) (Al3_0 : Option Addr) (ml3_0 cl3_0 : Nat), E 0 = .slice A6 y4.length c8 ∧ E 2 = .slice none 0 0 ∧ E 3 = .slice Al3_0 ml3_0 cl3_0 ∧ E 4 = .int .i64 v4_0 ∧ I64 v4_0 ∧ Cx (fun _ => False) O0 w wv [.own 3 (.int .i64) (.slice A6 y4.length c8) qf9_0, .own 3 (.int .i64) (.slice Al3_0 ml3_0 cl3_0) l3_0] ∧ loopN m (F.garside_letters_b0 n y4) (l3_0, v4_0, qf9_0) = some o17) n ⟨([] : List Int), 1, y4, none, 0, 0, rfl, rfl, rfl, rfl, (show I64 1 from by unfold I64; omega), hC.sel [1, 0] (by decide), hl0⟩ ?_
    have hbK0 := hb
    clear hb hC hl0
    rintro m20 E22 w21 ⟨l3_0, v4_0, qf9_0, Al3_0, ml3_0, cl3_0, e0, e2, e3, e4, hrv4_0, hC, hl0⟩ K19 hK19
    obtain ⟨m20', o23, rfl, hb, hl0⟩ := loopN_some hl0
    unfold F.garside_letters_b0 at hb
    obtain ⟨rfl, hll3_0, hcl3_0⟩ := (hC.ow (i := 1) rfl).sl_len
    refine Wc.seq fun K24 hK24 => ?_
    refine Wc.seq fun K25 hK25 => ?_
    refine Wc.region (by decide +kernel) ?_
    refine lex.pure (v := .int .i64 v4_0) (pu_move e4) ?_
    refine lex.pure (v := .slice A6 y4.length c8) (pu_move e0) ?_
    refine lex.pure (v := .int .i64 (y4.length : Int)) (pu_len (A := A6) (n := y4.length) (m := c8) Try.underlying43 rfl) ?_
    refine lex.pure (v := .bool (decide (v4_0 < (y4.length : Int)))) (pu_lss (k := .i64) (a := v4_0) (b := (y4.length : Int)) rfl rfl) ?_
    refine lex.nil ?_
    refine hK25 _ _ ?_
    refine Wc.cond (t := (decide (v4_0 < (y4.length : Int)))) (rfl) (fun hq26 => ?_) (fun hq26 => ?_)
    · replace hb := (cT hq26).symm.trans hb
      refine Wc.skip ?_
      refine hK24 _ _ ?_
      refine Wc.block ?_
      refine Wc.seq fun K27 hK27 => ?_
      refine Wc.seq fun K28 hK28 => ?_
      refine Wc.regionMix [] (frm [] ([] : List Fact) ([] : List Fact)) (fun _ => rfl) mixed (by decide +kernel) (by decide +kernel) fun w30 hw29 => ?_
      replace hC := hC.step (Fr.of_drew hw29)
      have hM := Fr.refl (fun k => k ∈ blocks ([] : List Fact)) w30
      clear hw29
      have hS := hC
      refine mixE.pure (v := .slice A6 y4.length c8) (pu_move e0) ?_
      refine mixE.pure (v := .int .i64 v4_0) (pu_move e4) ?_
      obtain ⟨z31, h32, hb⟩ := bd hb
      refine mixE.pure (v := .int .i64 z31) (pu_subc (a := v4_0) (b := 1) rfl rfl h32) ?_
      obtain ⟨x33, h34, hb⟩ := bd hb
      obtain ⟨ad35, cs36, hA, ho39, hc37, hr38⟩ := hS.elo2 (i := 0) rfl (get_some h34).2 [] (by decide)
      subst hA
      refine mixE.pure (v := .pointer (some (ad35.add (z31.toNat * 1)))) (pu_index (a := z31) Try.underlying43 Try.sizeOf3 rfl rfl (by rw [(hC.ow (i := 0) rfl).sl_len.1]; exact (get_some h34).1)) ?_
      obtain ⟨rfl, hr38'⟩ := hr38
      refine mixE.load hM (v := .int .i64 x33) (fun _ hF => ld_one Try.isAgg3 rfl (hF.cell (hc37 0 _ rfl) (off1 ho39))) ?_
      refine mixE.pure (v := .slice (some ad35) y4.length c8) (pu_move e0) ?_
      refine mixE.pure (v := .int .i64 v4_0) (pu_move e4) ?_
      obtain ⟨x40, h41, hb⟩ := bd hb
      obtain ⟨ad42, cs43, hA, ho46, hc44, hr45⟩ := hS.elo2 (i := 0) rfl (get_some h41).2 [] (by decide)
      obtain rfl := Option.some.inj hA
      refine mixE.pure (v := .pointer (some (ad35.add (v4_0.toNat * 1)))) (pu_index (a := v4_0) Try.underlying43 Try.sizeOf3 rfl rfl (by rw [(hC.ow (i := 0) rfl).sl_len.1]; exact (get_some h41).1)) ?_
      obtain ⟨rfl, hr45'⟩ := hr45
      refine mixE.load hM (v := .int .i64 x40) (fun _ hF => ld_one Try.isAgg3 rfl (hF.cell (hc44 0 _ rfl) (off1 ho46))) ?_
      refine mixE.pure (v := .bool (decide (x33 < x40))) (pu_lss (k := .i64) (a := x33) (b := x40) rfl rfl) ?_
      refine mixE.nil ?_
      clear hS hM
      refine hK28 _ _ ?_
      refine Wc.fresh fun E47 hE => ?_
      have e0 : E47 0 = .slice (some ad35) y4.length c8 := (congrFun hE 0).trans e0
      have e2 : E47 2 = .slice none 0 0 := (congrFun hE 2).trans e2
      have e3 : E47 3 = .slice Al3_0 l3_0.length cl3_0 := (congrFun hE 3).trans e3
      have e4 : E47 4 = .int .i64 v4_0 := (congrFun hE 4).trans e4
      have e10 : E47 10 = .bool (decide (v4_0 < (y4.length : Int))) := (congrFun hE 10).trans rfl
      have e20 : E47 20 = .bool (decide (x33 < x40)) := (congrFun hE 20).trans rfl
      clear hE
      refine Wc.cond (t := (decide (x33 < x40))) (e20) (fun hq48 => ?_) (fun hq48 => ?_)
      · replace hb := (cT hq48).symm.trans hb
        refine Wc.seq fun K49 hK49 => ?_
        refine Wc.region (by decide +kernel) ?_
        refine lex.pure (v := .int .i64 v4_0) (pu_move e4) ?_
        obtain ⟨z50, h51, hb⟩ := bd hb
        refine lex.pure (v := .int .i64 z50) (pu_addc (a := v4_0) (b := 1) rfl rfl h51) ?_
        refine lex.pure (v := .int .i64 z50) (pu_assign rfl) ?_
        refine lex.nil ?_
        refine hK49 _ _ ?_
        refine Wc.exit rfl ?_
        obtain rfl := Option.some.inj hb
        exact hK19 m20' _ _ (Nat.lt_succ_self _) ⟨l3_0, z50, qf9_0, Al3_0, l3_0.length, cl3_0, e0, e2, e3, rfl, (chk_rng h51), hC.sel [0, 1] (by decide), lN hl0⟩
      · replace hb := (cF hq48).symm.trans hb
        refine Wc.skip ?_
        refine hK27 _ _ ?_
        refine Wc.seq fun K52 hK52 => ?_
        refine Wc.regionMix [] (frm [] ([] : List Fact) [.own 3 (.int .i64) (.slice (some ad35) y4.length c8) qf9_0]) (fun _ => rfl) mixed (by decide +kernel) (by decide +kernel) fun w54 hw53 => ?_
        replace hC := hC.step (Fr.of_drew hw53)
        have hM := Fr.refl (fun k => k ∈ blocks ([] : List Fact)) w54
        clear hw53
        have hS := hC
        have hD : Fr (fun k => k ∈ blocks (([] : List Fact) ++ [.own 3 (.int .i64) (.slice (some ad35) y4.length c8) qf9_0])) w54 w54 := hM.wide
        have hUf9 : Beside (([] : List Fact) ++ [.own 3 (.int .i64) (.slice (some ad35) y4.length c8) qf9_0]) w54 (.slice (some ad35) y4.length c8) := Beside.of (i := 0) rfl
        refine mixE.pure (v := .slice (some ad35) y4.length c8) (pu_move e0) ?_
        refine mixE.pure (v := .int .i64 v4_0) (pu_move e4) ?_
        obtain ⟨z55, h56, hb⟩ := bd hb
        refine mixE.pure (v := .int .i64 z55) (pu_subc (a := v4_0) (b := 1) rfl rfl h56) ?_
        refine mixE.pure (v := .slice (some ad35) y4.length c8) (pu_move e0) ?_
        refine mixE.pure (v := .int .i64 v4_0) (pu_move e4) ?_
        refine mixE.pure (v := .slice (some ad35) y4.length c8) (pu_move e0) ?_
        refine mixE.pure (v := .int .i64 v4_0) (pu_move e4) ?_
        obtain ⟨x57, h58, hb⟩ := bd hb
        obtain ⟨ad59, cs60, hA, ho63, hc61, hr62⟩ := hS.elo2 (i := 0) rfl (get_some h58).2 [] (by decide)
        obtain rfl := Option.some.inj hA
        refine mixE.pure (v := .pointer (some (ad35.add (v4_0.toNat * 1)))) (pu_index (a := v4_0) Try.underlying43 Try.sizeOf3 rfl rfl (by rw [(hC.ow (i := 0) rfl).sl_len.1]; exact (get_some h58).1)) ?_
        obtain ⟨rfl, hr62'⟩ := hr62
        refine mixE.load hM (v := .int .i64 x57) (fun _ hF => ld_one Try.isAgg3 rfl (hF.cell (hc61 0 _ rfl) (off1 ho63))) ?_
        refine mixE.pure (v := .slice (some ad35) y4.length c8) (pu_move e0) ?_
        refine mixE.pure (v := .int .i64 v4_0) (pu_move e4) ?_
        obtain ⟨z64, h65, hb⟩ := bd hb
        refine mixE.pure (v := .int .i64 z64) (pu_subc (a := v4_0) (b := 1) rfl rfl h65) ?_
        obtain ⟨x66, h67, hb⟩ := bd hb
        obtain ⟨ad68, cs69, hA, ho72, hc70, hr71⟩ := hS.elo2 (i := 0) rfl (get_some h67).2 [] (by decide)
        obtain rfl := Option.some.inj hA
        refine mixE.pure (v := .pointer (some (ad35.add (z64.toNat * 1)))) (pu_index (a := z64) Try.underlying43 Try.sizeOf3 rfl rfl (by rw [(hC.ow (i := 0) rfl).sl_len.1]; exact (get_some h67).1)) ?_
        obtain ⟨rfl, hr71'⟩ := hr71
        refine mixE.load hM (v := .int .i64 x66) (fun _ hF => ld_one Try.isAgg3 rfl (hF.cell (hc70 0 _ rfl) (off1 ho72))) ?_
        obtain ⟨x73, h74, hb⟩ := bd hb
        obtain ⟨ad75, cs76, hA, ho79, hc77, hr78⟩ := hS.elo2 (i := 0) rfl (get_some h74).2 [] (by decide)
        obtain rfl := Option.some.inj hA
        refine mixE.pure (v := .pointer (some (ad35.add (z55.toNat * 1)))) (pu_index (a := z55) Try.underlying43 Try.sizeOf3 rfl rfl (by rw [(hC.ow (i := 0) rfl).sl_len.1]; exact (get_some h74).1)) ?_
        refine mixE.sk hD (hC.put (i := 0) rfl rfl Try.sizeOf3 (k := z55.toNat) (a := x57) (by have := (get_some h74).1; simp at this ⊢; omega) (⟨rfl, I64.wr (wrap_I64 hr62')⟩) rfl rfl rfl) ?_
        rintro w80 ⟨hC, hF⟩
        replace hD := hD.beside hUf9 hF
        clear hF
        refine ⟨hD, ?_⟩
        obtain ⟨x81, h82, hb⟩ := bd hb
        obtain ⟨ad83, cs84, hA, hc85, hr86⟩ := hC.elo (i := 0) rfl (get_some h82).2
        obtain rfl := Option.some.inj hA
        refine mixE.pure (v := .pointer (some (ad35.add (v4_0.toNat * 1)))) (pu_index (a := v4_0) Try.underlying43 Try.sizeOf3 rfl rfl (by rw [(hC.ow (i := 0) rfl).sl_len.1]; exact (get_some h82).1)) ?_
        refine mixE.sk hD (hC.put (i := 0) rfl rfl Try.sizeOf3 (k := v4_0.toNat) (a := x66) (by have := (get_some h82).1; simp at this ⊢; omega) (⟨rfl, I64.wr (wrap_I64 hr71')⟩) rfl rfl rfl) ?_
        rintro w87 ⟨hC, hF⟩
        replace hD := hD.beside hUf9 hF
        clear hF
        refine ⟨hD, ?_⟩
        refine mixE.nil ?_
        clear hS hM
        clear hD
        refine hK52 _ _ ?_
        refine Wc.fresh fun E88 hE => ?_
        have e0 : E88 0 = .slice (some ad35) y4.length c8 := (congrFun hE 0).trans e0
        have e2 : E88 2 = .slice none 0 0 := (congrFun hE 2).trans e2
        have e3 : E88 3 = .slice Al3_0 l3_0.length cl3_0 := (congrFun hE 3).trans e3
        have e4 : E88 4 = .int .i64 v4_0 := (congrFun hE 4).trans e4
        have e10 : E88 10 = .bool (decide (v4_0 < (y4.length : Int))) := (congrFun hE 10).trans e10
        have e20 : E88 20 = .bool (decide (x33 < x40)) := (congrFun hE 20).trans e20
        clear hE
        refine Wc.seq fun K89 hK89 => ?_
        refine Wc.region (by decide +kernel) ?_
        refine lex.pure (v := .slice Al3_0 l3_0.length cl3_0) (pu_move e3) ?_
        refine lex.pure (v := .int .i64 v4_0) (pu_move e4) ?_
        refine lex.op (hC.lit (s := (.int .i64)) (vs := [.int .i64 v4_0]) (xs := [v4_0]) Try.underlying22 Try.type3 rfl rfl (Nat.le_of_ble_eq_true rfl) rfl rfl (by simp [Value.cells, Sh.n]) rfl (show Elems _ _ (.int .i64) ([.int .i64 v4_0] ++ ([])) ([v4_0] : List Int) from Elems.cons (⟨rfl, I64.wr hrv4_0⟩) (Elems.nil _ _ _))) ?_
        rintro _ w94 ⟨A90, c91, rfl, hl92, hc93, hC, hF, hN⟩
        clear hF hN
        obtain ⟨u96, h97, hb⟩ := bd hb
        refine lex.op (hC.app (i := 2) (s := (.int .i64)) (xs := l3_0) (ys := ([v4_0] : List Int)) (m := ((([v4_0] : List Int)).length)) rfl Try.underlying22 Try.underlying22 Try.type3 rfl rfl rfl (hC.srco (i := 0) rfl) rfl rfl (by have := lim_some h97; simp at this ⊢ <;> omega) (by decide)) ?_
        rintro _ w102 ⟨A98, c99, rfl, hl100, hc101, hC, hF, hN⟩
        clear hF hN
        refine lex.pure (v := .slice A98 ((l3_0 ++ ([v4_0] : List Int)).length) c99) (pu_assign rfl) ?_
        refine lex.nil ?_
        refine hK89 _ _ ?_
        refine Wc.region (by decide +kernel) ?_
        refine lex.pure (v := .int .i64 v4_0) (pu_move e4) ?_
        obtain ⟨z103, h104, hb⟩ := bd hb
        refine lex.pure (v := .int .i64 z103) (pu_subc (a := v4_0) (b := 1) rfl rfl h104) ?_
        refine lex.pure (v := .int .i64 (max 1 z103)) (pu_max (a := 1) (b := z103) rfl rfl) ?_
        refine lex.pure (v := .int .i64 (max 1 z103)) (pu_assign rfl) ?_
        refine lex.nil ?_
        obtain rfl := Option.some.inj hb
        exact hK19 m20' _ _ (Nat.lt_succ_self _) ⟨(l3_0 ++ ([v4_0] : List Int)), (max 1 z103), ((qf9_0.set z55.toNat x57).set v4_0.toNat x66), A98, (l3_0 ++ ([v4_0] : List Int)).length, c99, e0, e2, rfl, rfl, (I64.max (show I64 1 from by unfold I64; omega) (chk_rng h104)), hC.sel [1, 2] (by decide), lN hl0⟩
    · replace hb := (cF hq26).symm.trans hb
      refine Wc.exit rfl ?_
      obtain rfl := Option.some.inj hb
      obtain rfl := (lX hl0).symm
      exact hK18 _ _ ⟨l3_0, v4_0, qf9_0, Al3_0, l3_0.length, cl3_0, e2, e3, hrv4_0, hC.sel [1] (by decide), hbK0⟩
  · clear hb hC hl0
    rintro E106 w105 ⟨l3_0, v4_0, qf9_0, Al3_0, ml3_0, cl3_0, e2, e3, hrv4_0, hC, hb⟩
    obtain ⟨rfl, hll3_0, hcl3_0⟩ := (hC.ow (i := 0) rfl).sl_len
    refine hK14 _ _ ?_
    refine Wc.seq fun K107 hK107 => ?_
    refine Wc.region (by decide +kernel) ?_
    refine lex.pure (v := .slice Al3_0 l3_0.length cl3_0) (pu_move e3) ?_
    refine lex.pure (v := .slice Al3_0 l3_0.length cl3_0) (pu_assign rfl) ?_
    refine lex.nil ?_
    refine hK107 _ _ ?_
    obtain rfl := Option.some.inj hb
    refine Wc.ret ?_
    refine hKR _ _ ?_
    refine ⟨_, res1 Try.results55 (show RV _ _ _ (.tmp _) (.slice Al3_0 l3_0.length cl3_0) from rfl), _, rfl, Al3_0, l3_0.length, cl3_0, rfl, hC.sel [0] (by decide)⟩

set_option maxRecDepth 100000 in
set_option maxHeartbeats 4000000 in
theorem garside_Simple_ok (n : Nat) {w : World} {O0 : List Nat} (hO : ∀ k ∈ O0, k < w.heap.size) {Ap_0 : Option Addr} {mp_0 cp_0 : Nat} {p_0 : List Int} (hp_0 : Rep O0 w (.sl (.int .i64)) [.slice Ap_0 mp_0 cp_0] p_0) {r : Int × (List Int) × Int} (hb : F.garside_Simple n p_0 = some r) :
    Calls Try.prog 30 #[.slice Ap_0 mp_0 cp_0] w fun e w' => ∃ v, e = .returned v ∧ ∃ (A1 : Option Addr) (m1 c1 : Nat), v = .tuple #[.agg #[.int .i64 r.1, .slice A1 m1 c1], .int .i64 r.2.2] ∧ I64 r.1 ∧ I64 r.2.2 ∧ Cx (fun _ => False) O0 w w' [.own 3 (.int .i64) (.slice A1 m1 c1) r.2.1] := by
  unfold F.garside_Simple at hb
  have hC := Cx.start hO
  replace hC := hC.arg rfl hp_0
  clear hO
  obtain ⟨rfl, hlp_0, hcp_0⟩ := hp_0.sl_len
  refine calls_of_Wc Try.func30 rfl (by rw [Try.ntmps30]; exact Nat.le_of_ble_eq_true rfl) fun KR hKR => ?_
  refine Wc.seq fun K2 hK2 => ?_
  refine Wc.region (by decide +kernel) ?_
  refine lex.op (hC.alloc (cs := [.int .i64 0, .slice none 0 0]) Try.zeroValue24 rfl) ?_
  rintro _ w4 ⟨g3, rfl, hC, hF, hG⟩
  clear hG
  refine lex.pure (v := .int .i64 0) (pu_assign rfl) ?_
  refine lex.nil ?_
  refine hK2 _ _ ?_
  refine Wc.seq fun K6 hK6 => ?_
  refine Wc.seq fun K7 hK7 => ?_
  refine Wc.region (by decide +kernel) ?_
  refine lex.pure (v := .slice Ap_0 p_0.length cp_0) (pu_move rfl) ?_
  obtain ⟨y8, h9, hb⟩ := bd hb
  refine lex.cl (⟨_, _, op_call (vs := [.slice Ap_0 p_0.length cp_0]) Try.call31 rfl rfl rfl, perm_Valid_ok n hC.lt (hC.rd (i := 1) rfl) h9⟩) ?_
  rintro _ w10 ⟨rfl, hK⟩
  replace hC := hC.merge hK
  clear hK
  refine lex.pure (v := .bool (!y8)) (pu_not (q := y8) rfl) ?_
  refine lex.pure (v := .bool (!y8)) (pu_move rfl) ?_
  rcases bS (!y8) with hq11 | hq11
  · replace hb := (cT hq11).symm.trans hb
    refine lex.gskip (want_f rfl rfl (show _ = Value.bool (!y8) from rfl) hq11) ?_
    refine lex.gskip (want_f rfl rfl (show _ = Value.bool (!y8) from rfl) hq11) ?_
    refine lex.gskip (want_f rfl rfl (show _ = Value.bool (!y8) from rfl) hq11) ?_
    refine lex.pure (v := .bool true) (pu_pickT (q := (!y8)) rfl hq11 rfl) ?_
    refine lex.pure (v := .bool true) (pu_move rfl) ?_
    refine lex.gskip (want_f rfl rfl (show _ = Value.bool true from rfl) rfl) ?_
    refine lex.gskip (want_f rfl rfl (show _ = Value.bool true from rfl) rfl) ?_
    refine lex.gskip (want_f rfl rfl (show _ = Value.bool true from rfl) rfl) ?_
    refine lex.pure (v := .bool true) (pu_pickT (q := true) rfl rfl rfl) ?_
    refine lex.nil ?_
    refine hK7 _ _ ?_
    refine Wc.cond_true (rfl) ?_
    refine Wc.seq fun K12 hK12 => ?_
    refine Wc.region (by decide +kernel) ?_
    refine lex.pure (v := .agg #[.int .i64 0, .slice none 0 0]) (pu_builds (places := [(0, 1), (1, 1)]) (pv := []) Try.type24 Try.underlying24 rfl (mp_cons Try.type3 (mp_cons Try.type22 mp_nil rfl rfl) rfl rfl) rfl (by simp [Instr.fill, Value.cells])) ?_
    refine lex.sk (hC.seta (i := 0) (ds := [.int .i64 0, .slice none 0 0]) rfl Try.type24 rfl rfl rfl rfl rfl) ?_
    rintro w13 ⟨hC, hF⟩
    refine lex.pure (v := .int .i64 1) (pu_assign rfl) ?_
    refine lex.nil ?_
    refine hK12 _ _ ?_
    replace hC := hC.nil 3 (.int .i64)
    obtain rfl := Option.some.inj hb
    refine Wc.ret ?_
    refine hKR _ _ ?_
    refine ⟨_, res2 Try.results30 ⟨_, rfl, loadVar_blk (hC.bx (i := 1) rfl) Try.isAgg24 Try.sizeOf24⟩ (show RV _ _ _ (.tmp _) (.int .i64 1) from rfl), _, rfl, none, 0, 0, rfl, (show I64 0 from by unfold I64; omega), (show I64 1 from by unfold I64; omega), hC.sel [0] (by decide)⟩
  · replace hb := (cF hq11).symm.trans hb
    refine lex.gpure (want_t rfl rfl (show _ = Value.bool (!y8) from rfl) hq11) (v := .slice Ap_0 p_0.length cp_0) (pu_move rfl) ?_
    refine lex.gpure (want_t rfl rfl (show _ = Value.bool (!y8) from rfl) hq11) (v := .int .i64 (p_0.length : Int)) (pu_len (A := Ap_0) (n := p_0.length) (m := cp_0) Try.underlying43 rfl) ?_
    refine lex.gpure (want_t rfl rfl (show _ = Value.bool (!y8) from rfl) hq11) (v := .bool (decide ((p_0.length : Int) < 1))) (pu_lss (k := .i64) (a := (p_0.length : Int)) (b := 1) rfl rfl) ?_
    refine lex.pure (v := .bool (decide ((p_0.length : Int) < 1))) (pu_pickF (q := (!y8)) rfl hq11 rfl) ?_
    refine lex.pure (v := .bool (decide ((p_0.length : Int) < 1))) (pu_move rfl) ?_
    rcases bS (decide ((p_0.length : Int) < 1)) with hq15 | hq15
    · replace hb := (cT hq15).symm.trans hb
      refine lex.gskip (want_f rfl rfl (show _ = Value.bool (decide ((p_0.length : Int) < 1)) from rfl) hq15) ?_
      refine lex.gskip (want_f rfl rfl (show _ = Value.bool (decide ((p_0.length : Int) < 1)) from rfl) hq15) ?_
      refine lex.gskip (want_f rfl rfl (show _ = Value.bool (decide ((p_0.length : Int) < 1)) from rfl) hq15) ?_
      refine lex.pure (v := .bool true) (pu_pickT (q := (decide ((p_0.length : Int) < 1))) rfl hq15 rfl) ?_
      refine lex.nil ?_
      refine hK7 _ _ ?_
      refine Wc.fresh fun E16 hE => ?_
      have e0 : E16 0 = .slice Ap_0 p_0.length cp_0 := (congrFun hE 0).trans rfl
      have e2 : E16 2 = .pointer (some ⟨g3, 0, none⟩) := (congrFun hE 2).trans rfl
      have e3 : E16 3 = .int .i64 0 := (congrFun hE 3).trans rfl
      have e16 : E16 16 = .bool true := (congrFun hE 16).trans rfl
      clear hE
      refine Wc.cond_true (e16) ?_
      refine Wc.seq fun K17 hK17 => ?_
      refine Wc.region (by decide +kernel) ?_
      refine lex.pure (v := .agg #[.int .i64 0, .slice none 0 0]) (pu_builds (places := [(0, 1), (1, 1)]) (pv := []) Try.type24 Try.underlying24 rfl (mp_cons Try.type3 (mp_cons Try.type22 mp_nil rfl rfl) rfl rfl) rfl (by simp [Instr.fill, Value.cells])) ?_
      refine lex.sk (hC.seta (i := 0) (ds := [.int .i64 0, .slice none 0 0]) rfl Try.type24 rfl rfl rfl e2 rfl) ?_
      rintro w18 ⟨hC, hF⟩
      refine lex.pure (v := .int .i64 1) (pu_assign rfl) ?_
      refine lex.nil ?_
      refine hK17 _ _ ?_
      replace hC := hC.nil 3 (.int .i64)
      obtain rfl := Option.some.inj hb
      refine Wc.ret ?_
      refine hKR _ _ ?_
      refine ⟨_, res2 Try.results30 ⟨_, e2, loadVar_blk (hC.bx (i := 1) rfl) Try.isAgg24 Try.sizeOf24⟩ (show RV _ _ _ (.tmp _) (.int .i64 1) from rfl), _, rfl, none, 0, 0, rfl, (show I64 0 from by unfold I64; omega), (show I64 1 from by unfold I64; omega), hC.sel [0] (by decide)⟩
    · replace hb := (cF hq15).symm.trans hb
      refine lex.gpure (want_t rfl rfl (show _ = Value.bool (decide ((p_0.length : Int) < 1)) from rfl) hq15) (v := .slice Ap_0 p_0.length cp_0) (pu_move rfl) ?_
      refine lex.gpure (want_t rfl rfl (show _ = Value.bool (decide ((p_0.length : Int) < 1)) from rfl) hq15) (v := .int .i64 (p_0.length : Int)) (pu_len (A := Ap_0) (n := p_0.length) (m := cp_0) Try.underlying43 rfl) ?_
      refine lex.gpure (want_t rfl rfl (show _ = Value.bool (decide ((p_0.length : Int) < 1)) from rfl) hq15) (v := .bool (decide (10 < (p_0.length : Int)))) (pu_gtr (k := .i64) (a := (p_0.length : Int)) (b := 10) rfl rfl) ?_
      refine lex.pure (v := .bool (decide (10 < (p_0.length : Int)))) (pu_pickF (q := (decide ((p_0.length : Int) < 1))) rfl hq15 rfl) ?_
      refine lex.nil ?_
      refine hK7 _ _ ?_
      refine Wc.fresh fun E20 hE => ?_
      have e0 : E20 0 = .slice Ap_0 p_0.length cp_0 := (congrFun hE 0).trans rfl
      have e2 : E20 2 = .pointer (some ⟨g3, 0, none⟩) := (congrFun hE 2).trans rfl
      have e3 : E20 3 = .int .i64 0 := (congrFun hE 3).trans rfl
      have e16 : E20 16 = .bool (decide (10 < (p_0.length : Int))) := (congrFun hE 16).trans rfl
      clear hE
      refine Wc.cond (t := (decide (10 < (p_0.length : Int)))) (e16) (fun hq21 => ?_) (fun hq21 => ?_)
      · replace hb := (cT hq21).symm.trans hb
        refine Wc.seq fun K22 hK22 => ?_
        refine Wc.region (by decide +kernel) ?_
        refine lex.pure (v := .agg #[.int .i64 0, .slice none 0 0]) (pu_builds (places := [(0, 1), (1, 1)]) (pv := []) Try.type24 Try.underlying24 rfl (mp_cons Try.type3 (mp_cons Try.type22 mp_nil rfl rfl) rfl rfl) rfl (by simp [Instr.fill, Value.cells])) ?_
        refine lex.sk (hC.seta (i := 0) (ds := [.int .i64 0, .slice none 0 0]) rfl Try.type24 rfl rfl rfl e2 rfl) ?_
        rintro w23 ⟨hC, hF⟩
        refine lex.pure (v := .int .i64 1) (pu_assign rfl) ?_
        refine lex.nil ?_
        refine hK22 _ _ ?_
        replace hC := hC.nil 3 (.int .i64)
        obtain rfl := Option.some.inj hb
        refine Wc.ret ?_
        refine hKR _ _ ?_
        refine ⟨_, res2 Try.results30 ⟨_, e2, loadVar_blk (hC.bx (i := 1) rfl) Try.isAgg24 Try.sizeOf24⟩ (show RV _ _ _ (.tmp _) (.int .i64 1) from rfl), _, rfl, none, 0, 0, rfl, (show I64 0 from by unfold I64; omega), (show I64 1 from by unfold I64; omega), hC.sel [0] (by decide)⟩
      · replace hb := (cF hq21).symm.trans hb
        refine Wc.skip ?_
        refine hK6 _ _ ?_
        refine Wc.seq fun K25 hK25 => ?_
        refine Wc.region (by decide +kernel) ?_
        refine lex.pure (v := .slice Ap_0 p_0.length cp_0) (pu_move e0) ?_
        refine lex.pure (v := .int .i64 (p_0.length : Int)) (pu_len (A := Ap_0) (n := p_0.length) (m := cp_0) Try.underlying43 rfl) ?_
        refine lex.pure (v := .slice Ap_0 p_0.length cp_0) (pu_move e0) ?_
        obtain ⟨y26, h27, hb⟩ := bd hb
        refine lex.cl (⟨_, _, op_call (vs := [.slice Ap_0 p_0.length cp_0]) Try.call55 rfl rfl rfl, garside_letters_ok n hC.lt (hC.rd (i := 1) rfl) h27⟩) ?_
        rintro _ w32 ⟨A28, m29, c30, rfl, hK⟩
        replace hC := hC.merge hK
        clear hK
        obtain ⟨rfl, hl33, hc34⟩ := (hC.ow (i := 0) rfl).sl_len
        refine lex.pure (v := .agg #[.int .i64 (p_0.length : Int), .slice A28 y26.length c30]) (pu_builds (places := [(0, 1), (1, 1)]) (pv := [(0, .int .i64 (p_0.length : Int)), (1, .slice A28 y26.length c30)]) Try.type24 Try.underlying24 rfl (mp_cons Try.type3 (mp_cons Try.type22 mp_nil rfl rfl) rfl rfl) rfl (by simp [Instr.fill, Value.cells])) ?_
        refine lex.sk (hC.seta (i := 1) (ds := [.int .i64 (p_0.length : Int), .slice A28 y26.length c30]) rfl Try.type24 rfl rfl rfl e2 rfl) ?_
        rintro w35 ⟨hC, hF⟩
        refine lex.pure (v := .int .i64 0) (pu_assign rfl) ?_
        refine lex.nil ?_
        refine hK25 _ _ ?_
        obtain rfl := Option.some.inj hb
        refine Wc.ret ?_
        refine hKR _ _ ?_
        refine ⟨_, res2 Try.results30 ⟨_, e2, loadVar_blk (hC.bx (i := 1) rfl) Try.isAgg24 Try.sizeOf24⟩ (show RV _ _ _ (.tmp _) (.int .i64 0) from rfl), _, rfl, A28, y26.length, c30, rfl, (I64.len hlp_0 hcp_0), (show I64 0 from by unfold I64; omega), hC.sel [0] (by decide)⟩

set_option maxRecDepth 100000 in
set_option maxHeartbeats 4000000 in
theorem slices_Equal_Lint_int_ok (n : Nat) {w : World} {O0 : List Nat} (hO : ∀ k ∈ O0, k < w.heap.size) {As1_0 : Option Addr} {ms1_0 cs1_0 : Nat} {s1_0 : List Int} (hs1_0 : Rep O0 w (.sl (.int .i64)) [.slice As1_0 ms1_0 cs1_0] s1_0) {As2_1 : Option Addr} {ms2_1 cs2_1 : Nat} {s2_1 : List Int} (hs2_1 : Rep O0 w (.sl (.int .i64)) [.slice As2_1 ms2_1 cs2_1] s2_1) {r : Bool} (hb : F.slices_Equal_Lint_int n s1_0 s2_1 = some r) :
    Calls Try.prog 32 #[.slice As1_0 ms1_0 cs1_0, .slice As2_1 ms2_1 cs2_1] w fun e w' => ∃ v, e = .returned v ∧ v = .bool r ∧ Cx (fun _ => False) O0 w w' [] := by
  unfold F.slices_Equal_Lint_int at hb
  have hC := Cx.start hO
  replace hC := hC.arg rfl hs1_0
  replace hC := hC.arg rfl hs2_1
  clear hO
  obtain ⟨rfl, hls1_0, hcs1_0⟩ := hs1_0.sl_len
  obtain ⟨rfl, hls2_1, hcs2_1⟩ := hs2_1.sl_len
  refine calls_of_Wc Try.func32 rfl (by rw [Try.ntmps32]; exact Nat.le_of_ble_eq_true rfl) fun KR hKR => ?_
  refine Wc.seq fun K3 hK3 => ?_
  refine Wc.region (by decide +kernel) ?_
  refine lex.pure (v := .bool false) (pu_assign rfl) ?_
  refine lex.nil ?_
  refine hK3 _ _ ?_
  refine Wc.seq fun K4 hK4 => ?_
  refine Wc.seq fun K5 hK5 => ?_
  refine Wc.region (by decide +kernel) ?_
  refine lex.pure (v := .slice As1_0 s1_0.length cs1_0) (pu_move rfl) ?_
  refine lex.pure (v := .int .i64 (s1_0.length : Int)) (pu_len (A := As1_0) (n := s1_0.length) (m := cs1_0) Try.underlying22 rfl) ?_
  refine lex.pure (v := .slice As2_1 s2_1.length cs2_1) (pu_move rfl) ?_
  refine lex.pure (v := .int .i64 (s2_1.length : Int)) (pu_len (A := As2_1) (n := s2_1.length) (m := cs2_1) Try.underlying22 rfl) ?_
  refine lex.pure (v := .bool (!(decide ((s1_0.length : Int) = (s2_1.length : Int))))) (pu_neq (k := .i64) (a := (s1_0.length : Int)) (b := (s2_1.length : Int)) rfl rfl) ?_
  refine lex.nil ?_
  refine hK5 _ _ ?_
  refine Wc.cond (t := (!(decide ((s1_0.length : Int) = (s2_1.length : Int))))) (rfl) (fun hq6 => ?_) (fun hq6 => ?_)
  · replace hb := (cT hq6).symm.trans hb
    refine Wc.seq fun K7 hK7 => ?_
    refine Wc.region (by decide +kernel) ?_
    refine lex.pure (v := .bool false) (pu_assign rfl) ?_
    refine lex.nil ?_
    refine hK7 _ _ ?_
    obtain rfl := Option.some.inj hb
    refine Wc.ret ?_
    refine hKR _ _ ?_
    refine ⟨_, res1 Try.results32 (show RV _ _ _ (.tmp _) (.bool false) from rfl), _, rfl, rfl, hC.sel [] (by decide)⟩
  · replace hb := (cF hq6).symm.trans hb
    refine Wc.skip ?_
    refine hK4 _ _ ?_
    refine Wc.seq fun K8 hK8 => ?_
    refine Wc.seq fun K9 hK9 => ?_
    refine Wc.region (by decide +kernel) ?_
    refine lex.pure (v := .slice As1_0 s1_0.length cs1_0) (pu_move rfl) ?_
    refine lex.pure (v := .int .i64 (s1_0.length : Int)) (pu_len (A := As1_0) (n := s1_0.length) (m := cs1_0) Try.underlying22 rfl) ?_
    refine lex.pure (v := .int .i64 0) (pu_move rfl) ?_
    refine lex.nil ?_
    refine hK9 _ _ ?_
    obtain ⟨o10, hl0, hb⟩ := bd hb
    refine Wc.cut (fun E wv => ∃ (v13_0 : Int), E 4 = .bool false ∧ I64 v13_0 ∧ Cx (fun _ => False) O0 w wv [] ∧ (some true) = some r) (fun K11 hK11 => ?_) ?_
    · refine Wc.block ?_
      refine Wc.loop (fun m E wv => ∃ (v13_0 : Int), E 0 = .slice As1_0 s1_0.length cs1_0 ∧ E 1 = .slice As2_1 s2_1.length cs2_1 ∧ E 4 = .bool false ∧ E 12 = .int .i64 (s1_0.length : Int) ∧ E 13 = .int .i64 v13_0 ∧ I64 v13_0 ∧ Cx (fun _ => False) O0 w wv [.ro (.sl (.int .i64)) [.slice As1_0 s1_0.length cs1_0] s1_0, .ro (.sl (.int .i64)) [.slice As2_1 s2_1.length cs2_1] s2_1] ∧ loopN m (F.slices_Equal_Lint_int_b0 n s1_0 s2_1) v13_0 = some o10) n ⟨0, rfl, rfl, rfl, rfl, rfl, (show I64 0 from by unfold I64; omega), hC.sel [1, 0] (by decide), hl0⟩ ?_
      have hbK0 := hb
      clear hb hC hl0
      rintro m13 E15 w14 ⟨v13_0, e0, e1, e4, e12, e13, hrv13_0, hC, hl0⟩ K12 hK12
      obtain ⟨m13', o16, rfl, hb, hl0⟩ := loopN_some hl0
      unfold F.slices_Equal_Lint_int_b0 at hb
      refine Wc.seq fun K17 hK17 => ?_
      refine Wc.region (by decide +kernel) ?_
      refine lex.pure (v := .bool (decide (v13_0 < (s1_0.length : Int)))) (pu_lss (k := .i64) (a := v13_0) (b := (s1_0.length : Int)) e13 e12) ?_
      refine lex.nil ?_
      refine hK17 _ _ ?_
      refine Wc.seq fun K18 hK18 => ?_
      refine Wc.cond (t := (decide (v13_0 < (s1_0.length : Int)))) (rfl) (fun hq19 => ?_) (fun hq19 => ?_)
      · replace hb := (cT hq19).symm.trans hb
        refine Wc.skip ?_
        refine hK18 _ _ ?_
        refine Wc.seq fun K20 hK20 => ?_
        refine Wc.block ?_
        refine Wc.seq fun K21 hK21 => ?_
        refine Wc.region (by decide +kernel) ?_
        refine lex.pure (v := .int .i64 v13_0) (pu_move e13) ?_
        refine lex.pure (v := .int .i64 v13_0) (pu_assign rfl) ?_
        refine lex.nil ?_
        refine hK21 _ _ ?_
        refine Wc.seq fun K22 hK22 => ?_
        refine Wc.regionMix [] (frm [] ([] : List Fact) ([] : List Fact)) (fun _ => rfl) mixed (by decide +kernel) (by decide +kernel) fun w24 hw23 => ?_
        replace hC := hC.step (Fr.of_drew hw23)
        have hM := Fr.refl (fun k => k ∈ blocks ([] : List Fact)) w24
        clear hw23
        have hS := hC
        refine mixE.pure (v := .slice As1_0 s1_0.length cs1_0) (pu_move e0) ?_
        refine mixE.pure (v := .int .i64 v13_0) (pu_move rfl) ?_
        obtain ⟨x25, h26, hb⟩ := bd hb
        obtain ⟨ad27, cs28, hA, ho31, hc29, hr30⟩ := hS.elr2 (i := 0) rfl (get_some h26).2 []
        subst hA
        refine mixE.pure (v := .pointer (some (ad27.add (v13_0.toNat * 1)))) (pu_index (a := v13_0) Try.underlying22 Try.sizeOf3 rfl rfl (get_some h26).1) ?_
        obtain ⟨rfl, hr30'⟩ := hr30
        refine mixE.load hM (v := .int .i64 x25) (fun _ hF => ld_one Try.isAgg3 rfl (hF.cell (hc29 0 _ rfl) (off1 ho31))) ?_
        refine mixE.pure (v := .slice As2_1 s2_1.length cs2_1) (pu_move e1) ?_
        refine mixE.pure (v := .int .i64 v13_0) (pu_move rfl) ?_
        obtain ⟨x32, h33, hb⟩ := bd hb
        obtain ⟨ad34, cs35, hA, ho38, hc36, hr37⟩ := hS.elr2 (i := 1) rfl (get_some h33).2 []
        subst hA
        refine mixE.pure (v := .pointer (some (ad34.add (v13_0.toNat * 1)))) (pu_index (a := v13_0) Try.underlying22 Try.sizeOf3 rfl rfl (get_some h33).1) ?_
        obtain ⟨rfl, hr37'⟩ := hr37
        refine mixE.load hM (v := .int .i64 x32) (fun _ hF => ld_one Try.isAgg3 rfl (hF.cell (hc36 0 _ rfl) (off1 ho38))) ?_
        refine mixE.pure (v := .bool (!(decide (x25 = x32)))) (pu_neq (k := .i64) (a := x25) (b := x32) rfl rfl) ?_
        refine mixE.nil ?_
        clear hS hM
        refine hK22 _ _ ?_
        refine Wc.cond (t := (!(decide (x25 = x32)))) (rfl) (fun hq39 => ?_) (fun hq39 => ?_)
        · replace hb := (cT hq39).symm.trans hb
          refine Wc.seq fun K40 hK40 => ?_
          refine Wc.region (by decide +kernel) ?_
          refine lex.pure (v := .bool false) (pu_assign rfl) ?_
          refine lex.nil ?_
          refine hK40 _ _ ?_
          obtain rfl := Option.some.inj hb
          obtain rfl := (lX hl0).symm
          replace hb := hbK0
          obtain rfl := Option.some.inj hb
          refine Wc.ret ?_
          refine hKR _ _ ?_
          refine ⟨_, res1 Try.results32 (show RV _ _ _ (.tmp _) (.bool false) from rfl), _, rfl, rfl, hC.sel [] (by decide)⟩
        · replace hb := (cF hq39).symm.trans hb
          refine Wc.skip ?_
          refine hK20 _ _ ?_
          refine Wc.region (by decide +kernel) ?_
          obtain ⟨z41, h42, hb⟩ := bd hb
          refine lex.pure (v := .int .i64 z41) (pu_addc (a := v13_0) (b := 1) e13 rfl h42) ?_
          refine lex.pure (v := .int .i64 z41) (pu_move rfl) ?_
          refine lex.nil ?_
          obtain rfl := Option.some.inj hb
          exact hK12 m13' _ _ (Nat.lt_succ_self _) ⟨z41, e0, e1, e4, e12, rfl, (chk_rng h42), hC.sel [0, 1] (by decide), lN hl0⟩
      · replace hb := (cF hq19).symm.trans hb
        refine Wc.exit rfl ?_
        obtain rfl := Option.some.inj hb
        obtain rfl := (lX hl0).symm
        exact hK11 _ _ ⟨v13_0, e4, hrv13_0, hC.sel [] (by decide), hbK0⟩
    · clear hb hC hl0
      rintro E44 w43 ⟨v13_0, e4, hrv13_0, hC, hb⟩
      refine hK8 _ _ ?_
      refine Wc.seq fun K45 hK45 => ?_
      refine Wc.region (by decide +kernel) ?_
      refine lex.pure (v := .bool true) (pu_assign rfl) ?_
      refine lex.nil ?_
      refine hK45 _ _ ?_
      obtain rfl := Option.some.inj hb
      refine Wc.ret ?_
      refine hKR _ _ ?_
      refine ⟨_, res1 Try.results32 (show RV _ _ _ (.tmp _) (.bool true) from rfl), _, rfl, rfl, hC.sel [] (by decide)⟩

set_option maxRecDepth 100000 in
set_option maxHeartbeats 4000000 in
theorem law34_GarsideSimple_ok (n : Nat) {w : World} {O0 : List Nat} (hO : ∀ k ∈ O0, k < w.heap.size) {Ap_0 : Option Addr} {mp_0 cp_0 : Nat} {p_0 : List Int} (hp_0 : Rep O0 w (.sl (.int .i64)) [.slice Ap_0 mp_0 cp_0] p_0) {r : Bool} (hb : F.law34_GarsideSimple n p_0 = some r) :
    Calls Try.prog 8 #[.slice Ap_0 mp_0 cp_0] w fun e w' => ∃ v, e = .returned v ∧ v = .bool r ∧ Cx (fun _ => False) O0 w w' [] := by
  unfold F.law34_GarsideSimple at hb
  have hC := Cx.start hO
  replace hC := hC.arg rfl hp_0
  clear hO
  obtain ⟨rfl, hlp_0, hcp_0⟩ := hp_0.sl_len
  refine calls_of_Wc Try.func8 rfl (by rw [Try.ntmps8]; exact Nat.le_of_ble_eq_true rfl) fun KR hKR => ?_
  refine Wc.seq fun K2 hK2 => ?_
  refine Wc.region (by decide +kernel) ?_
  refine lex.pure (v := .bool false) (pu_assign rfl) ?_
  refine lex.nil ?_
  refine hK2 _ _ ?_
  refine Wc.seq fun K3 hK3 => ?_
  refine Wc.seq fun K4 hK4 => ?_
  refine Wc.region (by decide +kernel) ?_
  obtain ⟨y5, h6, hb⟩ := bd hb
  refine lex.cl (⟨_, _, op_call (vs := []) Try.call12 rfl rfl rfl, law34_awake_ok n hC.lt  h6⟩) ?_
  rintro _ w7 ⟨rfl, hK⟩
  replace hC := hC.merge hK
  clear hK
  refine lex.pure (v := .bool (!y5)) (pu_not (q := y5) rfl) ?_
  refine lex.pure (v := .bool (!y5)) (pu_move rfl) ?_
  rcases bS (!y5) with hq8 | hq8
  · replace hb := (cT hq8).symm.trans hb
    refine lex.gskip (want_f rfl rfl (show _ = Value.bool (!y5) from rfl) hq8) ?_
    refine lex.gskip (want_f rfl rfl (show _ = Value.bool (!y5) from rfl) hq8) ?_
    refine lex.gskip (want_f rfl rfl (show _ = Value.bool (!y5) from rfl) hq8) ?_
    refine lex.pure (v := .bool true) (pu_pickT (q := (!y5)) rfl hq8 rfl) ?_
    refine lex.nil ?_
    refine hK4 _ _ ?_
    refine Wc.cond_true (rfl) ?_
    refine Wc.seq fun K9 hK9 => ?_
    refine Wc.region (by decide +kernel) ?_
    obtain ⟨y10, h11, hb⟩ := bd hb
    refine lex.cl (⟨_, _, op_call (vs := []) Try.call12 rfl rfl rfl, law34_awake_ok n hC.lt  h11⟩) ?_
    rintro _ w12 ⟨rfl, hK⟩
    replace hC := hC.merge hK
    clear hK
    refine lex.pure (v := .bool y10) (pu_assign rfl) ?_
    refine lex.nil ?_
    refine hK9 _ _ ?_
    obtain rfl := Option.some.inj hb
    refine Wc.ret ?_
    refine hKR _ _ ?_
    refine ⟨_, res1 Try.results8 (show RV _ _ _ (.tmp _) (.bool y10) from rfl), _, rfl, rfl, hC.sel [] (by decide)⟩
  · replace hb := (cF hq8).symm.trans hb
    refine lex.gpure (want_t rfl rfl (show _ = Value.bool (!y5) from rfl) hq8) (v := .slice Ap_0 p_0.length cp_0) (pu_move rfl) ?_
    refine lex.gpure (want_t rfl rfl (show _ = Value.bool (!y5) from rfl) hq8) (v := .int .i64 (p_0.length : Int)) (pu_len (A := Ap_0) (n := p_0.length) (m := cp_0) Try.underlying22 rfl) ?_
    refine lex.gpure (want_t rfl rfl (show _ = Value.bool (!y5) from rfl) hq8) (v := .bool (decide (20 < (p_0.length : Int)))) (pu_gtr (k := .i64) (a := (p_0.length : Int)) (b := 20) rfl rfl) ?_
    refine lex.pure (v := .bool (decide (20 < (p_0.length : Int)))) (pu_pickF (q := (!y5)) rfl hq8 rfl) ?_
    refine lex.nil ?_
    refine hK4 _ _ ?_
    refine Wc.cond (t := (decide (20 < (p_0.length : Int)))) (rfl) (fun hq13 => ?_) (fun hq13 => ?_)
    · replace hb := (cT hq13).symm.trans hb
      refine Wc.seq fun K14 hK14 => ?_
      refine Wc.region (by decide +kernel) ?_
      obtain ⟨y15, h16, hb⟩ := bd hb
      refine lex.cl (⟨_, _, op_call (vs := []) Try.call12 rfl rfl rfl, law34_awake_ok n hC.lt  h16⟩) ?_
      rintro _ w17 ⟨rfl, hK⟩
      replace hC := hC.merge hK
      clear hK
      refine lex.pure (v := .bool y15) (pu_assign rfl) ?_
      refine lex.nil ?_
      refine hK14 _ _ ?_
      obtain rfl := Option.some.inj hb
      refine Wc.ret ?_
      refine hKR _ _ ?_
      refine ⟨_, res1 Try.results8 (show RV _ _ _ (.tmp _) (.bool y15) from rfl), _, rfl, rfl, hC.sel [] (by decide)⟩
    · replace hb := (cF hq13).symm.trans hb
      refine Wc.skip ?_
      refine hK3 _ _ ?_
      refine Wc.seq fun K18 hK18 => ?_
      refine Wc.region (by decide +kernel) ?_
      refine lex.pure (v := .slice Ap_0 p_0.length cp_0) (pu_move rfl) ?_
      obtain ⟨y19, h20, hb⟩ := bd hb
      refine lex.cl (⟨_, _, op_call (vs := [.slice Ap_0 p_0.length cp_0]) Try.call30 rfl rfl rfl, garside_Simple_ok n hC.lt (hC.rd (i := 0) rfl) h20⟩) ?_
      rintro _ w27 ⟨A22, m23, c24, rfl, hr21, hr26, hK⟩
      replace hC := hC.merge hK
      clear hK
      obtain ⟨rfl, hl28, hc29⟩ := (hC.ow (i := 0) rfl).sl_len
      refine lex.pure (v := .tuple #[.agg #[.int .i64 y19.1, .slice A22 y19.2.1.length c24], .int .i64 y19.2.2]) (pu_move rfl) ?_
      refine lex.pure (v := .agg #[.int .i64 y19.1, .slice A22 y19.2.1.length c24]) (pu_extract rfl rfl) ?_
      refine lex.pure (v := .int .i64 y19.2.2) (pu_extract rfl rfl) ?_
      refine lex.op (hC.alloc (cs := [.int .i64 0, .slice none 0 0]) Try.zeroValue24 rfl) ?_
      rintro _ w31 ⟨g30, rfl, hC, hF, hG⟩
      clear hG
      refine lex.sk (hC.seta (i := 0) (ds := [.int .i64 y19.1, .slice A22 y19.2.1.length c24]) rfl Try.type24 rfl rfl rfl rfl rfl) ?_
      rintro w33 ⟨hC, hF⟩
      refine lex.pure (v := .int .i64 y19.2.2) (pu_assign rfl) ?_
      refine lex.nil ?_
      refine hK18 _ _ ?_
      refine Wc.fresh fun E34 hE => ?_
      have e0 : E34 0 = .slice Ap_0 p_0.length cp_0 := (congrFun hE 0).trans rfl
      have e2 : E34 2 = .bool false := (congrFun hE 2).trans rfl
      have e3 : E34 3 = .pointer (some ⟨g30, 0, none⟩) := (congrFun hE 3).trans rfl
      have e4 : E34 4 = .int .i64 y19.2.2 := (congrFun hE 4).trans rfl
      clear hE
      refine Wc.seq fun K35 hK35 => ?_
      refine Wc.seqJ (fun E wv => ∃ (v33_0 : Bool), E 0 = .slice Ap_0 p_0.length cp_0 ∧ E 2 = .bool false ∧ E 3 = .pointer (some ⟨g30, 0, none⟩) ∧ E 4 = .int .i64 y19.2.2 ∧ E 33 = .bool v33_0 ∧ Cx (fun _ => False) O0 w wv [.ro (.sl (.int .i64)) [.slice Ap_0 p_0.length cp_0] p_0, .box g30 24 [.int .i64 y19.1, .slice A22 y19.2.1.length c24], .own 3 (.int .i64) (.slice A22 y19.2.1.length c24) y19.2.1] ∧ F.law34_GarsideSimple_j0 n p_0 y19 v33_0 = some r) (fun K36 hK36 => ?_) ?_
      ·
        skip
        refine Wc.region (by decide +kernel) ?_
        refine lex.pure (v := .slice Ap_0 p_0.length cp_0) (pu_move e0) ?_
        refine lex.pure (v := .int .i64 (p_0.length : Int)) (pu_len (A := Ap_0) (n := p_0.length) (m := cp_0) Try.underlying22 rfl) ?_
        refine lex.pure (v := .bool (decide ((p_0.length : Int) < 1))) (pu_lss (k := .i64) (a := (p_0.length : Int)) (b := 1) rfl rfl) ?_
        refine lex.pure (v := .bool (decide ((p_0.length : Int) < 1))) (pu_move rfl) ?_
        rcases bS (decide ((p_0.length : Int) < 1)) with hq37 | hq37
        · replace hb := (cT hq37).symm.trans hb
          refine lex.gskip (want_f rfl rfl (show _ = Value.bool (decide ((p_0.length : Int) < 1)) from rfl) hq37) ?_
          refine lex.gskip (want_f rfl rfl (show _ = Value.bool (decide ((p_0.length : Int) < 1)) from rfl) hq37) ?_
          refine lex.gskip (want_f rfl rfl (show _ = Value.bool (decide ((p_0.length : Int) < 1)) from rfl) hq37) ?_
          refine lex.pure (v := .bool true) (pu_pickT (q := (decide ((p_0.length : Int) < 1))) rfl hq37 rfl) ?_
          refine lex.pure (v := .bool true) (pu_move rfl) ?_
          refine lex.gskip (want_f rfl rfl (show _ = Value.bool true from rfl) rfl) ?_
          refine lex.gskip (want_f rfl rfl (show _ = Value.bool true from rfl) rfl) ?_
          refine lex.gskip (want_f rfl rfl (show _ = Value.bool true from rfl) rfl) ?_
          refine lex.pure (v := .bool true) (pu_pickT (q := true) rfl rfl rfl) ?_
          refine lex.nil ?_
          exact hK36 _ _ ⟨true, e0, e2, e3, e4, rfl, hC.sel [2, 0, 1] (by decide), hb⟩
        · replace hb := (cF hq37).symm.trans hb
          refine lex.gpure (want_t rfl rfl (show _ = Value.bool (decide ((p_0.length : Int) < 1)) from rfl) hq37) (v := .slice Ap_0 p_0.length cp_0) (pu_move e0) ?_
          refine lex.gpure (want_t rfl rfl (show _ = Value.bool (decide ((p_0.length : Int) < 1)) from rfl) hq37) (v := .int .i64 (p_0.length : Int)) (pu_len (A := Ap_0) (n := p_0.length) (m := cp_0) Try.underlying22 rfl) ?_
          refine lex.gpure (want_t rfl rfl (show _ = Value.bool (decide ((p_0.length : Int) < 1)) from rfl) hq37) (v := .bool (decide (10 < (p_0.length : Int)))) (pu_gtr (k := .i64) (a := (p_0.length : Int)) (b := 10) rfl rfl) ?_
          refine lex.pure (v := .bool (decide (10 < (p_0.length : Int)))) (pu_pickF (q := (decide ((p_0.length : Int) < 1))) rfl hq37 rfl) ?_
          refine lex.pure (v := .bool (decide (10 < (p_0.length : Int)))) (pu_move rfl) ?_
          rcases bS (decide (10 < (p_0.length : Int))) with hq38 | hq38
          · replace hb := (cT hq38).symm.trans hb
            refine lex.gskip (want_f rfl rfl (show _ = Value.bool (decide (10 < (p_0.length : Int))) from rfl) hq38) ?_
            refine lex.gskip (want_f rfl rfl (show _ = Value.bool (decide (10 < (p_0.length : Int))) from rfl) hq38) ?_
            refine lex.gskip (want_f rfl rfl (show _ = Value.bool (decide (10 < (p_0.length : Int))) from rfl) hq38) ?_
            refine lex.pure (v := .bool true) (pu_pickT (q := (decide (10 < (p_0.length : Int)))) rfl hq38 rfl) ?_
            refine lex.nil ?_
            exact hK36 _ _ ⟨true, e0, e2, e3, e4, rfl, hC.sel [2, 0, 1] (by decide), hb⟩
          · replace hb := (cF hq38).symm.trans hb
            refine lex.gpure (want_t rfl rfl (show _ = Value.bool (decide (10 < (p_0.length : Int))) from rfl) hq38) (v := .slice Ap_0 p_0.length cp_0) (pu_move e0) ?_
            obtain ⟨y39, h40, hb⟩ := bd hb
            refine lex.gcl (want_t rfl rfl (show _ = Value.bool (decide (10 < (p_0.length : Int))) from rfl) hq38) (⟨_, _, op_call (vs := [.slice Ap_0 p_0.length cp_0]) Try.call31 rfl rfl rfl, perm_Valid_ok n hC.lt (hC.rd (i := 2) rfl) h40⟩) ?_
            rintro _ w41 ⟨rfl, hK⟩
            replace hC := hC.merge hK
            clear hK
            refine lex.gpure (want_t rfl rfl (show _ = Value.bool (decide (10 < (p_0.length : Int))) from rfl) hq38) (v := .bool (!y39)) (pu_not (q := y39) rfl) ?_
            refine lex.pure (v := .bool (!y39)) (pu_pickF (q := (decide (10 < (p_0.length : Int)))) rfl hq38 rfl) ?_
            refine lex.nil ?_
            exact hK36 _ _ ⟨(!y39), e0, e2, e3, e4, rfl, hC.sel [2, 0, 1] (by decide), hb⟩
      · clear hb hC
        rintro E43 w42 ⟨v33_0, e0, e2, e3, e4, e33, hC, hb⟩
        unfold F.law34_GarsideSimple_j0 at hb
        refine Wc.cond (t := v33_0) (e33) (fun hq44 => ?_) (fun hq44 => ?_)
        · replace hb := (cT hq44).symm.trans hb
          refine Wc.seq fun K45 hK45 => ?_
          refine Wc.region (by decide +kernel) ?_
          refine lex.pure (v := .int .i64 y19.2.2) (pu_move e4) ?_
          refine lex.pure (v := .bool (decide (y19.2.2 = 1))) (pu_eql (k := .i64) (a := y19.2.2) (b := 1) rfl rfl) ?_
          refine lex.pure (v := .bool (decide (y19.2.2 = 1))) (pu_move rfl) ?_
          rcases bS (decide (y19.2.2 = 1)) with hq46 | hq46
          · replace hb := (cT hq46).symm.trans hb
            refine lex.gpure (want_t rfl rfl (show _ = Value.bool (decide (y19.2.2 = 1)) from rfl) hq46) (v := .pointer (some ((⟨g30, 0, none⟩ : Addr).add 0))) (pu_field (sz := 1) Try.underlying24 rfl Try.sizeOf3 (by decide) rfl e3) ?_
            refine lex.gval (want_t rfl rfl (show _ = Value.bool (decide (y19.2.2 = 1)) from rfl) hq46) (v := .int .i64 y19.1) (ld_fld (hC.bx (i := 1) rfl) Try.isAgg3 rfl rfl) ?_
            refine lex.gpure (want_t rfl rfl (show _ = Value.bool (decide (y19.2.2 = 1)) from rfl) hq46) (v := .bool (decide (y19.1 = 0))) (pu_eql (k := .i64) (a := y19.1) (b := 0) rfl rfl) ?_
            refine lex.pure (v := .bool (decide (y19.1 = 0))) (pu_pickT (q := (decide (y19.2.2 = 1))) rfl hq46 rfl) ?_
            refine lex.pure (v := .bool (decide (y19.1 = 0))) (pu_move rfl) ?_
            rcases bS (decide (y19.1 = 0)) with hq47 | hq47
            · replace hb := (cT hq47).symm.trans hb
              refine lex.gpure (want_t rfl rfl (show _ = Value.bool (decide (y19.1 = 0)) from rfl) hq47) (v := .pointer (some ((⟨g30, 0, none⟩ : Addr).add 1))) (pu_field (sz := 1) Try.underlying24 rfl Try.sizeOf22 (by decide) rfl e3) ?_
              refine lex.gval (want_t rfl rfl (show _ = Value.bool (decide (y19.1 = 0)) from rfl) hq47) (v := .slice A22 y19.2.1.length c24) (ld_fld (hC.bx (i := 1) rfl) Try.isAgg22 rfl rfl) ?_
              refine lex.gpure (want_t rfl rfl (show _ = Value.bool (decide (y19.1 = 0)) from rfl) hq47) (v := .int .i64 (y19.2.1.length : Int)) (pu_len (A := A22) (n := y19.2.1.length) (m := c24) Try.underlying22 rfl) ?_
              refine lex.gpure (want_t rfl rfl (show _ = Value.bool (decide (y19.1 = 0)) from rfl) hq47) (v := .bool (decide ((y19.2.1.length : Int) = 0))) (pu_eql (k := .i64) (a := (y19.2.1.length : Int)) (b := 0) rfl rfl) ?_
              refine lex.pure (v := .bool (decide ((y19.2.1.length : Int) = 0))) (pu_pickT (q := (decide (y19.1 = 0))) rfl hq47 rfl) ?_
              refine lex.pure (v := .bool (decide ((y19.2.1.length : Int) = 0))) (pu_assign rfl) ?_
              refine lex.nil ?_
              refine hK45 _ _ ?_
              obtain rfl := Option.some.inj hb
              refine Wc.ret ?_
              refine hKR _ _ ?_
              refine ⟨_, res1 Try.results8 (show RV _ _ _ (.tmp _) (.bool (decide ((y19.2.1.length : Int) = 0))) from rfl), _, rfl, rfl, hC.sel [] (by decide)⟩
            · replace hb := (cF hq47).symm.trans hb
              refine lex.gskip (want_f rfl rfl (show _ = Value.bool (decide (y19.1 = 0)) from rfl) hq47) ?_
              refine lex.gskip (want_f rfl rfl (show _ = Value.bool (decide (y19.1 = 0)) from rfl) hq47) ?_
              refine lex.gskip (want_f rfl rfl (show _ = Value.bool (decide (y19.1 = 0)) from rfl) hq47) ?_
              refine lex.gskip (want_f rfl rfl (show _ = Value.bool (decide (y19.1 = 0)) from rfl) hq47) ?_
              refine lex.pure (v := .bool false) (pu_pickF (q := (decide (y19.1 = 0))) rfl hq47 rfl) ?_
              refine lex.pure (v := .bool false) (pu_assign rfl) ?_
              refine lex.nil ?_
              refine hK45 _ _ ?_
              obtain rfl := Option.some.inj hb
              refine Wc.ret ?_
              refine hKR _ _ ?_
              refine ⟨_, res1 Try.results8 (show RV _ _ _ (.tmp _) (.bool false) from rfl), _, rfl, rfl, hC.sel [] (by decide)⟩
          · replace hb := (cF hq46).symm.trans hb
            refine lex.gskip (want_f rfl rfl (show _ = Value.bool (decide (y19.2.2 = 1)) from rfl) hq46) ?_
            refine lex.gskip (want_f rfl rfl (show _ = Value.bool (decide (y19.2.2 = 1)) from rfl) hq46) ?_
            refine lex.gskip (want_f rfl rfl (show _ = Value.bool (decide (y19.2.2 = 1)) from rfl) hq46) ?_
            refine lex.pure (v := .bool false) (pu_pickF (q := (decide (y19.2.2 = 1))) rfl hq46 rfl) ?_
            refine lex.pure (v := .bool false) (pu_move rfl) ?_
            refine lex.gskip (want_f rfl rfl (show _ = Value.bool false from rfl) rfl) ?_
            refine lex.gskip (want_f rfl rfl (show _ = Value.bool false from rfl) rfl) ?_
            refine lex.gskip (want_f rfl rfl (show _ = Value.bool false from rfl) rfl) ?_
            refine lex.gskip (want_f rfl rfl (show _ = Value.bool false from rfl) rfl) ?_
            refine lex.pure (v := .bool false) (pu_pickF (q := false) rfl rfl rfl) ?_
            refine lex.pure (v := .bool false) (pu_assign rfl) ?_
            refine lex.nil ?_
            refine hK45 _ _ ?_
            obtain rfl := Option.some.inj hb
            refine Wc.ret ?_
            refine hKR _ _ ?_
            refine ⟨_, res1 Try.results8 (show RV _ _ _ (.tmp _) (.bool false) from rfl), _, rfl, rfl, hC.sel [] (by decide)⟩
        · replace hb := (cF hq44).symm.trans hb
          refine Wc.skip ?_
          refine hK35 _ _ ?_
          refine Wc.seq fun K48 hK48 => ?_
          refine Wc.seq fun K49 hK49 => ?_
          refine Wc.regionMix [] (frm [] ([] : List Fact) ([] : List Fact)) (fun _ => rfl) mixed (by decide +kernel) (by decide +kernel) fun w51 hw50 => ?_
          replace hC := hC.step (Fr.of_drew hw50)
          have hM := Fr.refl (fun k => k ∈ blocks ([] : List Fact)) w51
          clear hw50
          have hS := hC
          refine mixE.pure (v := .int .i64 y19.2.2) (pu_move e4) ?_
          refine mixE.pure (v := .bool (!(decide (y19.2.2 = 0)))) (pu_neq (k := .i64) (a := y19.2.2) (b := 0) rfl rfl) ?_
          refine mixE.pure (v := .bool (!(decide (y19.2.2 = 0)))) (pu_move rfl) ?_
          rcases bS (!(decide (y19.2.2 = 0))) with hq52 | hq52
          · replace hb := (cT hq52).symm.trans hb
            refine mixE.gskip (want_f rfl rfl (show _ = Value.bool (!(decide (y19.2.2 = 0))) from rfl) hq52) ?_
            refine mixE.gskip (want_f rfl rfl (show _ = Value.bool (!(decide (y19.2.2 = 0))) from rfl) hq52) ?_
            refine mixE.gskip (want_f rfl rfl (show _ = Value.bool (!(decide (y19.2.2 = 0))) from rfl) hq52) ?_
            refine mixE.gskip (want_f rfl rfl (show _ = Value.bool (!(decide (y19.2.2 = 0))) from rfl) hq52) ?_
            refine mixE.gskip (want_f rfl rfl (show _ = Value.bool (!(decide (y19.2.2 = 0))) from rfl) hq52) ?_
            refine mixE.pure (v := .bool true) (pu_pickT (q := (!(decide (y19.2.2 = 0)))) rfl hq52 rfl) ?_
            refine mixE.pure (v := .bool true) (pu_move rfl) ?_
            refine mixE.gskip (want_f rfl rfl (show _ = Value.bool true from rfl) rfl) ?_
            refine mixE.gskip (want_f rfl rfl (show _ = Value.bool true from rfl) rfl) ?_
            refine mixE.gskip (want_f rfl rfl (show _ = Value.bool true from rfl) rfl) ?_
            refine mixE.gskip (want_f rfl rfl (show _ = Value.bool true from rfl) rfl) ?_
            refine mixE.gskip (want_f rfl rfl (show _ = Value.bool true from rfl) rfl) ?_
            refine mixE.gskip (want_f rfl rfl (show _ = Value.bool true from rfl) rfl) ?_
            refine mixE.pure (v := .bool true) (pu_pickT (q := true) rfl rfl rfl) ?_
            refine mixE.pure (v := .bool true) (pu_move rfl) ?_
            refine mixE.gskip (want_f rfl rfl (show _ = Value.bool true from rfl) rfl) ?_
            refine mixE.gskip (want_f rfl rfl (show _ = Value.bool true from rfl) rfl) ?_
            refine mixE.gskip (want_f rfl rfl (show _ = Value.bool true from rfl) rfl) ?_
            refine mixE.gskip (want_f rfl rfl (show _ = Value.bool true from rfl) rfl) ?_
            refine mixE.gskip (want_f rfl rfl (show _ = Value.bool true from rfl) rfl) ?_
            refine mixE.gskip (want_f rfl rfl (show _ = Value.bool true from rfl) rfl) ?_
            refine mixE.pure (v := .bool true) (pu_pickT (q := true) rfl rfl rfl) ?_
            refine mixE.pure (v := .bool true) (pu_move rfl) ?_
            refine mixE.gskip (want_f rfl rfl (show _ = Value.bool true from rfl) rfl) ?_
            refine mixE.gskip (want_f rfl rfl (show _ = Value.bool true from rfl) rfl) ?_
            refine mixE.gskip (want_f rfl rfl (show _ = Value.bool true from rfl) rfl) ?_
            refine mixE.gskip (want_f rfl rfl (show _ = Value.bool true from rfl) rfl) ?_
            refine mixE.gskip (want_f rfl rfl (show _ = Value.bool true from rfl) rfl) ?_
            refine mixE.pure (v := .bool true) (pu_pickT (q := true) rfl rfl rfl) ?_
            refine mixE.nil ?_
            clear hS hM
            refine hK49 _ _ ?_
            refine Wc.cond_true (rfl) ?_
            refine Wc.seq fun K53 hK53 => ?_
            refine Wc.region (by decide +kernel) ?_
            refine lex.pure (v := .bool false) (pu_assign rfl) ?_
            refine lex.nil ?_
            refine hK53 _ _ ?_
            obtain rfl := Option.some.inj hb
            refine Wc.ret ?_
            refine hKR _ _ ?_
            refine ⟨_, res1 Try.results8 (show RV _ _ _ (.tmp _) (.bool false) from rfl), _, rfl, rfl, hC.sel [] (by decide)⟩
          · replace hb := (cF hq52).symm.trans hb
            refine mixE.gpure rfl (want_t rfl rfl (show _ = Value.bool (!(decide (y19.2.2 = 0))) from rfl) hq52) (v := .pointer (some ((⟨g30, 0, none⟩ : Addr).add 0))) (pu_field (sz := 1) Try.underlying24 rfl Try.sizeOf3 (by decide) rfl e3) ?_
            refine mixE.gload rfl (want_t rfl rfl (show _ = Value.bool (!(decide (y19.2.2 = 0))) from rfl) hq52) hM (v := .int .i64 y19.1) (fun _ hF => ld_fld (hS.bx2 (i := 1) rfl [] (by decide) hF) Try.isAgg3 rfl rfl) ?_
            refine mixE.gpure rfl (want_t rfl rfl (show _ = Value.bool (!(decide (y19.2.2 = 0))) from rfl) hq52) (v := .slice Ap_0 p_0.length cp_0) (pu_move e0) ?_
            refine mixE.gpure rfl (want_t rfl rfl (show _ = Value.bool (!(decide (y19.2.2 = 0))) from rfl) hq52) (v := .int .i64 (p_0.length : Int)) (pu_len (A := Ap_0) (n := p_0.length) (m := cp_0) Try.underlying22 rfl) ?_
            refine mixE.gpure rfl (want_t rfl rfl (show _ = Value.bool (!(decide (y19.2.2 = 0))) from rfl) hq52) (v := .bool (!(decide (y19.1 = (p_0.length : Int))))) (pu_neq (k := .i64) (a := y19.1) (b := (p_0.length : Int)) rfl rfl) ?_
            refine mixE.pure (v := .bool (!(decide (y19.1 = (p_0.length : Int))))) (pu_pickF (q := (!(decide (y19.2.2 = 0)))) rfl hq52 rfl) ?_
            refine mixE.pure (v := .bool (!(decide (y19.1 = (p_0.length : Int))))) (pu_move rfl) ?_
            rcases bS (!(decide (y19.1 = (p_0.length : Int)))) with hq54 | hq54
            · replace hb := (cT hq54).symm.trans hb
              refine mixE.gskip (want_f rfl rfl (show _ = Value.bool (!(decide (y19.1 = (p_0.length : Int)))) from rfl) hq54) ?_
              refine mixE.gskip (want_f rfl rfl (show _ = Value.bool (!(decide (y19.1 = (p_0.length : Int)))) from rfl) hq54) ?_
              refine mixE.gskip (want_f rfl rfl (show _ = Value.bool (!(decide (y19.1 = (p_0.length : Int)))) from rfl) hq54) ?_
              refine mixE.gskip (want_f rfl rfl (show _ = Value.bool (!(decide (y19.1 = (p_0.length : Int)))) from rfl) hq54) ?_
              refine mixE.gskip (want_f rfl rfl (show _ = Value.bool (!(decide (y19.1 = (p_0.length : Int)))) from rfl) hq54) ?_
              refine mixE.gskip (want_f rfl rfl (show _ = Value.bool (!(decide (y19.1 = (p_0.length : Int)))) from rfl) hq54) ?_
              refine mixE.pure (v := .bool true) (pu_pickT (q := (!(decide (y19.1 = (p_0.length : Int))))) rfl hq54 rfl) ?_
              refine mixE.pure (v := .bool true) (pu_move rfl) ?_
              refine mixE.gskip (want_f rfl rfl (show _ = Value.bool true from rfl) rfl) ?_
              refine mixE.gskip (want_f rfl rfl (show _ = Value.bool true from rfl) rfl) ?_
              refine mixE.gskip (want_f rfl rfl (show _ = Value.bool true from rfl) rfl) ?_
              refine mixE.gskip (want_f rfl rfl (show _ = Value.bool true from rfl) rfl) ?_
              refine mixE.gskip (want_f rfl rfl (show _ = Value.bool true from rfl) rfl) ?_
              refine mixE.gskip (want_f rfl rfl (show _ = Value.bool true from rfl) rfl) ?_
              refine mixE.pure (v := .bool true) (pu_pickT (q := true) rfl rfl rfl) ?_
              refine mixE.pure (v := .bool true) (pu_move rfl) ?_
              refine mixE.gskip (want_f rfl rfl (show _ = Value.bool true from rfl) rfl) ?_
              refine mixE.gskip (want_f rfl rfl (show _ = Value.bool true from rfl) rfl) ?_
              refine mixE.gskip (want_f rfl rfl (show _ = Value.bool true from rfl) rfl) ?_
              refine mixE.gskip (want_f rfl rfl (show _ = Value.bool true from rfl) rfl) ?_
              refine mixE.gskip (want_f rfl rfl (show _ = Value.bool true from rfl) rfl) ?_
              refine mixE.pure (v := .bool true) (pu_pickT (q := true) rfl rfl rfl) ?_
              refine mixE.nil ?_
              clear hS hM
              refine hK49 _ _ ?_
              refine Wc.cond_true (rfl) ?_
              refine Wc.seq fun K55 hK55 => ?_
              refine Wc.region (by decide +kernel) ?_
              refine lex.pure (v := .bool false) (pu_assign rfl) ?_
              refine lex.nil ?_
              refine hK55 _ _ ?_
              obtain rfl := Option.some.inj hb
              refine Wc.ret ?_
              refine hKR _ _ ?_
              refine ⟨_, res1 Try.results8 (show RV _ _ _ (.tmp _) (.bool false) from rfl), _, rfl, rfl, hC.sel [] (by decide)⟩
            · replace hb := (cF hq54).symm.trans hb
              refine mixE.gpure rfl (want_t rfl rfl (show _ = Value.bool (!(decide (y19.1 = (p_0.length : Int)))) from rfl) hq54) (v := .pointer (some ((⟨g30, 0, none⟩ : Addr).add 1))) (pu_field (sz := 1) Try.underlying24 rfl Try.sizeOf22 (by decide) rfl e3) ?_
              refine mixE.gload rfl (want_t rfl rfl (show _ = Value.bool (!(decide (y19.1 = (p_0.length : Int)))) from rfl) hq54) hM (v := .slice A22 y19.2.1.length c24) (fun _ hF => ld_fld (hS.bx2 (i := 1) rfl [] (by decide) hF) Try.isAgg22 rfl rfl) ?_
              refine mixE.gpure rfl (want_t rfl rfl (show _ = Value.bool (!(decide (y19.1 = (p_0.length : Int)))) from rfl) hq54) (v := .slice Ap_0 p_0.length cp_0) (pu_move e0) ?_
              obtain ⟨y56, h57, hb⟩ := bd hb
              refine mixE.gcl rfl (want_t rfl rfl (show _ = Value.bool (!(decide (y19.1 = (p_0.length : Int)))) from rfl) hq54) hM (⟨_, _, op_call (vs := [.slice Ap_0 p_0.length cp_0]) Try.call33 rfl rfl rfl, ref34_Word_ok n hC.lt (hC.rd (i := 0) rfl) h57⟩) ?_
              rintro _ w62 ⟨A58, m59, c60, rfl, hK⟩
              replace hM := hM.none hK.fr
              refine ⟨hM, ?_⟩
              replace hC := hC.merge hK
              clear hK
              obtain ⟨rfl, hl63, hc64⟩ := (hC.ow (i := 0) rfl).sl_len
              obtain ⟨y65, h66, hb⟩ := bd hb
              refine mixE.gcl rfl (want_t rfl rfl (show _ = Value.bool (!(decide (y19.1 = (p_0.length : Int)))) from rfl) hq54) hM (⟨_, _, op_call (vs := [.slice A22 y19.2.1.length c24, .slice A58 y56.length c60]) Try.call32 rfl rfl rfl, slices_Equal_Lint_int_ok n (hC.lentLt [.slice A22 y19.2.1.length c24, .slice A58 y56.length c60]) ((hC.ow (i := 3) rfl).lend (vs := [.slice A22 y19.2.1.length c24, .slice A58 y56.length c60]) (by simp)) ((hC.ow (i := 0) rfl).lend (vs := [.slice A22 y19.2.1.length c24, .slice A58 y56.length c60]) (by simp)) h66⟩) ?_
              rintro _ w67 ⟨rfl, hK⟩
              replace hM := hM.none hK.fr
              refine ⟨hM, ?_⟩
              replace hC := hC.mergeF hK rfl
              clear hK
              refine mixE.gpure rfl (want_t rfl rfl (show _ = Value.bool (!(decide (y19.1 = (p_0.length : Int)))) from rfl) hq54) (v := .bool (!y65)) (pu_not (q := y65) rfl) ?_
              refine mixE.pure (v := .bool (!y65)) (pu_pickF (q := (!(decide (y19.1 = (p_0.length : Int))))) rfl hq54 rfl) ?_
              refine mixE.pure (v := .bool (!y65)) (pu_move rfl) ?_
              rcases bS (!y65) with hq68 | hq68
              · replace hb := (cT hq68).symm.trans hb
                refine mixE.gskip (want_f rfl rfl (show _ = Value.bool (!y65) from rfl) hq68) ?_
                refine mixE.gskip (want_f rfl rfl (show _ = Value.bool (!y65) from rfl) hq68) ?_
                refine mixE.gskip (want_f rfl rfl (show _ = Value.bool (!y65) from rfl) hq68) ?_
                refine mixE.gskip (want_f rfl rfl (show _ = Value.bool (!y65) from rfl) hq68) ?_
                refine mixE.gskip (want_f rfl rfl (show _ = Value.bool (!y65) from rfl) hq68) ?_
                refine mixE.gskip (want_f rfl rfl (show _ = Value.bool (!y65) from rfl) hq68) ?_
                refine mixE.pure (v := .bool true) (pu_pickT (q := (!y65)) rfl hq68 rfl) ?_
                refine mixE.pure (v := .bool true) (pu_move rfl) ?_
                refine mixE.gskip (want_f rfl rfl (show _ = Value.bool true from rfl) rfl) ?_
                refine mixE.gskip (want_f rfl rfl (show _ = Value.bool true from rfl) rfl) ?_
                refine mixE.gskip (want_f rfl rfl (show _ = Value.bool true from rfl) rfl) ?_
                refine mixE.gskip (want_f rfl rfl (show _ = Value.bool true from rfl) rfl) ?_
                refine mixE.gskip (want_f rfl rfl (show _ = Value.bool true from rfl) rfl) ?_
                refine mixE.pure (v := .bool true) (pu_pickT (q := true) rfl rfl rfl) ?_
                refine mixE.nil ?_
                clear hS hM
                refine hK49 _ _ ?_
                refine Wc.cond_true (rfl) ?_
                refine Wc.seq fun K69 hK69 => ?_
                refine Wc.region (by decide +kernel) ?_
                refine lex.pure (v := .bool false) (pu_assign rfl) ?_
                refine lex.nil ?_
                refine hK69 _ _ ?_
                obtain rfl := Option.some.inj hb
                refine Wc.ret ?_
                refine hKR _ _ ?_
                refine ⟨_, res1 Try.results8 (show RV _ _ _ (.tmp _) (.bool false) from rfl), _, rfl, rfl, hC.sel [] (by decide)⟩
              · replace hb := (cF hq68).symm.trans hb
                refine mixE.gpure rfl (want_t rfl rfl (show _ = Value.bool (!y65) from rfl) hq68) (v := .pointer (some ((⟨g30, 0, none⟩ : Addr).add 1))) (pu_field (sz := 1) Try.underlying24 rfl Try.sizeOf22 (by decide) rfl e3) ?_
                refine mixE.gload rfl (want_t rfl rfl (show _ = Value.bool (!y65) from rfl) hq68) hM (v := .slice A22 y19.2.1.length c24) (fun _ hF => ld_fld (hS.bx2 (i := 1) rfl [] (by decide) hF) Try.isAgg22 rfl rfl) ?_
                refine mixE.gpure rfl (want_t rfl rfl (show _ = Value.bool (!y65) from rfl) hq68) (v := .int .i64 (y19.2.1.length : Int)) (pu_len (A := A22) (n := y19.2.1.length) (m := c24) Try.underlying22 rfl) ?_
                refine mixE.gpure rfl (want_t rfl rfl (show _ = Value.bool (!y65) from rfl) hq68) (v := .slice Ap_0 p_0.length cp_0) (pu_move e0) ?_
                obtain ⟨y70, h71, hb⟩ := bd hb
                refine mixE.gcl rfl (want_t rfl rfl (show _ = Value.bool (!y65) from rfl) hq68) hM (⟨_, _, op_call (vs := [.slice Ap_0 p_0.length cp_0]) Try.call26 rfl rfl rfl, ref34_Inversions_ok n hC.lt (hC.rd (i := 1) rfl) h71⟩) ?_
                rintro _ w73 ⟨rfl, hr72, hK⟩
                replace hM := hM.none hK.fr
                refine ⟨hM, ?_⟩
                replace hC := hC.merge hK
                clear hK
                refine mixE.gpure rfl (want_t rfl rfl (show _ = Value.bool (!y65) from rfl) hq68) (v := .bool (!(decide ((y19.2.1.length : Int) = y70)))) (pu_neq (k := .i64) (a := (y19.2.1.length : Int)) (b := y70) rfl rfl) ?_
                refine mixE.pure (v := .bool (!(decide ((y19.2.1.length : Int) = y70)))) (pu_pickF (q := (!y65)) rfl hq68 rfl) ?_
                refine mixE.pure (v := .bool (!(decide ((y19.2.1.length : Int) = y70)))) (pu_move rfl) ?_
                rcases bS (!(decide ((y19.2.1.length : Int) = y70))) with hq74 | hq74
                · replace hb := (cT hq74).symm.trans hb
                  refine mixE.gskip (want_f rfl rfl (show _ = Value.bool (!(decide ((y19.2.1.length : Int) = y70))) from rfl) hq74) ?_
                  refine mixE.gskip (want_f rfl rfl (show _ = Value.bool (!(decide ((y19.2.1.length : Int) = y70))) from rfl) hq74) ?_
                  refine mixE.gskip (want_f rfl rfl (show _ = Value.bool (!(decide ((y19.2.1.length : Int) = y70))) from rfl) hq74) ?_
                  refine mixE.gskip (want_f rfl rfl (show _ = Value.bool (!(decide ((y19.2.1.length : Int) = y70))) from rfl) hq74) ?_
                  refine mixE.gskip (want_f rfl rfl (show _ = Value.bool (!(decide ((y19.2.1.length : Int) = y70))) from rfl) hq74) ?_
                  refine mixE.pure (v := .bool true) (pu_pickT (q := (!(decide ((y19.2.1.length : Int) = y70)))) rfl hq74 rfl) ?_
                  refine mixE.nil ?_
                  clear hS hM
                  refine hK49 _ _ ?_
                  refine Wc.cond_true (rfl) ?_
                  refine Wc.seq fun K75 hK75 => ?_
                  refine Wc.region (by decide +kernel) ?_
                  refine lex.pure (v := .bool false) (pu_assign rfl) ?_
                  refine lex.nil ?_
                  refine hK75 _ _ ?_
                  obtain rfl := Option.some.inj hb
                  refine Wc.ret ?_
                  refine hKR _ _ ?_
                  refine ⟨_, res1 Try.results8 (show RV _ _ _ (.tmp _) (.bool false) from rfl), _, rfl, rfl, hC.sel [] (by decide)⟩
                · replace hb := (cF hq74).symm.trans hb
                  refine mixE.gload rfl (want_t rfl rfl (show _ = Value.bool (!(decide ((y19.2.1.length : Int) = y70))) from rfl) hq74) hM (v := .agg #[.int .i64 y19.1, .slice A22 y19.2.1.length c24]) (fun _ hF => ld_blk (hS.bx2 (i := 1) rfl [] (by decide) hF) Try.isAgg24 Try.sizeOf24 e3) ?_
                  obtain ⟨y76, h77, hb⟩ := bd hb
                  refine mixE.gcl rfl (want_t rfl rfl (show _ = Value.bool (!(decide ((y19.2.1.length : Int) = y70))) from rfl) hq74) hM (⟨_, _, op_call (vs := [.agg #[.int .i64 y19.1, .slice A22 y19.2.1.length c24]]) Try.call29 rfl rfl rfl, braid_Perm_ok n (hC.lentLt [.slice A22 y19.2.1.length c24]) hr21 ((hC.ow (i := 3) rfl).lend (vs := [.slice A22 y19.2.1.length c24]) (by simp)) h77⟩) ?_
                  rintro _ w82 ⟨A78, m79, c80, rfl, hK⟩
                  replace hM := hM.none hK.fr
                  refine ⟨hM, ?_⟩
                  replace hC := hC.mergeF hK rfl
                  clear hK
                  obtain ⟨rfl, hl83, hc84⟩ := (hC.ow (i := 0) rfl).sl_len
                  refine mixE.gpure rfl (want_t rfl rfl (show _ = Value.bool (!(decide ((y19.2.1.length : Int) = y70))) from rfl) hq74) (v := .slice Ap_0 p_0.length cp_0) (pu_move e0) ?_
                  obtain ⟨y85, h86, hb⟩ := bd hb
                  refine mixE.gcl rfl (want_t rfl rfl (show _ = Value.bool (!(decide ((y19.2.1.length : Int) = y70))) from rfl) hq74) hM (⟨_, _, op_call (vs := [.slice A78 y76.length c80, .slice Ap_0 p_0.length cp_0]) Try.call28 rfl rfl rfl, slices_Equal_Perm_int_ok n (hC.lentLt [.slice A78 y76.length c80]) ((hC.ow (i := 0) rfl).lend (vs := [.slice A78 y76.length c80]) (by simp)) ((hC.rd (i := 2) rfl).lent [.slice A78 y76.length c80]) h86⟩) ?_
                  rintro _ w87 ⟨rfl, hK⟩
                  replace hM := hM.none hK.fr
                  refine ⟨hM, ?_⟩
                  replace hC := hC.mergeF hK rfl
                  clear hK
                  refine mixE.gpure rfl (want_t rfl rfl (show _ = Value.bool (!(decide ((y19.2.1.length : Int) = y70))) from rfl) hq74) (v := .bool (!y85)) (pu_not (q := y85) rfl) ?_
                  refine mixE.pure (v := .bool (!y85)) (pu_pickF (q := (!(decide ((y19.2.1.length : Int) = y70)))) rfl hq74 rfl) ?_
                  refine mixE.nil ?_
                  clear hS hM
                  refine hK49 _ _ ?_
                  refine Wc.cond (t := (!y85)) (rfl) (fun hq88 => ?_) (fun hq88 => ?_)
                  · replace hb := (cT hq88).symm.trans hb
                    refine Wc.seq fun K89 hK89 => ?_
                    refine Wc.region (by decide +kernel) ?_
                    refine lex.pure (v := .bool false) (pu_assign rfl) ?_
                    refine lex.nil ?_
                    refine hK89 _ _ ?_
                    obtain rfl := Option.some.inj hb
                    refine Wc.ret ?_
                    refine hKR _ _ ?_
                    refine ⟨_, res1 Try.results8 (show RV _ _ _ (.tmp _) (.bool false) from rfl), _, rfl, rfl, hC.sel [] (by decide)⟩
                  · replace hb := (cF hq88).symm.trans hb
                    refine Wc.skip ?_
                    refine hK48 _ _ ?_
                    refine Wc.fresh fun E90 hE => ?_
                    have e0 : E90 0 = .slice Ap_0 p_0.length cp_0 := (congrFun hE 0).trans e0
                    have e2 : E90 2 = .bool false := (congrFun hE 2).trans e2
                    have e3 : E90 3 = .pointer (some ⟨g30, 0, none⟩) := (congrFun hE 3).trans e3
                    clear hE
                    refine Wc.seq fun K91 hK91 => ?_
                    refine Wc.region (by decide +kernel) ?_
                    refine lex.val (v := .agg #[.int .i64 y19.1, .slice A22 y19.2.1.length c24]) (ld_blk (hC.bx (i := 3) rfl) Try.isAgg24 Try.sizeOf24 e3) ?_
                    replace hC := hC.freeze (i := 4) rfl (hC.own_new (i := 4) rfl)
                    obtain ⟨y92, h93, hb⟩ := bd hb
                    refine lex.cl (⟨_, _, op_call (vs := [.agg #[.int .i64 y19.1, .slice A22 y19.2.1.length c24]]) Try.call13 rfl rfl rfl, garside_Form_ok n hC.lt hr21 (hC.rd (i := 4) rfl) h93⟩) ?_
                    rintro _ w101 ⟨A96, m97, c98, rfl, hr94, hr95, hr100, hK⟩
                    replace hC := hC.merge hK
                    clear hK
                    obtain ⟨rfl, hl102, hc103⟩ := (hC.rd (i := 0) rfl).sl_len
                    refine lex.pure (v := .tuple #[.agg #[.int .i64 y92.1, .int .i64 y92.2.1, .slice A96 y92.2.2.1.length c98], .int .i64 y92.2.2.2]) (pu_move rfl) ?_
                    refine lex.pure (v := .agg #[.int .i64 y92.1, .int .i64 y92.2.1, .slice A96 y92.2.2.1.length c98]) (pu_extract rfl rfl) ?_
                    refine lex.pure (v := .int .i64 y92.2.2.2) (pu_extract rfl rfl) ?_
                    refine lex.op (hC.alloc (cs := [.int .i64 0, .int .i64 0, .slice none 0 0]) Try.zeroValue28 rfl) ?_
                    rintro _ w105 ⟨g104, rfl, hC, hF, hG⟩
                    clear hG
                    refine lex.sk (hC.seta (i := 0) (ds := [.int .i64 y92.1, .int .i64 y92.2.1, .slice A96 y92.2.2.1.length c98]) rfl Try.type28 rfl rfl rfl rfl rfl) ?_
                    rintro w107 ⟨hC, hF⟩
                    refine lex.pure (v := .int .i64 y92.2.2.2) (pu_assign rfl) ?_
                    refine lex.nil ?_
                    refine hK91 _ _ ?_
                    refine Wc.seq fun K108 hK108 => ?_
                    refine Wc.region (by decide +kernel) ?_
                    refine lex.pure (v := .slice Ap_0 p_0.length cp_0) (pu_move e0) ?_
                    refine lex.pure (v := .int .i64 (p_0.length : Int)) (pu_len (A := Ap_0) (n := p_0.length) (m := cp_0) Try.underlying22 rfl) ?_
                    refine lex.pure (v := .agg #[.int .i64 (p_0.length : Int), .int .i64 0, .slice none 0 0]) (pu_builds (places := [(0, 1), (1, 1), (2, 1)]) (pv := [(0, .int .i64 (p_0.length : Int))]) Try.type28 Try.underlying28 rfl (mp_cons Try.type3 (mp_cons Try.type3 (mp_cons Try.type26 mp_nil rfl rfl) rfl rfl) rfl rfl) rfl (by simp [Instr.fill, Value.cells])) ?_
                    refine lex.op (hC.alloc (cs := [.int .i64 0, .int .i64 0, .slice none 0 0]) Try.zeroValue28 rfl) ?_
                    rintro _ w110 ⟨g109, rfl, hC, hF, hG⟩
                    clear hG
                    refine lex.sk (hC.seta (i := 0) (ds := [.int .i64 (p_0.length : Int), .int .i64 0, .slice none 0 0]) rfl Try.type28 rfl rfl rfl rfl rfl) ?_
                    rintro w112 ⟨hC, hF⟩
                    refine lex.nil ?_
                    refine hK108 _ _ ?_
                    refine Wc.fresh fun E113 hE => ?_
                    have e0 : E113 0 = .slice Ap_0 p_0.length cp_0 := (congrFun hE 0).trans e0
                    have e2 : E113 2 = .bool false := (congrFun hE 2).trans e2
                    have e3 : E113 3 = .pointer (some ⟨g30, 0, none⟩) := (congrFun hE 3).trans e3
                    have e5 : E113 5 = .pointer (some ⟨g104, 0, none⟩) := (congrFun hE 5).trans rfl
                    have e6 : E113 6 = .int .i64 y92.2.2.2 := (congrFun hE 6).trans rfl
                    have e7 : E113 7 = .pointer (some ⟨g109, 0, none⟩) := (congrFun hE 7).trans rfl
                    clear hE
                    refine Wc.seqJ (fun E wv => ∃ (bf111_1_1 : Int) (kf111_2_1 : List (List Int)) (Akf111_2_1 : Option Addr) (mkf111_2_1 ckf111_2_1 : Nat), E 2 = .bool false ∧ E 5 = .pointer (some ⟨g104, 0, none⟩) ∧ E 6 = .int .i64 y92.2.2.2 ∧ E 7 = .pointer (some ⟨g109, 0, none⟩) ∧ I64 bf111_1_1 ∧ Cx (fun _ => False) O0 w wv [.box g104 28 [.int .i64 y92.1, .int .i64 y92.2.1, .slice A96 y92.2.2.1.length c98], .ro (.sl (.sl (.int .i64))) [.slice A96 y92.2.2.1.length c98] y92.2.2.1, .box g109 28 [.int .i64 (p_0.length : Int), .int .i64 bf111_1_1, .slice Akf111_2_1 mkf111_2_1 ckf111_2_1], .own 43 (.sl (.int .i64)) (.slice Akf111_2_1 mkf111_2_1 ckf111_2_1) kf111_2_1] ∧ F.law34_GarsideSimple_j1 n p_0 y92 bf111_1_1 kf111_2_1 = some r) (fun K114 hK114 => ?_) ?_
                    ·
                      skip
                      refine Wc.seqJ (fun E wv => ∃ (v96_2 : Bool), E 0 = .slice Ap_0 p_0.length cp_0 ∧ E 2 = .bool false ∧ E 3 = .pointer (some ⟨g30, 0, none⟩) ∧ E 5 = .pointer (some ⟨g104, 0, none⟩) ∧ E 6 = .int .i64 y92.2.2.2 ∧ E 7 = .pointer (some ⟨g109, 0, none⟩) ∧ E 96 = .bool v96_2 ∧ Cx (fun _ => False) O0 w wv [.ro (.sl (.int .i64)) [.slice Ap_0 p_0.length cp_0] p_0, .box g30 24 [.int .i64 y19.1, .slice A22 y19.2.1.length c24], .ro (.sl (.int .i64)) [.slice A22 y19.2.1.length c24] y19.2.1, .box g104 28 [.int .i64 y92.1, .int .i64 y92.2.1, .slice A96 y92.2.2.1.length c98], .ro (.sl (.sl (.int .i64))) [.slice A96 y92.2.2.1.length c98] y92.2.2.1, .box g109 28 [.int .i64 (p_0.length : Int), .int .i64 0, .slice none 0 0]] ∧ F.law34_GarsideSimple_j2 n p_0 y19 y92 v96_2 = some r) (fun K115 hK115 => ?_) ?_
                      ·
                        skip
                        refine Wc.region (by decide +kernel) ?_
                        refine lex.pure (v := .slice Ap_0 p_0.length cp_0) (pu_move e0) ?_
                        refine lex.pure (v := .int .i64 (p_0.length : Int)) (pu_len (A := Ap_0) (n := p_0.length) (m := cp_0) Try.underlying22 rfl) ?_
                        refine lex.pure (v := .bool (decide (1 < (p_0.length : Int)))) (pu_gtr (k := .i64) (a := (p_0.length : Int)) (b := 1) rfl rfl) ?_
                        refine lex.pure (v := .bool (decide (1 < (p_0.length : Int)))) (pu_move rfl) ?_
                        rcases bS (decide (1 < (p_0.length : Int))) with hq116 | hq116
                        · replace hb := (cT hq116).symm.trans hb
                          refine lex.gpure (want_t rfl rfl (show _ = Value.bool (decide (1 < (p_0.length : Int))) from rfl) hq116) (v := .slice Ap_0 p_0.length cp_0) (pu_move e0) ?_
                          refine lex.gpure (want_t rfl rfl (show _ = Value.bool (decide (1 < (p_0.length : Int))) from rfl) hq116) (v := .slice Ap_0 p_0.length cp_0) (pu_move e0) ?_
                          refine lex.gpure (want_t rfl rfl (show _ = Value.bool (decide (1 < (p_0.length : Int))) from rfl) hq116) (v := .int .i64 (p_0.length : Int)) (pu_len (A := Ap_0) (n := p_0.length) (m := cp_0) Try.underlying22 rfl) ?_
                          obtain ⟨y117, h118, hb⟩ := bd hb
                          refine lex.gcl (want_t rfl rfl (show _ = Value.bool (decide (1 < (p_0.length : Int))) from rfl) hq116) (⟨_, _, op_call (vs := [.int .i64 (p_0.length : Int)]) Try.call24 rfl rfl rfl, ref34_Half_ok n hC.lt (I64.len hlp_0 hcp_0) h118⟩) ?_
                          rintro _ w123 ⟨A119, m120, c121, rfl, hK⟩
                          replace hC := hC.merge hK
                          clear hK
                          obtain ⟨rfl, hl124, hc125⟩ := (hC.ow (i := 0) rfl).sl_len
                          obtain ⟨y126, h127, hb⟩ := bd hb
                          refine lex.gcl (want_t rfl rfl (show _ = Value.bool (decide (1 < (p_0.length : Int))) from rfl) hq116) (⟨_, _, op_call (vs := [.slice Ap_0 p_0.length cp_0, .slice A119 y117.length c121]) Try.call32 rfl rfl rfl, slices_Equal_Lint_int_ok n (hC.lentLt [.slice A119 y117.length c121]) ((hC.rd (i := 6) rfl).lent [.slice A119 y117.length c121]) ((hC.ow (i := 0) rfl).lend (vs := [.slice A119 y117.length c121]) (by simp)) h127⟩) ?_
                          rintro _ w128 ⟨rfl, hK⟩
                          replace hC := hC.mergeF hK rfl
                          clear hK
                          refine lex.pure (v := .bool y126) (pu_pickT (q := (decide (1 < (p_0.length : Int)))) rfl hq116 rfl) ?_
                          refine lex.nil ?_
                          exact hK115 _ _ ⟨y126, e0, e2, e3, e5, e6, e7, rfl, hC.sel [6, 7, 8, 2, 3, 1] (by decide), hb⟩
                        · replace hb := (cF hq116).symm.trans hb
                          refine lex.gskip (want_f rfl rfl (show _ = Value.bool (decide (1 < (p_0.length : Int))) from rfl) hq116) ?_
                          refine lex.gskip (want_f rfl rfl (show _ = Value.bool (decide (1 < (p_0.length : Int))) from rfl) hq116) ?_
                          refine lex.gskip (want_f rfl rfl (show _ = Value.bool (decide (1 < (p_0.length : Int))) from rfl) hq116) ?_
                          refine lex.gskip (want_f rfl rfl (show _ = Value.bool (decide (1 < (p_0.length : Int))) from rfl) hq116) ?_
                          refine lex.gskip (want_f rfl rfl (show _ = Value.bool (decide (1 < (p_0.length : Int))) from rfl) hq116) ?_
                          refine lex.pure (v := .bool false) (pu_pickF (q := (decide (1 < (p_0.length : Int)))) rfl hq116 rfl) ?_
                          refine lex.nil ?_
                          exact hK115 _ _ ⟨false, e0, e2, e3, e5, e6, e7, rfl, hC.sel [5, 6, 7, 1, 2, 0] (by decide), hb⟩
                      · clear hb hC
                        rintro E130 w129 ⟨v96_2, e0, e2, e3, e5, e6, e7, e96, hC, hb⟩
                        unfold F.law34_GarsideSimple_j2 at hb
                        refine Wc.cond (t := v96_2) (e96) (fun hq131 => ?_) (fun hq131 => ?_)
                        · replace hb := (cT hq131).symm.trans hb
                          refine Wc.region (by decide +kernel) ?_
                          refine lex.pure (v := .pointer (some ((⟨g109, 0, none⟩ : Addr).add 1))) (pu_field (sz := 1) Try.underlying28 rfl Try.sizeOf3 (by decide) rfl e7) ?_
                          refine lex.sk (hC.setf (i := 5) (k := 1) (v := .int .i64 1) rfl Try.sizeOf3 rfl rfl rfl rfl) ?_
                          rintro w132 ⟨hC, hF⟩
                          refine lex.nil ?_
                          replace hC := hC.nil 43 (.sl (.int .i64))
                          exact hK114 _ _ ⟨1, ([] : List (List Int)), none, 0, 0, e2, e5, e6, e7, (show I64 1 from by unfold I64; omega), hC.sel [4, 5, 6, 0] (by decide), hb⟩
                        · replace hb := (cF hq131).symm.trans hb
                          refine Wc.seq fun K134 hK134 => ?_
                          refine Wc.region (by decide +kernel) ?_
                          refine lex.pure (v := .pointer (some ((⟨g30, 0, none⟩ : Addr).add 1))) (pu_field (sz := 1) Try.underlying24 rfl Try.sizeOf22 (by decide) rfl e3) ?_
                          refine lex.val (v := .slice A22 y19.2.1.length c24) (ld_fld (hC.bx (i := 1) rfl) Try.isAgg22 rfl rfl) ?_
                          refine lex.pure (v := .int .i64 (y19.2.1.length : Int)) (pu_len (A := A22) (n := y19.2.1.length) (m := c24) Try.underlying22 rfl) ?_
                          refine lex.pure (v := .bool (decide (0 < (y19.2.1.length : Int)))) (pu_gtr (k := .i64) (a := (y19.2.1.length : Int)) (b := 0) rfl rfl) ?_
                          refine lex.nil ?_
                          refine hK134 _ _ ?_
                          refine Wc.cond (t := (decide (0 < (y19.2.1.length : Int)))) (rfl) (fun hq135 => ?_) (fun hq135 => ?_)
                          · replace hb := (cT hq135).symm.trans hb
                            refine Wc.region (by decide +kernel) ?_
                            refine lex.pure (v := .slice Ap_0 p_0.length cp_0) (pu_move e0) ?_
                            refine lex.op (hC.lit (s := (.sl (.int .i64))) (vs := [.slice Ap_0 p_0.length cp_0]) (xs := [p_0]) Try.underlying26 Try.type43 rfl rfl (Nat.le_of_ble_eq_true rfl) rfl rfl (by simp [Value.cells, Sh.n]) rfl (show Elems _ _ (.sl (.int .i64)) ([.slice Ap_0 p_0.length cp_0] ++ ([])) ([p_0] : List (List Int)) from Elems.cons (hC.rd (i := 0) rfl) (Elems.nil _ _ _))) ?_
                            rintro _ w140 ⟨A136, c137, rfl, hl138, hc139, hC, hF, hN⟩
                            clear hF hN
                            refine lex.pure (v := .pointer (some ((⟨g109, 0, none⟩ : Addr).add 2))) (pu_field (sz := 1) Try.underlying28 rfl Try.sizeOf26 (by decide) rfl e7) ?_
                            refine lex.sk (hC.setf (i := 6) (k := 2) (v := .slice A136 ((([p_0] : List (List Int))).length) c137) rfl Try.sizeOf26 rfl rfl rfl rfl) ?_
                            rintro w142 ⟨hC, hF⟩
                            refine lex.nil ?_
                            exact hK114 _ _ ⟨0, ([p_0] : List (List Int)), A136, (([p_0] : List (List Int))).length, c137, e2, e5, e6, e7, (show I64 0 from by unfold I64; omega), hC.sel [4, 5, 6, 0] (by decide), hb⟩
                          · replace hb := (cF hq135).symm.trans hb
                            refine Wc.skip ?_
                            replace hC := hC.nil 43 (.sl (.int .i64))
                            exact hK114 _ _ ⟨0, ([] : List (List Int)), none, 0, 0, e2, e5, e6, e7, (show I64 0 from by unfold I64; omega), hC.sel [4, 5, 6, 0] (by decide), hb⟩
                    · clear hb hC
                      rintro E145 w144 ⟨bf111_1_1, kf111_2_1, Akf111_2_1, mkf111_2_1, ckf111_2_1, e2, e5, e6, e7, hrbf111_1_1, hC, hb⟩
                      unfold F.law34_GarsideSimple_j1 at hb
                      obtain ⟨rfl, hlkf111_2_1, hckf111_2_1⟩ := (hC.ow (i := 3) rfl).sl_len
                      refine Wc.seq fun K146 hK146 => ?_
                      refine Wc.region (by decide +kernel) ?_
                      refine lex.pure (v := .int .i64 y92.2.2.2) (pu_move e6) ?_
                      refine lex.pure (v := .bool (decide (y92.2.2.2 = 0))) (pu_eql (k := .i64) (a := y92.2.2.2) (b := 0) rfl rfl) ?_
                      refine lex.pure (v := .bool (decide (y92.2.2.2 = 0))) (pu_move rfl) ?_
                      rcases bS (decide (y92.2.2.2 = 0)) with hq147 | hq147
                      · replace hb := (cT hq147).symm.trans hb
                        refine lex.gval (want_t rfl rfl (show _ = Value.bool (decide (y92.2.2.2 = 0)) from rfl) hq147) (v := .agg #[.int .i64 y92.1, .int .i64 y92.2.1, .slice A96 y92.2.2.1.length c98]) (ld_blk (hC.bx (i := 0) rfl) Try.isAgg28 Try.sizeOf28 e5) ?_
                        refine lex.gval (want_t rfl rfl (show _ = Value.bool (decide (y92.2.2.2 = 0)) from rfl) hq147) (v := .agg #[.int .i64 (p_0.length : Int), .int .i64 bf111_1_1, .slice Akf111_2_1 kf111_2_1.length ckf111_2_1]) (ld_blk (hC.bx (i := 2) rfl) Try.isAgg28 Try.sizeOf28 e7) ?_
                        obtain ⟨y148, h149, hb⟩ := bd hb
                        refine lex.gcl (want_t rfl rfl (show _ = Value.bool (decide (y92.2.2.2 = 0)) from rfl) hq147) (⟨_, _, op_call (vs := [.agg #[.int .i64 y92.1, .int .i64 y92.2.1, .slice A96 y92.2.2.1.length c98], .agg #[.int .i64 (p_0.length : Int), .int .i64 bf111_1_1, .slice Akf111_2_1 kf111_2_1.length ckf111_2_1]]) Try.call23 rfl rfl rfl, law34_equal_ok n (hC.lentLt [.slice Akf111_2_1 kf111_2_1.length ckf111_2_1]) hr94 hr95 ((hC.rd (i := 1) rfl).lent [.slice Akf111_2_1 kf111_2_1.length ckf111_2_1]) (I64.len hlp_0 hcp_0) hrbf111_1_1 ((hC.ow (i := 3) rfl).lend (vs := [.slice Akf111_2_1 kf111_2_1.length ckf111_2_1]) (by simp)) h149⟩) ?_
                        rintro _ w150 ⟨rfl, hK⟩
                        replace hC := hC.mergeF hK rfl
                        clear hK
                        refine lex.pure (v := .bool y148) (pu_pickT (q := (decide (y92.2.2.2 = 0))) rfl hq147 rfl) ?_
                        refine lex.pure (v := .bool y148) (pu_assign rfl) ?_
                        refine lex.nil ?_
                        refine hK146 _ _ ?_
                        obtain rfl := Option.some.inj hb
                        refine Wc.ret ?_
                        refine hKR _ _ ?_
                        refine ⟨_, res1 Try.results8 (show RV _ _ _ (.tmp _) (.bool y148) from rfl), _, rfl, rfl, hC.sel [] (by decide)⟩
                      · replace hb := (cF hq147).symm.trans hb
                        refine lex.gskip (want_f rfl rfl (show _ = Value.bool (decide (y92.2.2.2 = 0)) from rfl) hq147) ?_
                        refine lex.gskip (want_f rfl rfl (show _ = Value.bool (decide (y92.2.2.2 = 0)) from rfl) hq147) ?_
                        refine lex.gskip (want_f rfl rfl (show _ = Value.bool (decide (y92.2.2.2 = 0)) from rfl) hq147) ?_
                        refine lex.pure (v := .bool false) (pu_pickF (q := (decide (y92.2.2.2 = 0))) rfl hq147 rfl) ?_
                        refine lex.pure (v := .bool false) (pu_assign rfl) ?_
                        refine lex.nil ?_
                        refine hK146 _ _ ?_
                        obtain rfl := Option.some.inj hb
                        refine Wc.ret ?_
                        refine hKR _ _ ?_
                        refine ⟨_, res1 Try.results8 (show RV _ _ _ (.tmp _) (.bool false) from rfl), _, rfl, rfl, hC.sel [] (by decide)⟩
end Go.Proofs.Ytkeaonceaaafcaa
