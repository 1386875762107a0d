/- The walks: part 23. -/
import Derived.Test.YtkeaonceaaafcaaS
import Derived.Test.YtkeaonceaaafcaaG0
set_option linter.unusedVariables false
set_option linter.unusedSimpArgs false
namespace Go.Proofs.Ytkeaonceaaafcaa
open Ev
set_option maxRecDepth 100000 in
set_option maxHeartbeats 4000000 in
theorem garside_letters_ok (n : Nat) {w : World} {O0 : List Nat} (hO : ∀ k ∈ O0, k < w.heap.size) {Ap_0 : Option Addr} {mp_0 cp_0 : Nat} {p_0 : List Int} (hp_0 : Rep O0 w (.sl (.int .i64)) [.slice Ap_0 mp_0 cp_0] p_0) {r : (List Int)} (hb : F.garside_letters n p_0 = some r) :
    Calls Try.prog 55 #[.slice Ap_0 mp_0 cp_0] w fun e w' => ∃ v, e = .returned v ∧ ∃ (A0 : Option Addr) (m0 c0 : Nat), v = .slice A0 m0 c0 ∧ Cx (fun _ => False) O0 w w' [.own 3 (.int .i64) (.slice A0 m0 c0) r] := by
  unfold F.garside_letters at hb
  have hC := Cx.start hO
  replace hC := hC.arg rfl hp_0
  clear hO
  obtain ⟨rfl, hlp_0, hcp_0⟩ := hp_0.sl_len
  refine calls_of_Wc Try.func55 rfl (by rw [Try.ntmps55]; exact Nat.le_of_ble_eq_true rfl) fun KR hKR => ?_
  refine Wc.seq fun K2 hK2 => ?_
  refine Wc.region (by decide +kernel) ?_
  refine lex.pure (v := .slice none 0 0) (pu_assign rfl) ?_
  refine lex.nil ?_
  refine hK2 _ _ ?_
  refine Wc.seq fun K3 hK3 => ?_
  refine Wc.region (by decide +kernel) ?_
  refine lex.pure (v := .slice Ap_0 p_0.length cp_0) (pu_move rfl) ?_
  obtain ⟨y4, h5, hb⟩ := bd hb
  refine lex.cl (⟨_, _, op_call (vs := [.slice Ap_0 p_0.length cp_0]) Try.call42 rfl rfl rfl, slices_Clone_Perm_int_ok n hC.lt (hC.rd (i := 0) rfl) h5⟩) ?_
  rintro _ w10 ⟨A6, m7, c8, rfl, hK⟩
  replace hC := hC.merge hK
  clear hK
  obtain ⟨rfl, hl11, hc12⟩ := (hC.ow (i := 0) rfl).sl_len
  refine lex.pure (v := .slice A6 y4.length c8) (pu_assign rfl) ?_
  refine lex.nil ?_
  refine hK3 _ _ ?_
  refine Wc.seq fun K13 hK13 => ?_
  refine Wc.region (by decide +kernel) ?_
  refine lex.pure (v := .slice none 0 0) (pu_assign rfl) ?_
  refine lex.nil ?_
  refine hK13 _ _ ?_
  refine Wc.seq fun K14 hK14 => ?_
  refine Wc.seq fun K15 hK15 => ?_
  refine Wc.region (by decide +kernel) ?_
  refine lex.pure (v := .int .i64 1) (pu_assign rfl) ?_
  refine lex.nil ?_
  refine hK15 _ _ ?_
  replace hC := hC.nil 3 (.int .i64)
  obtain ⟨o17, hl0, hb⟩ := bd hb
  refine Wc.cut (fun E wv => ∃ (l3_0 : List Int) (v4_0 : Int) (qf9_0 : List Int) (Al3_0 : Option Addr) (ml3_0 cl3_0 : Nat), E 2 = .slice none 0 0 ∧ E 3 = .slice Al3_0 ml3_0 cl3_0 ∧ I64 v4_0 ∧ Cx (fun _ => False) O0 w wv [.own 3 (.int .i64) (.slice Al3_0 ml3_0 cl3_0) l3_0] ∧ (some l3_0 : Option ((List Int))) = some r) (fun K18 hK18 => ?_) ?_
  · refine Wc.block ?_
    refine Wc.loop (fun m E wv => ∃ (l3_0 : List Int) (v4_0 : Int) (qf9_0 : List Int) (Al3_0 : Option Addr) (ml3_0 cl3_0 : Nat), E 0 = .slice A6 y4.length c8 ∧ E 2 = .slice none 0 0 ∧ E 3 = .slice Al3_0 ml3_0 cl3_0 ∧ E 4 = .int .i64 v4_0 ∧ I64 v4_0 ∧ Cx (fun _ => False) O0 w wv [.own 3 (.int .i64) (.slice A6 y4.length c8) qf9_0, .own 3 (.int .i64) (.slice Al3_0 ml3_0 cl3_0) l3_0] ∧ loopN m (F.garside_letters_b0 n y4) (l3_0, v4_0, qf9_0) = some o17) n ⟨([] : List Int), 1, y4, none, 0, 0, rfl, rfl, rfl, rfl, (show I64 1 from by unfold I64; omega), hC.sel [1, 0] (by decide), hl0⟩ ?_
    have hbK0 := hb
    clear hb hC hl0
    rintro m20 E22 w21 ⟨l3_0, v4_0, qf9_0, Al3_0, ml3_0, cl3_0, e0, e2, e3, e4, hrv4_0, hC, hl0⟩ K19 hK19
    obtain ⟨m20', o23, rfl, hb, hl0⟩ := loopN_some hl0
    unfold F.garside_letters_b0 at hb
    obtain ⟨rfl, hll3_0, hcl3_0⟩ := (hC.ow (i := 1) rfl).sl_len
    refine Wc.seq fun K24 hK24 => ?_
    refine Wc.seq fun K25 hK25 => ?_
    refine Wc.region (by decide +kernel) ?_
    refine lex.pure (v := .int .i64 v4_0) (pu_move e4) ?_
    refine lex.pure (v := .slice A6 y4.length c8) (pu_move e0) ?_
    refine lex.pure (v := .int .i64 (y4.length : Int)) (pu_len (A := A6) (n := y4.length) (m := c8) Try.underlying43 rfl) ?_
    refine lex.pure (v := .bool (decide (v4_0 < (y4.length : Int)))) (pu_lss (k := .i64) (a := v4_0) (b := (y4.length : Int)) rfl rfl) ?_
    refine lex.nil ?_
    refine hK25 _ _ ?_
    refine Wc.cond (t := (decide (v4_0 < (y4.length : Int)))) (rfl) (fun hq26 => ?_) (fun hq26 => ?_)
    · replace hb := (cT hq26).symm.trans hb
      refine Wc.skip ?_
      refine hK24 _ _ ?_
      refine Wc.block ?_
      refine Wc.seq fun K27 hK27 => ?_
      refine Wc.seq fun K28 hK28 => ?_
      refine Wc.regionMix [] (frm [] ([] : List Fact) ([] : List Fact)) (fun _ => rfl) mixed (by decide +kernel) (by decide +kernel) fun w30 hw29 => ?_
      replace hC := hC.step (Fr.of_drew hw29)
      have hM := Fr.refl (fun k => k ∈ blocks ([] : List Fact)) w30
      clear hw29
      have hS := hC
      refine mixE.pure (v := .slice A6 y4.length c8) (pu_move e0) ?_
      refine mixE.pure (v := .int .i64 v4_0) (pu_move e4) ?_
      obtain ⟨z31, h32, hb⟩ := bd hb
      refine mixE.pure (v := .int .i64 z31) (pu_subc (a := v4_0) (b := 1) rfl rfl h32) ?_
      obtain ⟨x33, h34, hb⟩ := bd hb
      obtain ⟨ad35, cs36, hA, ho39, hc37, hr38⟩ := hS.elo2 (i := 0) rfl (get_some h34).2 [] (by decide)
      subst hA
      refine mixE.pure (v := .pointer (some (ad35.add (z31.toNat * 1)))) (pu_index (a := z31) Try.underlying43 Try.sizeOf3 rfl rfl (by rw [(hC.ow (i := 0) rfl).sl_len.1]; exact (get_some h34).1)) ?_
      obtain ⟨rfl, hr38'⟩ := hr38
      refine mixE.load hM (v := .int .i64 x33) (fun _ hF => ld_one Try.isAgg3 rfl (hF.cell (hc37 0 _ rfl) (off1 ho39))) ?_
      refine mixE.pure (v := .slice (some ad35) y4.length c8) (pu_move e0) ?_
      refine mixE.pure (v := .int .i64 v4_0) (pu_move e4) ?_
      obtain ⟨x40, h41, hb⟩ := bd hb
      obtain ⟨ad42, cs43, hA, ho46, hc44, hr45⟩ := hS.elo2 (i := 0) rfl (get_some h41).2 [] (by decide)
      obtain rfl := Option.some.inj hA
      refine mixE.pure (v := .pointer (some (ad35.add (v4_0.toNat * 1)))) (pu_index (a := v4_0) Try.underlying43 Try.sizeOf3 rfl rfl (by rw [(hC.ow (i := 0) rfl).sl_len.1]; exact (get_some h41).1)) ?_
      obtain ⟨rfl, hr45'⟩ := hr45
      refine mixE.load hM (v := .int .i64 x40) (fun _ hF => ld_one Try.isAgg3 rfl (hF.cell (hc44 0 _ rfl) (off1 ho46))) ?_
      refine mixE.pure (v := .bool (decide (x33 < x40))) (pu_lss (k := .i64) (a := x33) (b := x40) rfl rfl) ?_
      refine mixE.nil ?_
      clear hS hM
      refine hK28 _ _ ?_
      refine Wc.fresh fun E47 hE => ?_
      have e0 : E47 0 = .slice (some ad35) y4.length c8 := (congrFun hE 0).trans e0
      have e2 : E47 2 = .slice none 0 0 := (congrFun hE 2).trans e2
      have e3 : E47 3 = .slice Al3_0 l3_0.length cl3_0 := (congrFun hE 3).trans e3
      have e4 : E47 4 = .int .i64 v4_0 := (congrFun hE 4).trans e4
      have e10 : E47 10 = .bool (decide (v4_0 < (y4.length : Int))) := (congrFun hE 10).trans rfl
      have e20 : E47 20 = .bool (decide (x33 < x40)) := (congrFun hE 20).trans rfl
      clear hE
      refine Wc.cond (t := (decide (x33 < x40))) (e20) (fun hq48 => ?_) (fun hq48 => ?_)
      · replace hb := (cT hq48).symm.trans hb
        refine Wc.seq fun K49 hK49 => ?_
        refine Wc.region (by decide +kernel) ?_
        refine lex.pure (v := .int .i64 v4_0) (pu_move e4) ?_
        obtain ⟨z50, h51, hb⟩ := bd hb
        refine lex.pure (v := .int .i64 z50) (pu_addc (a := v4_0) (b := 1) rfl rfl h51) ?_
        refine lex.pure (v := .int .i64 z50) (pu_assign rfl) ?_
        refine lex.nil ?_
        refine hK49 _ _ ?_
        refine Wc.exit rfl ?_
        obtain rfl := Option.some.inj hb
        exact hK19 m20' _ _ (Nat.lt_succ_self _) ⟨l3_0, z50, qf9_0, Al3_0, l3_0.length, cl3_0, e0, e2, e3, rfl, (chk_rng h51), hC.sel [0, 1] (by decide), lN hl0⟩
      · replace hb := (cF hq48).symm.trans hb
        refine Wc.skip ?_
        refine hK27 _ _ ?_
        refine Wc.seq fun K52 hK52 => ?_
        refine Wc.regionMix [] (frm [] ([] : List Fact) [.own 3 (.int .i64) (.slice (some ad35) y4.length c8) qf9_0]) (fun _ => rfl) mixed (by decide +kernel) (by decide +kernel) fun w54 hw53 => ?_
        replace hC := hC.step (Fr.of_drew hw53)
        have hM := Fr.refl (fun k => k ∈ blocks ([] : List Fact)) w54
        clear hw53
        have hS := hC
        have hD : Fr (fun k => k ∈ blocks (([] : List Fact) ++ [.own 3 (.int .i64) (.slice (some ad35) y4.length c8) qf9_0])) w54 w54 := hM.wide
        have hUf9 : Beside (([] : List Fact) ++ [.own 3 (.int .i64) (.slice (some ad35) y4.length c8) qf9_0]) w54 (.slice (some ad35) y4.length c8) := Beside.of (i := 0) rfl
        refine mixE.pure (v := .slice (some ad35) y4.length c8) (pu_move e0) ?_
        refine mixE.pure (v := .int .i64 v4_0) (pu_move e4) ?_
        obtain ⟨z55, h56, hb⟩ := bd hb
        refine mixE.pure (v := .int .i64 z55) (pu_subc (a := v4_0) (b := 1) rfl rfl h56) ?_
        refine mixE.pure (v := .slice (some ad35) y4.length c8) (pu_move e0) ?_
        refine mixE.pure (v := .int .i64 v4_0) (pu_move e4) ?_
        refine mixE.pure (v := .slice (some ad35) y4.length c8) (pu_move e0) ?_
        refine mixE.pure (v := .int .i64 v4_0) (pu_move e4) ?_
        obtain ⟨x57, h58, hb⟩ := bd hb
        obtain ⟨ad59, cs60, hA, ho63, hc61, hr62⟩ := hS.elo2 (i := 0) rfl (get_some h58).2 [] (by decide)
        obtain rfl := Option.some.inj hA
        refine mixE.pure (v := .pointer (some (ad35.add (v4_0.toNat * 1)))) (pu_index (a := v4_0) Try.underlying43 Try.sizeOf3 rfl rfl (by rw [(hC.ow (i := 0) rfl).sl_len.1]; exact (get_some h58).1)) ?_
        obtain ⟨rfl, hr62'⟩ := hr62
        refine mixE.load hM (v := .int .i64 x57) (fun _ hF => ld_one Try.isAgg3 rfl (hF.cell (hc61 0 _ rfl) (off1 ho63))) ?_
        refine mixE.pure (v := .slice (some ad35) y4.length c8) (pu_move e0) ?_
        refine mixE.pure (v := .int .i64 v4_0) (pu_move e4) ?_
        obtain ⟨z64, h65, hb⟩ := bd hb
        refine mixE.pure (v := .int .i64 z64) (pu_subc (a := v4_0) (b := 1) rfl rfl h65) ?_
        obtain ⟨x66, h67, hb⟩ := bd hb
        obtain ⟨ad68, cs69, hA, ho72, hc70, hr71⟩ := hS.elo2 (i := 0) rfl (get_some h67).2 [] (by decide)
        obtain rfl := Option.some.inj hA
        refine mixE.pure (v := .pointer (some (ad35.add (z64.toNat * 1)))) (pu_index (a := z64) Try.underlying43 Try.sizeOf3 rfl rfl (by rw [(hC.ow (i := 0) rfl).sl_len.1]; exact (get_some h67).1)) ?_
        obtain ⟨rfl, hr71'⟩ := hr71
        refine mixE.load hM (v := .int .i64 x66) (fun _ hF => ld_one Try.isAgg3 rfl (hF.cell (hc70 0 _ rfl) (off1 ho72))) ?_
        obtain ⟨x73, h74, hb⟩ := bd hb
        obtain ⟨ad75, cs76, hA, ho79, hc77, hr78⟩ := hS.elo2 (i := 0) rfl (get_some h74).2 [] (by decide)
        obtain rfl := Option.some.inj hA
        refine mixE.pure (v := .pointer (some (ad35.add (z55.toNat * 1)))) (pu_index (a := z55) Try.underlying43 Try.sizeOf3 rfl rfl (by rw [(hC.ow (i := 0) rfl).sl_len.1]; exact (get_some h74).1)) ?_
        refine mixE.sk hD (hC.put (i := 0) rfl rfl Try.sizeOf3 (k := z55.toNat) (a := x57) (by have := (get_some h74).1; simp at this ⊢; omega) (⟨rfl, I64.wr (wrap_I64 hr62')⟩) rfl rfl rfl) ?_
        rintro w80 ⟨hC, hF⟩
        replace hD := hD.beside hUf9 hF
        clear hF
        refine ⟨hD, ?_⟩
        obtain ⟨x81, h82, hb⟩ := bd hb
        obtain ⟨ad83, cs84, hA, hc85, hr86⟩ := hC.elo (i := 0) rfl (get_some h82).2
        obtain rfl := Option.some.inj hA
        refine mixE.pure (v := .pointer (some (ad35.add (v4_0.toNat * 1)))) (pu_index (a := v4_0) Try.underlying43 Try.sizeOf3 rfl rfl (by rw [(hC.ow (i := 0) rfl).sl_len.1]; exact (get_some h82).1)) ?_
        refine mixE.sk hD (hC.put (i := 0) rfl rfl Try.sizeOf3 (k := v4_0.toNat) (a := x66) (by have := (get_some h82).1; simp at this ⊢; omega) (⟨rfl, I64.wr (wrap_I64 hr71')⟩) rfl rfl rfl) ?_
        rintro w87 ⟨hC, hF⟩
        replace hD := hD.beside hUf9 hF
        clear hF
        refine ⟨hD, ?_⟩
        refine mixE.nil ?_
        clear hS hM
        clear hD
        refine hK52 _ _ ?_
        refine Wc.fresh fun E88 hE => ?_
        have e0 : E88 0 = .slice (some ad35) y4.length c8 := (congrFun hE 0).trans e0
        have e2 : E88 2 = .slice none 0 0 := (congrFun hE 2).trans e2
        have e3 : E88 3 = .slice Al3_0 l3_0.length cl3_0 := (congrFun hE 3).trans e3
        have e4 : E88 4 = .int .i64 v4_0 := (congrFun hE 4).trans e4
        have e10 : E88 10 = .bool (decide (v4_0 < (y4.length : Int))) := (congrFun hE 10).trans e10
        have e20 : E88 20 = .bool (decide (x33 < x40)) := (congrFun hE 20).trans e20
        clear hE
        refine Wc.seq fun K89 hK89 => ?_
        refine Wc.region (by decide +kernel) ?_
        refine lex.pure (v := .slice Al3_0 l3_0.length cl3_0) (pu_move e3) ?_
        refine lex.pure (v := .int .i64 v4_0) (pu_move e4) ?_
        refine lex.op (hC.lit (s := (.int .i64)) (vs := [.int .i64 v4_0]) (xs := [v4_0]) Try.underlying22 Try.type3 rfl rfl (Nat.le_of_ble_eq_true rfl) rfl rfl (by simp [Value.cells, Sh.n]) rfl (show Elems _ _ (.int .i64) ([.int .i64 v4_0] ++ ([])) ([v4_0] : List Int) from Elems.cons (⟨rfl, I64.wr hrv4_0⟩) (Elems.nil _ _ _))) ?_
        rintro _ w94 ⟨A90, c91, rfl, hl92, hc93, hC, hF, hN⟩
        clear hF hN
        obtain ⟨u96, h97, hb⟩ := bd hb
        refine lex.op (hC.app (i := 2) (s := (.int .i64)) (xs := l3_0) (ys := ([v4_0] : List Int)) (m := ((([v4_0] : List Int)).length)) rfl Try.underlying22 Try.underlying22 Try.type3 rfl rfl rfl (hC.srco (i := 0) rfl) rfl rfl (by have := lim_some h97; simp at this ⊢ <;> omega) (by decide)) ?_
        rintro _ w102 ⟨A98, c99, rfl, hl100, hc101, hC, hF, hN⟩
        clear hF hN
        refine lex.pure (v := .slice A98 ((l3_0 ++ ([v4_0] : List Int)).length) c99) (pu_assign rfl) ?_
        refine lex.nil ?_
        refine hK89 _ _ ?_
        refine Wc.region (by decide +kernel) ?_
        refine lex.pure (v := .int .i64 v4_0) (pu_move e4) ?_
        obtain ⟨z103, h104, hb⟩ := bd hb
        refine lex.pure (v := .int .i64 z103) (pu_subc (a := v4_0) (b := 1) rfl rfl h104) ?_
        refine lex.pure (v := .int .i64 (max 1 z103)) (pu_max (a := 1) (b := z103) rfl rfl) ?_
        refine lex.pure (v := .int .i64 (max 1 z103)) (pu_assign rfl) ?_
        refine lex.nil ?_
        obtain rfl := Option.some.inj hb
        exact hK19 m20' _ _ (Nat.lt_succ_self _) ⟨(l3_0 ++ ([v4_0] : List Int)), (max 1 z103), ((qf9_0.set z55.toNat x57).set v4_0.toNat x66), A98, (l3_0 ++ ([v4_0] : List Int)).length, c99, e0, e2, rfl, rfl, (I64.max (show I64 1 from by unfold I64; omega) (chk_rng h104)), hC.sel [1, 2] (by decide), lN hl0⟩
    · replace hb := (cF hq26).symm.trans hb
      refine Wc.exit rfl ?_
      obtain rfl := Option.some.inj hb
      obtain rfl := (lX hl0).symm
      exact hK18 _ _ ⟨l3_0, v4_0, qf9_0, Al3_0, l3_0.length, cl3_0, e2, e3, hrv4_0, hC.sel [1] (by decide), hbK0⟩
  · clear hb hC hl0
    rintro E106 w105 ⟨l3_0, v4_0, qf9_0, Al3_0, ml3_0, cl3_0, e2, e3, hrv4_0, hC, hb⟩
    obtain ⟨rfl, hll3_0, hcl3_0⟩ := (hC.ow (i := 0) rfl).sl_len
    refine hK14 _ _ ?_
    refine Wc.seq fun K107 hK107 => ?_
    refine Wc.region (by decide +kernel) ?_
    refine lex.pure (v := .slice Al3_0 l3_0.length cl3_0) (pu_move e3) ?_
    refine lex.pure (v := .slice Al3_0 l3_0.length cl3_0) (pu_assign rfl) ?_
    refine lex.nil ?_
    refine hK107 _ _ ?_
    obtain rfl := Option.some.inj hb
    refine Wc.ret ?_
    refine hKR _ _ ?_
    refine ⟨_, res1 Try.results55 (show RV _ _ _ (.tmp _) (.slice Al3_0 l3_0.length cl3_0) from rfl), _, rfl, Al3_0, l3_0.length, cl3_0, rfl, hC.sel [0] (by decide)⟩
end Go.Proofs.Ytkeaonceaaafcaa
