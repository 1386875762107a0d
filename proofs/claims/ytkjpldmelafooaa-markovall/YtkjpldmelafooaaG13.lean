/- The walks: part 13. -/
import Derived.Test.YtkjpldmelafooaaS
import Derived.Test.YtkjpldmelafooaaG3
import Derived.Test.YtkjpldmelafooaaG12
set_option linter.unusedVariables false
set_option linter.unusedSimpArgs false
namespace Go.Proofs.Ytkjpldmelafooaa
open Ev
set_option maxRecDepth 100000 in
set_option maxHeartbeats 4000000 in
theorem law36_MarkovAll_ok (n : Nat) {w : World} {O0 : List Nat} (hO : ∀ k ∈ O0, k < w.heap.size) {strands_0 : Int} (hstrands_0 : I64 strands_0) {Aword_1 : Option Addr} {mword_1 cword_1 : Nat} {word_1 : List Int} (hword_1 : Rep O0 w (.sl (.int .i64)) [.slice Aword_1 mword_1 cword_1] word_1) {r : Bool} (hb : F.law36_MarkovAll n strands_0 word_1 = some r) :
    Calls Try.prog 7 #[.int .i64 strands_0, .slice Aword_1 mword_1 cword_1] w fun e w' => ∃ v, e = .returned v ∧ v = .bool r ∧ Cx (fun _ => False) O0 w w' [] := by
  unfold F.law36_MarkovAll at hb
  have hC := Cx.start hO
  replace hC := hC.arg rfl hword_1
  clear hO
  obtain ⟨rfl, hlword_1, hcword_1⟩ := hword_1.sl_len
  refine calls_of_Wc Try.func7 rfl (by rw [Try.ntmps7]; exact Nat.le_of_ble_eq_true rfl) fun KR hKR => ?_
  refine Wc.seq fun K2 hK2 => ?_
  refine Wc.region (by decide +kernel) ?_
  refine lex.pure (v := .bool false) (pu_assign rfl) ?_
  refine lex.nil ?_
  refine hK2 _ _ ?_
  refine Wc.seq fun K3 hK3 => ?_
  refine Wc.seq fun K4 hK4 => ?_
  refine Wc.region (by decide +kernel) ?_
  obtain ⟨y5, h6, hb⟩ := bd hb
  refine lex.cl (⟨_, _, op_call (vs := []) Try.call11 rfl rfl rfl, law36_awake_ok n hC.lt  h6⟩) ?_
  rintro _ w7 ⟨rfl, hK⟩
  replace hC := hC.merge hK
  clear hK
  refine lex.pure (v := .bool (!y5)) (pu_not (q := y5) rfl) ?_
  refine lex.nil ?_
  refine hK4 _ _ ?_
  refine Wc.cond (t := (!y5)) (rfl) (fun hq8 => ?_) (fun hq8 => ?_)
  · replace hb := (cT hq8).symm.trans hb
    refine Wc.seq fun K9 hK9 => ?_
    refine Wc.region (by decide +kernel) ?_
    refine lex.pure (v := .bool false) (pu_assign rfl) ?_
    refine lex.nil ?_
    refine hK9 _ _ ?_
    obtain rfl := Option.some.inj hb
    refine Wc.ret ?_
    refine hKR _ _ ?_
    refine ⟨_, res1 Try.results7 (show RV _ _ _ (.tmp _) (.bool false) from rfl), _, rfl, rfl, hC.sel [] (by decide)⟩
  · replace hb := (cF hq8).symm.trans hb
    refine Wc.skip ?_
    refine hK3 _ _ ?_
    refine Wc.seq fun K10 hK10 => ?_
    refine Wc.seq fun K11 hK11 => ?_
    refine Wc.region (by decide +kernel) ?_
    refine lex.pure (v := .slice Aword_1 word_1.length cword_1) (pu_move rfl) ?_
    refine lex.pure (v := .int .i64 (word_1.length : Int)) (pu_len (A := Aword_1) (n := word_1.length) (m := cword_1) Try.underlying22 rfl) ?_
    refine lex.pure (v := .bool (decide (10 < (word_1.length : Int)))) (pu_gtr (k := .i64) (a := (word_1.length : Int)) (b := 10) rfl rfl) ?_
    refine lex.pure (v := .bool (decide (10 < (word_1.length : Int)))) (pu_move rfl) ?_
    rcases bS (decide (10 < (word_1.length : Int))) with hq12 | hq12
    · replace hb := (cT hq12).symm.trans hb
      refine lex.gskip (want_f rfl rfl (show _ = Value.bool (decide (10 < (word_1.length : Int))) from rfl) hq12) ?_
      refine lex.gskip (want_f rfl rfl (show _ = Value.bool (decide (10 < (word_1.length : Int))) from rfl) hq12) ?_
      refine lex.pure (v := .bool true) (pu_pickT (q := (decide (10 < (word_1.length : Int)))) rfl hq12 rfl) ?_
      refine lex.nil ?_
      refine hK11 _ _ ?_
      refine Wc.cond_true (rfl) ?_
      refine Wc.seq fun K13 hK13 => ?_
      refine Wc.region (by decide +kernel) ?_
      refine lex.pure (v := .bool true) (pu_assign rfl) ?_
      refine lex.nil ?_
      refine hK13 _ _ ?_
      obtain rfl := Option.some.inj hb
      refine Wc.ret ?_
      refine hKR _ _ ?_
      refine ⟨_, res1 Try.results7 (show RV _ _ _ (.tmp _) (.bool true) from rfl), _, rfl, rfl, hC.sel [] (by decide)⟩
    · replace hb := (cF hq12).symm.trans hb
      refine lex.gpure (want_t rfl rfl (show _ = Value.bool (decide (10 < (word_1.length : Int))) from rfl) hq12) (v := .int .i64 strands_0) (pu_move rfl) ?_
      refine lex.gpure (want_t rfl rfl (show _ = Value.bool (decide (10 < (word_1.length : Int))) from rfl) hq12) (v := .bool (decide (5 < strands_0))) (pu_gtr (k := .i64) (a := strands_0) (b := 5) rfl rfl) ?_
      refine lex.pure (v := .bool (decide (5 < strands_0))) (pu_pickF (q := (decide (10 < (word_1.length : Int)))) rfl hq12 rfl) ?_
      refine lex.nil ?_
      refine hK11 _ _ ?_
      refine Wc.cond (t := (decide (5 < strands_0))) (rfl) (fun hq14 => ?_) (fun hq14 => ?_)
      · replace hb := (cT hq14).symm.trans hb
        refine Wc.seq fun K15 hK15 => ?_
        refine Wc.region (by decide +kernel) ?_
        refine lex.pure (v := .bool true) (pu_assign rfl) ?_
        refine lex.nil ?_
        refine hK15 _ _ ?_
        obtain rfl := Option.some.inj hb
        refine Wc.ret ?_
        refine hKR _ _ ?_
        refine ⟨_, res1 Try.results7 (show RV _ _ _ (.tmp _) (.bool true) from rfl), _, rfl, rfl, hC.sel [] (by decide)⟩
      · replace hb := (cF hq14).symm.trans hb
        refine Wc.skip ?_
        refine hK10 _ _ ?_
        refine Wc.fresh fun E16 hE => ?_
        have e0 : E16 0 = .int .i64 strands_0 := (congrFun hE 0).trans rfl
        have e1 : E16 1 = .slice Aword_1 word_1.length cword_1 := (congrFun hE 1).trans rfl
        have e4 : E16 4 = .bool false := (congrFun hE 4).trans rfl
        clear hE
        refine Wc.seq fun K17 hK17 => ?_
        refine Wc.region (by decide +kernel) ?_
        refine lex.pure (v := .int .i64 strands_0) (pu_move e0) ?_
        refine lex.pure (v := .slice Aword_1 word_1.length cword_1) (pu_move e1) ?_
        refine lex.pure (v := .agg #[.int .i64 strands_0, .slice Aword_1 word_1.length cword_1]) (pu_builds (places := [(0, 1), (1, 1)]) (pv := [(0, .int .i64 strands_0), (1, .slice Aword_1 word_1.length cword_1)]) Try.type27 Try.underlying27 rfl (mp_cons Try.type3 (mp_cons Try.type22 mp_nil rfl rfl) rfl rfl) rfl (by simp [Instr.fill, Value.cells])) ?_
        obtain ⟨y18, h19, hb⟩ := bd hb
        refine lex.cl (⟨_, _, op_call (vs := [.agg #[.int .i64 strands_0, .slice Aword_1 word_1.length cword_1]]) Try.call20 rfl rfl rfl, markov_All_ok n hC.lt hstrands_0 (hC.rd (i := 0) rfl) h19⟩) ?_
        rintro _ w24 ⟨A20, m21, c22, rfl, hK⟩
        replace hC := hC.merge hK
        clear hK
        obtain ⟨rfl, hl25, hc26⟩ := (hC.ow (i := 0) rfl).sl_len
        refine lex.pure (v := .int .i64 strands_0) (pu_move e0) ?_
        refine lex.pure (v := .slice Aword_1 word_1.length cword_1) (pu_move e1) ?_
        refine lex.pure (v := .agg #[.int .i64 strands_0, .slice Aword_1 word_1.length cword_1]) (pu_builds (places := [(0, 1), (1, 1)]) (pv := [(0, .int .i64 strands_0), (1, .slice Aword_1 word_1.length cword_1)]) Try.type32 Try.underlying32 rfl (mp_cons Try.type3 (mp_cons Try.type22 mp_nil rfl rfl) rfl rfl) rfl (by simp [Instr.fill, Value.cells])) ?_
        obtain ⟨y27, h28, hb⟩ := bd hb
        refine lex.cl (⟨_, _, op_call (vs := [.agg #[.int .i64 strands_0, .slice Aword_1 word_1.length cword_1]]) Try.call21 rfl rfl rfl, ref36_All_ok n hC.lt hstrands_0 (hC.rd (i := 1) rfl) h28⟩) ?_
        rintro _ w33 ⟨A29, m30, c31, rfl, hK⟩
        replace hC := hC.merge hK
        clear hK
        obtain ⟨rfl, hl34, hc35⟩ := (hC.ow (i := 0) rfl).sl_len
        refine lex.pure (v := .slice A20 y18.length c22) (pu_assign rfl) ?_
        refine lex.pure (v := .slice A29 y27.length c31) (pu_assign rfl) ?_
        refine lex.nil ?_
        refine hK17 _ _ ?_
        refine Wc.fresh fun E36 hE => ?_
        have e4 : E36 4 = .bool false := (congrFun hE 4).trans e4
        have e5 : E36 5 = .slice A20 y18.length c22 := (congrFun hE 5).trans rfl
        have e6 : E36 6 = .slice A29 y27.length c31 := (congrFun hE 6).trans rfl
        clear hE
        refine Wc.seq fun K37 hK37 => ?_
        refine Wc.seq fun K38 hK38 => ?_
        refine Wc.region (by decide +kernel) ?_
        refine lex.pure (v := .slice A20 y18.length c22) (pu_move e5) ?_
        refine lex.pure (v := .int .i64 (y18.length : Int)) (pu_len (A := A20) (n := y18.length) (m := c22) Try.underlying44 rfl) ?_
        refine lex.pure (v := .slice A29 y27.length c31) (pu_move e6) ?_
        refine lex.pure (v := .int .i64 (y27.length : Int)) (pu_len (A := A29) (n := y27.length) (m := c31) Try.underlying49 rfl) ?_
        refine lex.pure (v := .bool (!(decide ((y18.length : Int) = (y27.length : Int))))) (pu_neq (k := .i64) (a := (y18.length : Int)) (b := (y27.length : Int)) rfl rfl) ?_
        refine lex.nil ?_
        refine hK38 _ _ ?_
        refine Wc.cond (t := (!(decide ((y18.length : Int) = (y27.length : Int))))) (rfl) (fun hq39 => ?_) (fun hq39 => ?_)
        · replace hb := (cT hq39).symm.trans hb
          refine Wc.seq fun K40 hK40 => ?_
          refine Wc.region (by decide +kernel) ?_
          refine lex.pure (v := .bool false) (pu_assign rfl) ?_
          refine lex.nil ?_
          refine hK40 _ _ ?_
          obtain rfl := Option.some.inj hb
          refine Wc.ret ?_
          refine hKR _ _ ?_
          refine ⟨_, res1 Try.results7 (show RV _ _ _ (.tmp _) (.bool false) from rfl), _, rfl, rfl, hC.sel [] (by decide)⟩
        · replace hb := (cF hq39).symm.trans hb
          refine Wc.skip ?_
          refine hK37 _ _ ?_
          refine Wc.seq fun K41 hK41 => ?_
          refine Wc.seq fun K42 hK42 => ?_
          refine Wc.region (by decide +kernel) ?_
          refine lex.pure (v := .int .i64 0) (pu_assign rfl) ?_
          refine lex.nil ?_
          refine hK42 _ _ ?_
          obtain ⟨o43, hl0, hb⟩ := bd hb
          refine Wc.cut (fun E wv => ∃ (v7_0 : Int), E 4 = .bool false ∧ I64 v7_0 ∧ Cx (fun _ => False) O0 w wv [] ∧ (some true) = some r) (fun K44 hK44 => ?_) ?_
          · refine Wc.block ?_
            refine Wc.loop (fun m E wv => ∃ (v7_0 : Int), E 4 = .bool false ∧ E 5 = .slice A20 y18.length c22 ∧ E 6 = .slice A29 y27.length c31 ∧ E 7 = .int .i64 v7_0 ∧ I64 v7_0 ∧ Cx (fun _ => False) O0 w wv [.own 28 (.pr (.int .i64) (.pr (.int .i64) (.int .i64))) (.slice A20 y18.length c22) y18, .own 33 (.pr (.int .i64) (.pr (.int .i64) (.int .i64))) (.slice A29 y27.length c31) y27] ∧ loopN m (F.law36_MarkovAll_b0 n y18 y27) v7_0 = some o43) n ⟨0, e4, e5, e6, rfl, (show I64 0 from by unfold I64; omega), hC.sel [1, 0] (by decide), hl0⟩ ?_
            have hbK0 := hb
            clear hb hC hl0
            rintro m46 E48 w47 ⟨v7_0, e4, e5, e6, e7, hrv7_0, hC, hl0⟩ K45 hK45
            obtain ⟨m46', o49, rfl, hb, hl0⟩ := loopN_some hl0
            unfold F.law36_MarkovAll_b0 at hb
            refine Wc.seq fun K50 hK50 => ?_
            refine Wc.seq fun K51 hK51 => ?_
            refine Wc.region (by decide +kernel) ?_
            refine lex.pure (v := .int .i64 v7_0) (pu_move e7) ?_
            refine lex.pure (v := .slice A20 y18.length c22) (pu_move e5) ?_
            refine lex.pure (v := .int .i64 (y18.length : Int)) (pu_len (A := A20) (n := y18.length) (m := c22) Try.underlying44 rfl) ?_
            refine lex.pure (v := .bool (decide (v7_0 < (y18.length : Int)))) (pu_lss (k := .i64) (a := v7_0) (b := (y18.length : Int)) rfl rfl) ?_
            refine lex.nil ?_
            refine hK51 _ _ ?_
            refine Wc.cond (t := (decide (v7_0 < (y18.length : Int)))) (rfl) (fun hq52 => ?_) (fun hq52 => ?_)
            · replace hb := (cT hq52).symm.trans hb
              refine Wc.skip ?_
              refine hK50 _ _ ?_
              refine Wc.seq fun K53 hK53 => ?_
              refine Wc.block ?_
              refine Wc.seq fun K54 hK54 => ?_
              refine Wc.regionMix [] (frm [] ([] : List Fact) ([] : List Fact)) (fun _ => rfl) mixed (by decide +kernel) (by decide +kernel) fun w56 hw55 => ?_
              replace hC := hC.step (Fr.of_drew hw55)
              have hM := Fr.refl (fun k => k ∈ blocks ([] : List Fact)) w56
              clear hw55
              have hS := hC
              refine mixE.pure (v := .slice A20 y18.length c22) (pu_move e5) ?_
              refine mixE.pure (v := .int .i64 v7_0) (pu_move e7) ?_
              obtain ⟨x57, h58, hb⟩ := bd hb
              obtain ⟨ad59, cs60, hA, ho63, hc61, hr62⟩ := hS.elo2 (i := 0) rfl (get_some h58).2 [] (by decide)
              subst hA
              refine mixE.pure (v := .pointer (some (ad59.add (v7_0.toNat * 3)))) (pu_index (a := v7_0) Try.underlying44 Try.sizeOf28 rfl rfl (get_some h58).1) ?_
              obtain ⟨k64, k65, rfl, hr66, hr67⟩ := hr62
              obtain ⟨rfl, hr66⟩ := hr66
              obtain ⟨k68, k69, rfl, hr70, hr71⟩ := hr67
              obtain ⟨rfl, hr70⟩ := hr70
              obtain ⟨rfl, hr71⟩ := hr71
              refine mixE.load hM (v := .agg #[.int .i64 x57.1, .int .i64 x57.2.1, .int .i64 x57.2.2]) (fun _ hF => ld_agg Try.isAgg28 Try.sizeOf28 rfl rfl (fun j u hu => hF.cell (hc61 j u hu) (off2 ho63))) ?_
              refine mixE.pure (v := .slice A29 y27.length c31) (pu_move e6) ?_
              refine mixE.pure (v := .int .i64 v7_0) (pu_move e7) ?_
              obtain ⟨x72, h73, hb⟩ := bd hb
              obtain ⟨ad74, cs75, hA, ho78, hc76, hr77⟩ := hS.elo2 (i := 1) rfl (get_some h73).2 [] (by decide)
              subst hA
              refine mixE.pure (v := .pointer (some (ad74.add (v7_0.toNat * 3)))) (pu_index (a := v7_0) Try.underlying49 Try.sizeOf33 rfl rfl (get_some h73).1) ?_
              obtain ⟨k79, k80, rfl, hr81, hr82⟩ := hr77
              obtain ⟨rfl, hr81⟩ := hr81
              obtain ⟨k83, k84, rfl, hr85, hr86⟩ := hr82
              obtain ⟨rfl, hr85⟩ := hr85
              obtain ⟨rfl, hr86⟩ := hr86
              refine mixE.load hM (v := .agg #[.int .i64 x72.1, .int .i64 x72.2.1, .int .i64 x72.2.2]) (fun _ hF => ld_agg Try.isAgg33 Try.sizeOf33 rfl rfl (fun j u hu => hF.cell (hc76 j u hu) (off2 ho78))) ?_
              refine mixE.pure (v := .bool (!(decide (x57.1 = x72.1) && (decide (x57.2.1 = x72.2.1) && (decide (x57.2.2 = x72.2.2) && true))))) (pu_neqs Try.underlying33 (by kernel_rfl) (by kernel_rfl) rfl rfl (eqF_cons (by decide) Try.underlying3 Try.isAgg3 rfl rfl (eqF_cons (by decide) Try.underlying3 Try.isAgg3 rfl rfl (eqF_cons (by decide) Try.underlying3 Try.isAgg3 rfl rfl eqF_nil)))) ?_
              refine mixE.nil ?_
              clear hS hM
              refine hK54 _ _ ?_
              refine Wc.cond (t := (!(decide (x57.1 = x72.1) && (decide (x57.2.1 = x72.2.1) && (decide (x57.2.2 = x72.2.2) && true))))) (rfl) (fun hq87 => ?_) (fun hq87 => ?_)
              · replace hb := (cT hq87).symm.trans hb
                refine Wc.seq fun K88 hK88 => ?_
                refine Wc.region (by decide +kernel) ?_
                refine lex.pure (v := .bool false) (pu_assign rfl) ?_
                refine lex.nil ?_
                refine hK88 _ _ ?_
                obtain rfl := Option.some.inj hb
                obtain rfl := (lX hl0).symm
                replace hb := hbK0
                obtain rfl := Option.some.inj hb
                refine Wc.ret ?_
                refine hKR _ _ ?_
                refine ⟨_, res1 Try.results7 (show RV _ _ _ (.tmp _) (.bool false) from rfl), _, rfl, rfl, hC.sel [] (by decide)⟩
              · replace hb := (cF hq87).symm.trans hb
                refine Wc.skip ?_
                refine hK53 _ _ ?_
                refine Wc.region (by decide +kernel) ?_
                refine lex.pure (v := .int .i64 v7_0) (pu_move e7) ?_
                obtain ⟨z89, h90, hb⟩ := bd hb
                refine lex.pure (v := .int .i64 z89) (pu_addc (a := v7_0) (b := 1) rfl rfl h90) ?_
                refine lex.pure (v := .int .i64 z89) (pu_assign rfl) ?_
                refine lex.nil ?_
                obtain rfl := Option.some.inj hb
                exact hK45 m46' _ _ (Nat.lt_succ_self _) ⟨z89, e4, e5, e6, rfl, (chk_rng h90), hC.sel [0, 1] (by decide), lN hl0⟩
            · replace hb := (cF hq52).symm.trans hb
              refine Wc.exit rfl ?_
              obtain rfl := Option.some.inj hb
              obtain rfl := (lX hl0).symm
              exact hK44 _ _ ⟨v7_0, e4, hrv7_0, hC.sel [] (by decide), hbK0⟩
          · clear hb hC hl0
            rintro E92 w91 ⟨v7_0, e4, hrv7_0, hC, hb⟩
            refine hK41 _ _ ?_
            refine Wc.seq fun K93 hK93 => ?_
            refine Wc.region (by decide +kernel) ?_
            refine lex.pure (v := .bool true) (pu_assign rfl) ?_
            refine lex.nil ?_
            refine hK93 _ _ ?_
            obtain rfl := Option.some.inj hb
            refine Wc.ret ?_
            refine hKR _ _ ?_
            refine ⟨_, res1 Try.results7 (show RV _ _ _ (.tmp _) (.bool true) from rfl), _, rfl, rfl, hC.sel [] (by decide)⟩
end Go.Proofs.Ytkjpldmelafooaa
