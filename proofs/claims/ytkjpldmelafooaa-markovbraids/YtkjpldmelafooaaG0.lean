/- The walks: part 0. -/
import Derived.Test.YtkjpldmelafooaaS
set_option linter.unusedVariables false
set_option linter.unusedSimpArgs false
namespace Go.Proofs.Ytkjpldmelafooaa
open Ev
set_option maxRecDepth 100000 in
set_option maxHeartbeats 4000000 in
theorem braid_Valid_ok (n : Nat) {w : World} {O0 : List Nat} (hO : ∀ k ∈ O0, k < w.heap.size) {b_0_0 : Int} (hb_0_0 : I64 b_0_0) {Ab_0_1 : Option Addr} {mb_0_1 cb_0_1 : Nat} {b_0_1 : List Int} (hb_0_1 : Rep O0 w (.sl (.int .i64)) [.slice Ab_0_1 mb_0_1 cb_0_1] b_0_1) {r : Bool} (hb : F.braid_Valid n b_0_0 b_0_1 = some r) :
    Calls Try.prog 15 #[.agg #[.int .i64 b_0_0, .slice Ab_0_1 mb_0_1 cb_0_1]] w fun e w' => ∃ v, e = .returned v ∧ v = .bool r ∧ Cx (fun _ => False) O0 w w' [] := by
  unfold F.braid_Valid at hb
  have hC := Cx.start hO
  replace hC := hC.arg rfl hb_0_1
  clear hO
  obtain ⟨rfl, hlb_0_1, hcb_0_1⟩ := hb_0_1.sl_len
  refine calls_of_Wc Try.func15 rfl (by rw [Try.ntmps15]; exact Nat.le_of_ble_eq_true rfl) fun KR hKR => ?_
  refine Wc.seq fun K2 hK2 => ?_
  refine Wc.region (by decide +kernel) ?_
  refine lex.op (hC.box (cs := [.int .i64 b_0_0, .slice Ab_0_1 b_0_1.length cb_0_1]) rfl rfl) ?_
  rintro _ w4 ⟨g3, rfl, hC, hF, hG⟩
  clear hG
  refine lex.pure (v := .bool false) (pu_assign rfl) ?_
  refine lex.nil ?_
  refine hK2 _ _ ?_
  refine Wc.seq fun K6 hK6 => ?_
  refine Wc.seq fun K7 hK7 => ?_
  refine Wc.region (by decide +kernel) ?_
  refine lex.pure (v := .pointer (some ((⟨g3, 0, none⟩ : Addr).add 0))) (pu_field (sz := 1) Try.underlying27 rfl Try.sizeOf3 (by decide) rfl rfl) ?_
  refine lex.val (v := .int .i64 b_0_0) (ld_fld (hC.bx (i := 0) rfl) Try.isAgg3 rfl rfl) ?_
  refine lex.pure (v := .bool (decide (b_0_0 < 1))) (pu_lss (k := .i64) (a := b_0_0) (b := 1) rfl rfl) ?_
  refine lex.pure (v := .bool (decide (b_0_0 < 1))) (pu_move rfl) ?_
  rcases bS (decide (b_0_0 < 1)) with hq8 | hq8
  · replace hb := (cT hq8).symm.trans hb
    refine lex.gskip (want_f rfl rfl (show _ = Value.bool (decide (b_0_0 < 1)) from rfl) hq8) ?_
    refine lex.gskip (want_f rfl rfl (show _ = Value.bool (decide (b_0_0 < 1)) from rfl) hq8) ?_
    refine lex.gskip (want_f rfl rfl (show _ = Value.bool (decide (b_0_0 < 1)) from rfl) hq8) ?_
    refine lex.pure (v := .bool true) (pu_pickT (q := (decide (b_0_0 < 1))) rfl hq8 rfl) ?_
    refine lex.pure (v := .bool true) (pu_move rfl) ?_
    refine lex.gskip (want_f rfl rfl (show _ = Value.bool true from rfl) rfl) ?_
    refine lex.gskip (want_f rfl rfl (show _ = Value.bool true from rfl) rfl) ?_
    refine lex.gskip (want_f rfl rfl (show _ = Value.bool true from rfl) rfl) ?_
    refine lex.gskip (want_f rfl rfl (show _ = Value.bool true from rfl) rfl) ?_
    refine lex.pure (v := .bool true) (pu_pickT (q := true) rfl rfl rfl) ?_
    refine lex.nil ?_
    refine hK7 _ _ ?_
    refine Wc.cond_true (rfl) ?_
    refine Wc.seq fun K9 hK9 => ?_
    refine Wc.region (by decide +kernel) ?_
    refine lex.pure (v := .bool false) (pu_assign rfl) ?_
    refine lex.nil ?_
    refine hK9 _ _ ?_
    obtain rfl := Option.some.inj hb
    refine Wc.ret ?_
    refine hKR _ _ ?_
    refine ⟨_, res1 Try.results15 (show RV _ _ _ (.tmp _) (.bool false) from rfl), _, rfl, rfl, hC.sel [] (by decide)⟩
  · replace hb := (cF hq8).symm.trans hb
    refine lex.gpure (want_t rfl rfl (show _ = Value.bool (decide (b_0_0 < 1)) from rfl) hq8) (v := .pointer (some ((⟨g3, 0, none⟩ : Addr).add 0))) (pu_field (sz := 1) Try.underlying27 rfl Try.sizeOf3 (by decide) rfl rfl) ?_
    refine lex.gval (want_t rfl rfl (show _ = Value.bool (decide (b_0_0 < 1)) from rfl) hq8) (v := .int .i64 b_0_0) (ld_fld (hC.bx (i := 0) rfl) Try.isAgg3 rfl rfl) ?_
    refine lex.gpure (want_t rfl rfl (show _ = Value.bool (decide (b_0_0 < 1)) from rfl) hq8) (v := .bool (decide (10 < b_0_0))) (pu_gtr (k := .i64) (a := b_0_0) (b := 10) rfl rfl) ?_
    refine lex.pure (v := .bool (decide (10 < b_0_0))) (pu_pickF (q := (decide (b_0_0 < 1))) rfl hq8 rfl) ?_
    refine lex.pure (v := .bool (decide (10 < b_0_0))) (pu_move rfl) ?_
    rcases bS (decide (10 < b_0_0)) with hq10 | hq10
    · replace hb := (cT hq10).symm.trans hb
      refine lex.gskip (want_f rfl rfl (show _ = Value.bool (decide (10 < b_0_0)) from rfl) hq10) ?_
      refine lex.gskip (want_f rfl rfl (show _ = Value.bool (decide (10 < b_0_0)) from rfl) hq10) ?_
      refine lex.gskip (want_f rfl rfl (show _ = Value.bool (decide (10 < b_0_0)) from rfl) hq10) ?_
      refine lex.gskip (want_f rfl rfl (show _ = Value.bool (decide (10 < b_0_0)) from rfl) hq10) ?_
      refine lex.pure (v := .bool true) (pu_pickT (q := (decide (10 < b_0_0))) rfl hq10 rfl) ?_
      refine lex.nil ?_
      refine hK7 _ _ ?_
      refine Wc.cond_true (rfl) ?_
      refine Wc.seq fun K11 hK11 => ?_
      refine Wc.region (by decide +kernel) ?_
      refine lex.pure (v := .bool false) (pu_assign rfl) ?_
      refine lex.nil ?_
      refine hK11 _ _ ?_
      obtain rfl := Option.some.inj hb
      refine Wc.ret ?_
      refine hKR _ _ ?_
      refine ⟨_, res1 Try.results15 (show RV _ _ _ (.tmp _) (.bool false) from rfl), _, rfl, rfl, hC.sel [] (by decide)⟩
    · replace hb := (cF hq10).symm.trans hb
      refine lex.gpure (want_t rfl rfl (show _ = Value.bool (decide (10 < b_0_0)) from rfl) hq10) (v := .pointer (some ((⟨g3, 0, none⟩ : Addr).add 1))) (pu_field (sz := 1) Try.underlying27 rfl Try.sizeOf22 (by decide) rfl rfl) ?_
      refine lex.gval (want_t rfl rfl (show _ = Value.bool (decide (10 < b_0_0)) from rfl) hq10) (v := .slice Ab_0_1 b_0_1.length cb_0_1) (ld_fld (hC.bx (i := 0) rfl) Try.isAgg22 rfl rfl) ?_
      refine lex.gpure (want_t rfl rfl (show _ = Value.bool (decide (10 < b_0_0)) from rfl) hq10) (v := .int .i64 (b_0_1.length : Int)) (pu_len (A := Ab_0_1) (n := b_0_1.length) (m := cb_0_1) Try.underlying22 rfl) ?_
      refine lex.gpure (want_t rfl rfl (show _ = Value.bool (decide (10 < b_0_0)) from rfl) hq10) (v := .bool (decide (200 < (b_0_1.length : Int)))) (pu_gtr (k := .i64) (a := (b_0_1.length : Int)) (b := 200) rfl rfl) ?_
      refine lex.pure (v := .bool (decide (200 < (b_0_1.length : Int)))) (pu_pickF (q := (decide (10 < b_0_0))) rfl hq10 rfl) ?_
      refine lex.nil ?_
      refine hK7 _ _ ?_
      refine Wc.cond (t := (decide (200 < (b_0_1.length : Int)))) (rfl) (fun hq12 => ?_) (fun hq12 => ?_)
      · replace hb := (cT hq12).symm.trans hb
        refine Wc.seq fun K13 hK13 => ?_
        refine Wc.region (by decide +kernel) ?_
        refine lex.pure (v := .bool false) (pu_assign rfl) ?_
        refine lex.nil ?_
        refine hK13 _ _ ?_
        obtain rfl := Option.some.inj hb
        refine Wc.ret ?_
        refine hKR _ _ ?_
        refine ⟨_, res1 Try.results15 (show RV _ _ _ (.tmp _) (.bool false) from rfl), _, rfl, rfl, hC.sel [] (by decide)⟩
      · replace hb := (cF hq12).symm.trans hb
        refine Wc.skip ?_
        refine hK6 _ _ ?_
        refine Wc.fresh fun E14 hE => ?_
        have e1 : E14 1 = .pointer (some ⟨g3, 0, none⟩) := (congrFun hE 1).trans rfl
        have e2 : E14 2 = .bool false := (congrFun hE 2).trans rfl
        clear hE
        refine Wc.seq fun K15 hK15 => ?_
        refine Wc.seq fun K16 hK16 => ?_
        refine Wc.region (by decide +kernel) ?_
        refine lex.pure (v := .pointer (some ((⟨g3, 0, none⟩ : Addr).add 1))) (pu_field (sz := 1) Try.underlying27 rfl Try.sizeOf22 (by decide) rfl e1) ?_
        refine lex.val (v := .slice Ab_0_1 b_0_1.length cb_0_1) (ld_fld (hC.bx (i := 0) rfl) Try.isAgg22 rfl rfl) ?_
        refine lex.pure (v := .int .i64 (b_0_1.length : Int)) (pu_len (A := Ab_0_1) (n := b_0_1.length) (m := cb_0_1) Try.underlying22 rfl) ?_
        refine lex.pure (v := .int .i64 0) (pu_move rfl) ?_
        refine lex.nil ?_
        refine hK16 _ _ ?_
        obtain ⟨o17, hl0, hb⟩ := bd hb
        refine Wc.cut (fun E wv => ∃ (v22_0 : Int), E 2 = .bool false ∧ I64 v22_0 ∧ Cx (fun _ => False) O0 w wv [] ∧ (some true : Option (Bool)) = some r) (fun K18 hK18 => ?_) ?_
        · refine Wc.block ?_
          refine Wc.loop (fun m E wv => ∃ (v22_0 : Int), E 1 = .pointer (some ⟨g3, 0, none⟩) ∧ E 2 = .bool false ∧ E 20 = .slice Ab_0_1 b_0_1.length cb_0_1 ∧ E 21 = .int .i64 (b_0_1.length : Int) ∧ E 22 = .int .i64 v22_0 ∧ I64 v22_0 ∧ Cx (fun _ => False) O0 w wv [.box g3 27 [.int .i64 b_0_0, .slice Ab_0_1 b_0_1.length cb_0_1], .ro (.sl (.int .i64)) [.slice Ab_0_1 b_0_1.length cb_0_1] b_0_1] ∧ loopN m (F.braid_Valid_b0 n b_0_0 b_0_1) v22_0 = some o17) n ⟨0, e1, e2, rfl, rfl, rfl, (show I64 0 from by unfold I64; omega), hC.sel [0, 1] (by decide), hl0⟩ ?_
          have hbK0 := hb
          clear hb hC hl0
          rintro m20 E22 w21 ⟨v22_0, e1, e2, e20, e21, e22, hrv22_0, hC, hl0⟩ K19 hK19
          obtain ⟨m20', o23, rfl, hb, hl0⟩ := loopN_some hl0
          unfold F.braid_Valid_b0 at hb
          refine Wc.seq fun K24 hK24 => ?_
          refine Wc.region (by decide +kernel) ?_
          refine lex.pure (v := .bool (decide (v22_0 < (b_0_1.length : Int)))) (pu_lss (k := .i64) (a := v22_0) (b := (b_0_1.length : Int)) e22 e21) ?_
          refine lex.nil ?_
          refine hK24 _ _ ?_
          refine Wc.seq fun K25 hK25 => ?_
          refine Wc.cond (t := (decide (v22_0 < (b_0_1.length : Int)))) (rfl) (fun hq26 => ?_) (fun hq26 => ?_)
          · replace hb := (cT hq26).symm.trans hb
            refine Wc.skip ?_
            refine hK25 _ _ ?_
            refine Wc.seq fun K27 hK27 => ?_
            refine Wc.block ?_
            refine Wc.seq fun K28 hK28 => ?_
            refine Wc.region (by decide +kernel) ?_
            obtain ⟨x29, h30, hb⟩ := bd hb
            obtain ⟨ad31, cs32, hA, hc33, hr34⟩ := hC.elr (i := 1) rfl (get_some h30).2
            subst hA
            refine lex.pure (v := .pointer (some (ad31.add (v22_0.toNat * 1)))) (pu_index (a := v22_0) Try.underlying22 Try.sizeOf3 e20 e22 (get_some h30).1) ?_
            obtain ⟨rfl, hr34'⟩ := hr34
            refine lex.val (v := .int .i64 x29) (ld_one Try.isAgg3 rfl (hc33 0 _ rfl)) ?_
            refine lex.pure (v := .int .i64 x29) (pu_assign rfl) ?_
            refine lex.nil ?_
            refine hK28 _ _ ?_
            refine Wc.seq fun K35 hK35 => ?_
            refine Wc.region (by decide +kernel) ?_
            refine lex.pure (v := .int .i64 x29) (pu_move rfl) ?_
            refine lex.pure (v := .bool (decide (x29 = 0))) (pu_eql (k := .i64) (a := x29) (b := 0) rfl rfl) ?_
            refine lex.pure (v := .bool (decide (x29 = 0))) (pu_move rfl) ?_
            rcases bS (decide (x29 = 0)) with hq36 | hq36
            · replace hb := (cT hq36).symm.trans hb
              refine lex.gskip (want_f rfl rfl (show _ = Value.bool (decide (x29 = 0)) from rfl) hq36) ?_
              refine lex.gskip (want_f rfl rfl (show _ = Value.bool (decide (x29 = 0)) from rfl) hq36) ?_
              refine lex.gskip (want_f rfl rfl (show _ = Value.bool (decide (x29 = 0)) from rfl) hq36) ?_
              refine lex.gskip (want_f rfl rfl (show _ = Value.bool (decide (x29 = 0)) from rfl) hq36) ?_
              refine lex.gskip (want_f rfl rfl (show _ = Value.bool (decide (x29 = 0)) from rfl) hq36) ?_
              refine lex.pure (v := .bool true) (pu_pickT (q := (decide (x29 = 0))) rfl hq36 rfl) ?_
              refine lex.pure (v := .bool true) (pu_move rfl) ?_
              refine lex.gskip (want_f rfl rfl (show _ = Value.bool true from rfl) rfl) ?_
              refine lex.gskip (want_f rfl rfl (show _ = Value.bool true from rfl) rfl) ?_
              refine lex.gskip (want_f rfl rfl (show _ = Value.bool true from rfl) rfl) ?_
              refine lex.gskip (want_f rfl rfl (show _ = Value.bool true from rfl) rfl) ?_
              refine lex.pure (v := .bool true) (pu_pickT (q := true) rfl rfl rfl) ?_
              refine lex.nil ?_
              refine hK35 _ _ ?_
              refine Wc.cond_true (rfl) ?_
              refine Wc.seq fun K37 hK37 => ?_
              refine Wc.region (by decide +kernel) ?_
              refine lex.pure (v := .bool false) (pu_assign rfl) ?_
              refine lex.nil ?_
              refine hK37 _ _ ?_
              obtain rfl := Option.some.inj hb
              obtain rfl := (lX hl0).symm
              replace hb := hbK0
              obtain rfl := Option.some.inj hb
              refine Wc.ret ?_
              refine hKR _ _ ?_
              refine ⟨_, res1 Try.results15 (show RV _ _ _ (.tmp _) (.bool false) from rfl), _, rfl, rfl, hC.sel [] (by decide)⟩
            · replace hb := (cF hq36).symm.trans hb
              refine lex.gpure (want_t rfl rfl (show _ = Value.bool (decide (x29 = 0)) from rfl) hq36) (v := .int .i64 x29) (pu_move rfl) ?_
              refine lex.gpure (want_t rfl rfl (show _ = Value.bool (decide (x29 = 0)) from rfl) hq36) (v := .pointer (some ((⟨g3, 0, none⟩ : Addr).add 0))) (pu_field (sz := 1) Try.underlying27 rfl Try.sizeOf3 (by decide) rfl e1) ?_
              refine lex.gval (want_t rfl rfl (show _ = Value.bool (decide (x29 = 0)) from rfl) hq36) (v := .int .i64 b_0_0) (ld_fld (hC.bx (i := 0) rfl) Try.isAgg3 rfl rfl) ?_
              obtain ⟨z38, h39, hb⟩ := bd hb
              refine lex.gpure (want_t rfl rfl (show _ = Value.bool (decide (x29 = 0)) from rfl) hq36) (v := .int .i64 z38) (pu_negc (a := b_0_0) rfl h39) ?_
              refine lex.gpure (want_t rfl rfl (show _ = Value.bool (decide (x29 = 0)) from rfl) hq36) (v := .bool (decide (x29 ≤ z38))) (pu_leq (k := .i64) (a := x29) (b := z38) rfl rfl) ?_
              refine lex.pure (v := .bool (decide (x29 ≤ z38))) (pu_pickF (q := (decide (x29 = 0))) rfl hq36 rfl) ?_
              refine lex.pure (v := .bool (decide (x29 ≤ z38))) (pu_move rfl) ?_
              rcases bS (decide (x29 ≤ z38)) with hq40 | hq40
              · replace hb := (cT hq40).symm.trans hb
                refine lex.gskip (want_f rfl rfl (show _ = Value.bool (decide (x29 ≤ z38)) from rfl) hq40) ?_
                refine lex.gskip (want_f rfl rfl (show _ = Value.bool (decide (x29 ≤ z38)) from rfl) hq40) ?_
                refine lex.gskip (want_f rfl rfl (show _ = Value.bool (decide (x29 ≤ z38)) from rfl) hq40) ?_
                refine lex.gskip (want_f rfl rfl (show _ = Value.bool (decide (x29 ≤ z38)) from rfl) hq40) ?_
                refine lex.pure (v := .bool true) (pu_pickT (q := (decide (x29 ≤ z38))) rfl hq40 rfl) ?_
                refine lex.nil ?_
                refine hK35 _ _ ?_
                refine Wc.cond_true (rfl) ?_
                refine Wc.seq fun K41 hK41 => ?_
                refine Wc.region (by decide +kernel) ?_
                refine lex.pure (v := .bool false) (pu_assign rfl) ?_
                refine lex.nil ?_
                refine hK41 _ _ ?_
                obtain rfl := Option.some.inj hb
                obtain rfl := (lX hl0).symm
                replace hb := hbK0
                obtain rfl := Option.some.inj hb
                refine Wc.ret ?_
                refine hKR _ _ ?_
                refine ⟨_, res1 Try.results15 (show RV _ _ _ (.tmp _) (.bool false) from rfl), _, rfl, rfl, hC.sel [] (by decide)⟩
              · replace hb := (cF hq40).symm.trans hb
                refine lex.gpure (want_t rfl rfl (show _ = Value.bool (decide (x29 ≤ z38)) from rfl) hq40) (v := .int .i64 x29) (pu_move rfl) ?_
                refine lex.gpure (want_t rfl rfl (show _ = Value.bool (decide (x29 ≤ z38)) from rfl) hq40) (v := .pointer (some ((⟨g3, 0, none⟩ : Addr).add 0))) (pu_field (sz := 1) Try.underlying27 rfl Try.sizeOf3 (by decide) rfl e1) ?_
                refine lex.gval (want_t rfl rfl (show _ = Value.bool (decide (x29 ≤ z38)) from rfl) hq40) (v := .int .i64 b_0_0) (ld_fld (hC.bx (i := 0) rfl) Try.isAgg3 rfl rfl) ?_
                refine lex.gpure (want_t rfl rfl (show _ = Value.bool (decide (x29 ≤ z38)) from rfl) hq40) (v := .bool (decide (b_0_0 ≤ x29))) (pu_geq (k := .i64) (a := x29) (b := b_0_0) rfl rfl) ?_
                refine lex.pure (v := .bool (decide (b_0_0 ≤ x29))) (pu_pickF (q := (decide (x29 ≤ z38))) rfl hq40 rfl) ?_
                refine lex.nil ?_
                refine hK35 _ _ ?_
                refine Wc.cond (t := (decide (b_0_0 ≤ x29))) (rfl) (fun hq42 => ?_) (fun hq42 => ?_)
                · replace hb := (cT hq42).symm.trans hb
                  refine Wc.seq fun K43 hK43 => ?_
                  refine Wc.region (by decide +kernel) ?_
                  refine lex.pure (v := .bool false) (pu_assign rfl) ?_
                  refine lex.nil ?_
                  refine hK43 _ _ ?_
                  obtain rfl := Option.some.inj hb
                  obtain rfl := (lX hl0).symm
                  replace hb := hbK0
                  obtain rfl := Option.some.inj hb
                  refine Wc.ret ?_
                  refine hKR _ _ ?_
                  refine ⟨_, res1 Try.results15 (show RV _ _ _ (.tmp _) (.bool false) from rfl), _, rfl, rfl, hC.sel [] (by decide)⟩
                · replace hb := (cF hq42).symm.trans hb
                  refine Wc.skip ?_
                  refine hK27 _ _ ?_
                  refine Wc.region (by decide +kernel) ?_
                  obtain ⟨z44, h45, hb⟩ := bd hb
                  refine lex.pure (v := .int .i64 z44) (pu_addc (a := v22_0) (b := 1) e22 rfl h45) ?_
                  refine lex.pure (v := .int .i64 z44) (pu_move rfl) ?_
                  refine lex.nil ?_
                  obtain rfl := Option.some.inj hb
                  exact hK19 m20' _ _ (Nat.lt_succ_self _) ⟨z44, e1, e2, e20, e21, rfl, (chk_rng h45), hC.sel [0, 1] (by decide), lN hl0⟩
          · replace hb := (cF hq26).symm.trans hb
            refine Wc.exit rfl ?_
            obtain rfl := Option.some.inj hb
            obtain rfl := (lX hl0).symm
            exact hK18 _ _ ⟨v22_0, e2, hrv22_0, hC.sel [] (by decide), hbK0⟩
        · clear hb hC hl0
          rintro E47 w46 ⟨v22_0, e2, hrv22_0, hC, hb⟩
          refine hK15 _ _ ?_
          refine Wc.seq fun K48 hK48 => ?_
          refine Wc.region (by decide +kernel) ?_
          refine lex.pure (v := .bool true) (pu_assign rfl) ?_
          refine lex.nil ?_
          refine hK48 _ _ ?_
          obtain rfl := Option.some.inj hb
          refine Wc.ret ?_
          refine hKR _ _ ?_
          refine ⟨_, res1 Try.results15 (show RV _ _ _ (.tmp _) (.bool true) from rfl), _, rfl, rfl, hC.sel [] (by decide)⟩

set_option maxRecDepth 100000 in
set_option maxHeartbeats 4000000 in
theorem markov_inTable_ok (n : Nat) {w : World} {O0 : List Nat} (hO : ∀ k ∈ O0, k < w.heap.size) {b_0_0 : Int} (hb_0_0 : I64 b_0_0) {Ab_0_1 : Option Addr} {mb_0_1 cb_0_1 : Nat} {b_0_1 : List Int} (hb_0_1 : Rep O0 w (.sl (.int .i64)) [.slice Ab_0_1 mb_0_1 cb_0_1] b_0_1) {s_1_0 : Int} (hs_1_0 : I64 s_1_0) {s_1_1 : Int} (hs_1_1 : I64 s_1_1) {s_1_2 : Int} (hs_1_2 : I64 s_1_2) {r : Bool} (hb : F.markov_inTable n b_0_0 b_0_1 s_1_0 s_1_1 s_1_2 = some r) :
    Calls Try.prog 31 #[.agg #[.int .i64 b_0_0, .slice Ab_0_1 mb_0_1 cb_0_1], .agg #[.int .i64 s_1_0, .int .i64 s_1_1, .int .i64 s_1_2]] w fun e w' => ∃ v, e = .returned v ∧ v = .bool r ∧ Cx (fun _ => False) O0 w w' [] := by
  unfold F.markov_inTable at hb
  have hC := Cx.start hO
  replace hC := hC.arg rfl hb_0_1
  clear hO
  obtain ⟨rfl, hlb_0_1, hcb_0_1⟩ := hb_0_1.sl_len
  refine calls_of_Wc Try.func31 rfl (by rw [Try.ntmps31]; exact Nat.le_of_ble_eq_true rfl) fun KR hKR => ?_
  refine Wc.seq fun K2 hK2 => ?_
  refine Wc.region (by decide +kernel) ?_
  refine lex.op (hC.box (cs := [.int .i64 b_0_0, .slice Ab_0_1 b_0_1.length cb_0_1]) rfl rfl) ?_
  rintro _ w4 ⟨g3, rfl, hC, hF, hG⟩
  clear hG
  refine lex.op (hC.box (cs := [.int .i64 s_1_0, .int .i64 s_1_1, .int .i64 s_1_2]) rfl rfl) ?_
  rintro _ w7 ⟨g6, rfl, hC, hF, hG⟩
  clear hG
  refine lex.pure (v := .bool false) (pu_assign rfl) ?_
  refine lex.nil ?_
  refine hK2 _ _ ?_
  refine Wc.seqJ (fun E wv => ∃ (v5_0 : Bool), E 2 = .pointer (some ⟨g3, 0, none⟩) ∧ E 3 = .pointer (some ⟨g6, 0, none⟩) ∧ E 4 = .bool false ∧ E 5 = .bool v5_0 ∧ Cx (fun _ => False) O0 w wv [.box g3 27 [.int .i64 b_0_0, .slice Ab_0_1 b_0_1.length cb_0_1], .ro (.sl (.int .i64)) [.slice Ab_0_1 b_0_1.length cb_0_1] b_0_1, .box g6 28 [.int .i64 s_1_0, .int .i64 s_1_1, .int .i64 s_1_2]] ∧ F.markov_inTable_j0 n b_0_1 s_1_0 s_1_1 s_1_2 v5_0 = some r) (fun K9 hK9 => ?_) ?_
  ·
    skip
    refine Wc.region (by decide +kernel) ?_
    refine lex.pure (v := .pointer (some ((⟨g6, 0, none⟩ : Addr).add 1))) (pu_field (sz := 1) Try.underlying28 rfl Try.sizeOf3 (by decide) rfl rfl) ?_
    refine lex.val (v := .int .i64 s_1_1) (ld_fld (hC.bx (i := 0) rfl) Try.isAgg3 rfl rfl) ?_
    refine lex.pure (v := .bool (!(decide (s_1_1 = 0)))) (pu_neq (k := .i64) (a := s_1_1) (b := 0) rfl rfl) ?_
    refine lex.pure (v := .bool (!(decide (s_1_1 = 0)))) (pu_move rfl) ?_
    rcases bS (!(decide (s_1_1 = 0))) with hq10 | hq10
    · replace hb := (cT hq10).symm.trans hb
      refine lex.gpure (want_t rfl rfl (show _ = Value.bool (!(decide (s_1_1 = 0))) from rfl) hq10) (v := .pointer (some ((⟨g6, 0, none⟩ : Addr).add 1))) (pu_field (sz := 1) Try.underlying28 rfl Try.sizeOf3 (by decide) rfl rfl) ?_
      refine lex.gval (want_t rfl rfl (show _ = Value.bool (!(decide (s_1_1 = 0))) from rfl) hq10) (v := .int .i64 s_1_1) (ld_fld (hC.bx (i := 0) rfl) Try.isAgg3 rfl rfl) ?_
      refine lex.gpure (want_t rfl rfl (show _ = Value.bool (!(decide (s_1_1 = 0))) from rfl) hq10) (v := .pointer (some ((⟨g3, 0, none⟩ : Addr).add 0))) (pu_field (sz := 1) Try.underlying27 rfl Try.sizeOf3 (by decide) rfl rfl) ?_
      refine lex.gval (want_t rfl rfl (show _ = Value.bool (!(decide (s_1_1 = 0))) from rfl) hq10) (v := .int .i64 b_0_0) (ld_fld (hC.bx (i := 1) rfl) Try.isAgg3 rfl rfl) ?_
      obtain ⟨z11, h12, hb⟩ := bd hb
      refine lex.gpure (want_t rfl rfl (show _ = Value.bool (!(decide (s_1_1 = 0))) from rfl) hq10) (v := .int .i64 z11) (pu_negc (a := b_0_0) rfl h12) ?_
      refine lex.gpure (want_t rfl rfl (show _ = Value.bool (!(decide (s_1_1 = 0))) from rfl) hq10) (v := .bool (decide (z11 < s_1_1))) (pu_gtr (k := .i64) (a := s_1_1) (b := z11) rfl rfl) ?_
      refine lex.pure (v := .bool (decide (z11 < s_1_1))) (pu_pickT (q := (!(decide (s_1_1 = 0)))) rfl hq10 rfl) ?_
      refine lex.pure (v := .bool (decide (z11 < s_1_1))) (pu_move rfl) ?_
      rcases bS (decide (z11 < s_1_1)) with hq13 | hq13
      · replace hb := (cT hq13).symm.trans hb
        refine lex.gpure (want_t rfl rfl (show _ = Value.bool (decide (z11 < s_1_1)) from rfl) hq13) (v := .pointer (some ((⟨g6, 0, none⟩ : Addr).add 1))) (pu_field (sz := 1) Try.underlying28 rfl Try.sizeOf3 (by decide) rfl rfl) ?_
        refine lex.gval (want_t rfl rfl (show _ = Value.bool (decide (z11 < s_1_1)) from rfl) hq13) (v := .int .i64 s_1_1) (ld_fld (hC.bx (i := 0) rfl) Try.isAgg3 rfl rfl) ?_
        refine lex.gpure (want_t rfl rfl (show _ = Value.bool (decide (z11 < s_1_1)) from rfl) hq13) (v := .pointer (some ((⟨g3, 0, none⟩ : Addr).add 0))) (pu_field (sz := 1) Try.underlying27 rfl Try.sizeOf3 (by decide) rfl rfl) ?_
        refine lex.gval (want_t rfl rfl (show _ = Value.bool (decide (z11 < s_1_1)) from rfl) hq13) (v := .int .i64 b_0_0) (ld_fld (hC.bx (i := 1) rfl) Try.isAgg3 rfl rfl) ?_
        refine lex.gpure (want_t rfl rfl (show _ = Value.bool (decide (z11 < s_1_1)) from rfl) hq13) (v := .bool (decide (s_1_1 < b_0_0))) (pu_lss (k := .i64) (a := s_1_1) (b := b_0_0) rfl rfl) ?_
        refine lex.pure (v := .bool (decide (s_1_1 < b_0_0))) (pu_pickT (q := (decide (z11 < s_1_1))) rfl hq13 rfl) ?_
        refine lex.pure (v := .bool (decide (s_1_1 < b_0_0))) (pu_assign rfl) ?_
        refine lex.nil ?_
        exact hK9 _ _ ⟨(decide (s_1_1 < b_0_0)), rfl, rfl, rfl, rfl, hC.sel [1, 2, 0] (by decide), hb⟩
      · replace hb := (cF hq13).symm.trans hb
        refine lex.gskip (want_f rfl rfl (show _ = Value.bool (decide (z11 < s_1_1)) from rfl) hq13) ?_
        refine lex.gskip (want_f rfl rfl (show _ = Value.bool (decide (z11 < s_1_1)) from rfl) hq13) ?_
        refine lex.gskip (want_f rfl rfl (show _ = Value.bool (decide (z11 < s_1_1)) from rfl) hq13) ?_
        refine lex.gskip (want_f rfl rfl (show _ = Value.bool (decide (z11 < s_1_1)) from rfl) hq13) ?_
        refine lex.gskip (want_f rfl rfl (show _ = Value.bool (decide (z11 < s_1_1)) from rfl) hq13) ?_
        refine lex.pure (v := .bool false) (pu_pickF (q := (decide (z11 < s_1_1))) rfl hq13 rfl) ?_
        refine lex.pure (v := .bool false) (pu_assign rfl) ?_
        refine lex.nil ?_
        exact hK9 _ _ ⟨false, rfl, rfl, rfl, rfl, hC.sel [1, 2, 0] (by decide), hb⟩
    · replace hb := (cF hq10).symm.trans hb
      refine lex.gskip (want_f rfl rfl (show _ = Value.bool (!(decide (s_1_1 = 0))) from rfl) hq10) ?_
      refine lex.gskip (want_f rfl rfl (show _ = Value.bool (!(decide (s_1_1 = 0))) from rfl) hq10) ?_
      refine lex.gskip (want_f rfl rfl (show _ = Value.bool (!(decide (s_1_1 = 0))) from rfl) hq10) ?_
      refine lex.gskip (want_f rfl rfl (show _ = Value.bool (!(decide (s_1_1 = 0))) from rfl) hq10) ?_
      refine lex.gskip (want_f rfl rfl (show _ = Value.bool (!(decide (s_1_1 = 0))) from rfl) hq10) ?_
      refine lex.gskip (want_f rfl rfl (show _ = Value.bool (!(decide (s_1_1 = 0))) from rfl) hq10) ?_
      refine lex.pure (v := .bool false) (pu_pickF (q := (!(decide (s_1_1 = 0)))) rfl hq10 rfl) ?_
      refine lex.pure (v := .bool false) (pu_move rfl) ?_
      refine lex.gskip (want_f rfl rfl (show _ = Value.bool false from rfl) rfl) ?_
      refine lex.gskip (want_f rfl rfl (show _ = Value.bool false from rfl) rfl) ?_
      refine lex.gskip (want_f rfl rfl (show _ = Value.bool false from rfl) rfl) ?_
      refine lex.gskip (want_f rfl rfl (show _ = Value.bool false from rfl) rfl) ?_
      refine lex.gskip (want_f rfl rfl (show _ = Value.bool false from rfl) rfl) ?_
      refine lex.pure (v := .bool false) (pu_pickF (q := false) rfl rfl rfl) ?_
      refine lex.pure (v := .bool false) (pu_assign rfl) ?_
      refine lex.nil ?_
      exact hK9 _ _ ⟨false, rfl, rfl, rfl, rfl, hC.sel [1, 2, 0] (by decide), hb⟩
  · clear hb hC
    rintro E15 w14 ⟨v5_0, e2, e3, e4, e5, hC, hb⟩
    unfold F.markov_inTable_j0 at hb
    refine Wc.seq fun K16 hK16 => ?_
    refine Wc.seq fun K17 hK17 => ?_
    refine Wc.region (by decide +kernel) ?_
    refine lex.pure (v := .pointer (some ((⟨g6, 0, none⟩ : Addr).add 0))) (pu_field (sz := 1) Try.underlying28 rfl Try.sizeOf3 (by decide) rfl e3) ?_
    refine lex.val (v := .int .i64 s_1_0) (ld_fld (hC.bx (i := 2) rfl) Try.isAgg3 rfl rfl) ?_
    refine lex.nil ?_
    refine hK17 _ _ ?_
    refine Wc.block ?_
    refine Wc.seq fun K18 hK18 => ?_
    refine Wc.region (by decide +kernel) ?_
    refine lex.pure (v := .bool (decide (s_1_0 = 1))) (pu_eql (k := .i64) (a := s_1_0) (b := 1) rfl rfl) ?_
    refine lex.pure (v := .bool (decide (s_1_0 = 1))) (pu_assign rfl) ?_
    refine lex.nil ?_
    refine hK18 _ _ ?_
    refine Wc.cond (t := (decide (s_1_0 = 1))) (rfl) (fun hq19 => ?_) (fun hq19 => ?_)
    · replace hb := (cT hq19).symm.trans hb
      refine Wc.seq fun K20 hK20 => ?_
      refine Wc.region (by decide +kernel) ?_
      refine lex.pure (v := .bool v5_0) (pu_move e5) ?_
      refine lex.pure (v := .bool v5_0) (pu_move rfl) ?_
      rcases bS v5_0 with hq21 | hq21
      · replace hb := (cT hq21).symm.trans hb
        refine lex.gpure (want_t rfl rfl (show _ = Value.bool v5_0 from rfl) hq21) (v := .pointer (some ((⟨g6, 0, none⟩ : Addr).add 2))) (pu_field (sz := 1) Try.underlying28 rfl Try.sizeOf3 (by decide) rfl e3) ?_
        refine lex.gval (want_t rfl rfl (show _ = Value.bool v5_0 from rfl) hq21) (v := .int .i64 s_1_2) (ld_fld (hC.bx (i := 2) rfl) Try.isAgg3 rfl rfl) ?_
        refine lex.gpure (want_t rfl rfl (show _ = Value.bool v5_0 from rfl) hq21) (v := .bool (decide (s_1_2 = 0))) (pu_eql (k := .i64) (a := s_1_2) (b := 0) rfl rfl) ?_
        refine lex.gpure (want_t rfl rfl (show _ = Value.bool v5_0 from rfl) hq21) (v := .bool (decide (s_1_2 = 0))) (pu_move rfl) ?_
        rcases bS (decide (s_1_2 = 0)) with hq22 | hq22
        · replace hb := (cT hq22).symm.trans hb
          refine lex.gskip (want_f rfl rfl (show _ = Value.bool (decide (s_1_2 = 0)) from rfl) hq22) ?_
          refine lex.gskip (want_f rfl rfl (show _ = Value.bool (decide (s_1_2 = 0)) from rfl) hq22) ?_
          refine lex.gskip (want_f rfl rfl (show _ = Value.bool (decide (s_1_2 = 0)) from rfl) hq22) ?_
          refine lex.gpure (want_t rfl rfl (show _ = Value.bool v5_0 from rfl) hq21) (v := .bool true) (pu_pickT (q := (decide (s_1_2 = 0))) rfl hq22 rfl) ?_
          refine lex.pure (v := .bool true) (pu_pickT (q := v5_0) rfl hq21 rfl) ?_
          refine lex.pure (v := .bool true) (pu_assign rfl) ?_
          refine lex.nil ?_
          refine hK20 _ _ ?_
          obtain rfl := Option.some.inj hb
          refine Wc.ret ?_
          refine hKR _ _ ?_
          refine ⟨_, res1 Try.results31 (show RV _ _ _ (.tmp _) (.bool true) from rfl), _, rfl, rfl, hC.sel [] (by decide)⟩
        · replace hb := (cF hq22).symm.trans hb
          refine lex.gpure (want_t rfl rfl (show _ = Value.bool (decide (s_1_2 = 0)) from rfl) hq22) (v := .pointer (some ((⟨g6, 0, none⟩ : Addr).add 2))) (pu_field (sz := 1) Try.underlying28 rfl Try.sizeOf3 (by decide) rfl e3) ?_
          refine lex.gval (want_t rfl rfl (show _ = Value.bool (decide (s_1_2 = 0)) from rfl) hq22) (v := .int .i64 s_1_2) (ld_fld (hC.bx (i := 2) rfl) Try.isAgg3 rfl rfl) ?_
          refine lex.gpure (want_t rfl rfl (show _ = Value.bool (decide (s_1_2 = 0)) from rfl) hq22) (v := .bool (decide (s_1_2 = 1))) (pu_eql (k := .i64) (a := s_1_2) (b := 1) rfl rfl) ?_
          refine lex.gpure (want_t rfl rfl (show _ = Value.bool v5_0 from rfl) hq21) (v := .bool (decide (s_1_2 = 1))) (pu_pickF (q := (decide (s_1_2 = 0))) rfl hq22 rfl) ?_
          refine lex.pure (v := .bool (decide (s_1_2 = 1))) (pu_pickT (q := v5_0) rfl hq21 rfl) ?_
          refine lex.pure (v := .bool (decide (s_1_2 = 1))) (pu_assign rfl) ?_
          refine lex.nil ?_
          refine hK20 _ _ ?_
          obtain rfl := Option.some.inj hb
          refine Wc.ret ?_
          refine hKR _ _ ?_
          refine ⟨_, res1 Try.results31 (show RV _ _ _ (.tmp _) (.bool (decide (s_1_2 = 1))) from rfl), _, rfl, rfl, hC.sel [] (by decide)⟩
      · replace hb := (cF hq21).symm.trans hb
        refine lex.gskip (want_f rfl rfl (show _ = Value.bool v5_0 from rfl) hq21) ?_
        refine lex.gskip (want_f rfl rfl (show _ = Value.bool v5_0 from rfl) hq21) ?_
        refine lex.gskip (want_f rfl rfl (show _ = Value.bool v5_0 from rfl) hq21) ?_
        refine lex.gskip (want_f rfl rfl (show _ = Value.bool v5_0 from rfl) hq21) ?_
        refine lex.gskip (want_n rfl rfl rfl) ?_
        refine lex.gskip (want_n rfl rfl rfl) ?_
        refine lex.gskip (want_n rfl rfl rfl) ?_
        refine lex.gskip (want_f rfl rfl (show _ = Value.bool v5_0 from rfl) hq21) ?_
        refine lex.pure (v := .bool false) (pu_pickF (q := v5_0) rfl hq21 rfl) ?_
        refine lex.pure (v := .bool false) (pu_assign rfl) ?_
        refine lex.nil ?_
        refine hK20 _ _ ?_
        obtain rfl := Option.some.inj hb
        refine Wc.ret ?_
        refine hKR _ _ ?_
        refine ⟨_, res1 Try.results31 (show RV _ _ _ (.tmp _) (.bool false) from rfl), _, rfl, rfl, hC.sel [] (by decide)⟩
    · replace hb := (cF hq19).symm.trans hb
      refine Wc.seq fun K23 hK23 => ?_
      refine Wc.region (by decide +kernel) ?_
      refine lex.pure (v := .bool (decide (s_1_0 = 2))) (pu_eql (k := .i64) (a := s_1_0) (b := 2) rfl rfl) ?_
      refine lex.pure (v := .bool (decide (s_1_0 = 2))) (pu_assign rfl) ?_
      refine lex.nil ?_
      refine hK23 _ _ ?_
      refine Wc.cond (t := (decide (s_1_0 = 2))) (rfl) (fun hq24 => ?_) (fun hq24 => ?_)
      · replace hb := (cT hq24).symm.trans hb
        refine Wc.seq fun K25 hK25 => ?_
        refine Wc.region (by decide +kernel) ?_
        refine lex.pure (v := .pointer (some ((⟨g6, 0, none⟩ : Addr).add 1))) (pu_field (sz := 1) Try.underlying28 rfl Try.sizeOf3 (by decide) rfl e3) ?_
        refine lex.val (v := .int .i64 s_1_1) (ld_fld (hC.bx (i := 2) rfl) Try.isAgg3 rfl rfl) ?_
        refine lex.pure (v := .bool (decide (s_1_1 = 1))) (pu_eql (k := .i64) (a := s_1_1) (b := 1) rfl rfl) ?_
        refine lex.pure (v := .bool (decide (s_1_1 = 1))) (pu_move rfl) ?_
        rcases bS (decide (s_1_1 = 1)) with hq26 | hq26
        · replace hb := (cT hq26).symm.trans hb
          refine lex.gskip (want_f rfl rfl (show _ = Value.bool (decide (s_1_1 = 1)) from rfl) hq26) ?_
          refine lex.gskip (want_f rfl rfl (show _ = Value.bool (decide (s_1_1 = 1)) from rfl) hq26) ?_
          refine lex.gskip (want_f rfl rfl (show _ = Value.bool (decide (s_1_1 = 1)) from rfl) hq26) ?_
          refine lex.pure (v := .bool true) (pu_pickT (q := (decide (s_1_1 = 1))) rfl hq26 rfl) ?_
          refine lex.pure (v := .bool true) (pu_move rfl) ?_
          refine lex.gpure (want_t rfl rfl (show _ = Value.bool true from rfl) rfl) (v := .pointer (some ((⟨g6, 0, none⟩ : Addr).add 2))) (pu_field (sz := 1) Try.underlying28 rfl Try.sizeOf3 (by decide) rfl e3) ?_
          refine lex.gval (want_t rfl rfl (show _ = Value.bool true from rfl) rfl) (v := .int .i64 s_1_2) (ld_fld (hC.bx (i := 2) rfl) Try.isAgg3 rfl rfl) ?_
          refine lex.gpure (want_t rfl rfl (show _ = Value.bool true from rfl) rfl) (v := .bool (decide (s_1_2 = 0))) (pu_eql (k := .i64) (a := s_1_2) (b := 0) rfl rfl) ?_
          refine lex.pure (v := .bool (decide (s_1_2 = 0))) (pu_pickT (q := true) rfl rfl rfl) ?_
          refine lex.pure (v := .bool (decide (s_1_2 = 0))) (pu_assign rfl) ?_
          refine lex.nil ?_
          refine hK25 _ _ ?_
          obtain rfl := Option.some.inj hb
          refine Wc.ret ?_
          refine hKR _ _ ?_
          refine ⟨_, res1 Try.results31 (show RV _ _ _ (.tmp _) (.bool (decide (s_1_2 = 0))) from rfl), _, rfl, rfl, hC.sel [] (by decide)⟩
        · replace hb := (cF hq26).symm.trans hb
          refine lex.gpure (want_t rfl rfl (show _ = Value.bool (decide (s_1_1 = 1)) from rfl) hq26) (v := .pointer (some ((⟨g6, 0, none⟩ : Addr).add 1))) (pu_field (sz := 1) Try.underlying28 rfl Try.sizeOf3 (by decide) rfl e3) ?_
          refine lex.gval (want_t rfl rfl (show _ = Value.bool (decide (s_1_1 = 1)) from rfl) hq26) (v := .int .i64 s_1_1) (ld_fld (hC.bx (i := 2) rfl) Try.isAgg3 rfl rfl) ?_
          refine lex.gpure (want_t rfl rfl (show _ = Value.bool (decide (s_1_1 = 1)) from rfl) hq26) (v := .bool (decide (s_1_1 = (-1)))) (pu_eql (k := .i64) (a := s_1_1) (b := (-1)) rfl rfl) ?_
          refine lex.pure (v := .bool (decide (s_1_1 = (-1)))) (pu_pickF (q := (decide (s_1_1 = 1))) rfl hq26 rfl) ?_
          refine lex.pure (v := .bool (decide (s_1_1 = (-1)))) (pu_move rfl) ?_
          rcases bS (decide (s_1_1 = (-1))) with hq27 | hq27
          · replace hb := (cT hq27).symm.trans hb
            refine lex.gpure (want_t rfl rfl (show _ = Value.bool (decide (s_1_1 = (-1))) from rfl) hq27) (v := .pointer (some ((⟨g6, 0, none⟩ : Addr).add 2))) (pu_field (sz := 1) Try.underlying28 rfl Try.sizeOf3 (by decide) rfl e3) ?_
            refine lex.gval (want_t rfl rfl (show _ = Value.bool (decide (s_1_1 = (-1))) from rfl) hq27) (v := .int .i64 s_1_2) (ld_fld (hC.bx (i := 2) rfl) Try.isAgg3 rfl rfl) ?_
            refine lex.gpure (want_t rfl rfl (show _ = Value.bool (decide (s_1_1 = (-1))) from rfl) hq27) (v := .bool (decide (s_1_2 = 0))) (pu_eql (k := .i64) (a := s_1_2) (b := 0) rfl rfl) ?_
            refine lex.pure (v := .bool (decide (s_1_2 = 0))) (pu_pickT (q := (decide (s_1_1 = (-1)))) rfl hq27 rfl) ?_
            refine lex.pure (v := .bool (decide (s_1_2 = 0))) (pu_assign rfl) ?_
            refine lex.nil ?_
            refine hK25 _ _ ?_
            obtain rfl := Option.some.inj hb
            refine Wc.ret ?_
            refine hKR _ _ ?_
            refine ⟨_, res1 Try.results31 (show RV _ _ _ (.tmp _) (.bool (decide (s_1_2 = 0))) from rfl), _, rfl, rfl, hC.sel [] (by decide)⟩
          · replace hb := (cF hq27).symm.trans hb
            refine lex.gskip (want_f rfl rfl (show _ = Value.bool (decide (s_1_1 = (-1))) from rfl) hq27) ?_
            refine lex.gskip (want_f rfl rfl (show _ = Value.bool (decide (s_1_1 = (-1))) from rfl) hq27) ?_
            refine lex.gskip (want_f rfl rfl (show _ = Value.bool (decide (s_1_1 = (-1))) from rfl) hq27) ?_
            refine lex.pure (v := .bool false) (pu_pickF (q := (decide (s_1_1 = (-1)))) rfl hq27 rfl) ?_
            refine lex.pure (v := .bool false) (pu_assign rfl) ?_
            refine lex.nil ?_
            refine hK25 _ _ ?_
            obtain rfl := Option.some.inj hb
            refine Wc.ret ?_
            refine hKR _ _ ?_
            refine ⟨_, res1 Try.results31 (show RV _ _ _ (.tmp _) (.bool false) from rfl), _, rfl, rfl, hC.sel [] (by decide)⟩
      · replace hb := (cF hq24).symm.trans hb
        refine Wc.seq fun K28 hK28 => ?_
        refine Wc.region (by decide +kernel) ?_
        refine lex.pure (v := .bool (decide (s_1_0 = 3))) (pu_eql (k := .i64) (a := s_1_0) (b := 3) rfl rfl) ?_
        refine lex.pure (v := .bool (decide (s_1_0 = 3))) (pu_assign rfl) ?_
        refine lex.nil ?_
        refine hK28 _ _ ?_
        refine Wc.cond (t := (decide (s_1_0 = 3))) (rfl) (fun hq29 => ?_) (fun hq29 => ?_)
        · replace hb := (cT hq29).symm.trans hb
          refine Wc.seq fun K30 hK30 => ?_
          refine Wc.region (by decide +kernel) ?_
          refine lex.pure (v := .pointer (some ((⟨g6, 0, none⟩ : Addr).add 1))) (pu_field (sz := 1) Try.underlying28 rfl Try.sizeOf3 (by decide) rfl e3) ?_
          refine lex.val (v := .int .i64 s_1_1) (ld_fld (hC.bx (i := 2) rfl) Try.isAgg3 rfl rfl) ?_
          refine lex.pure (v := .bool (decide (s_1_1 = 0))) (pu_eql (k := .i64) (a := s_1_1) (b := 0) rfl rfl) ?_
          refine lex.pure (v := .bool (decide (s_1_1 = 0))) (pu_move rfl) ?_
          rcases bS (decide (s_1_1 = 0)) with hq31 | hq31
          · replace hb := (cT hq31).symm.trans hb
            refine lex.gpure (want_t rfl rfl (show _ = Value.bool (decide (s_1_1 = 0)) from rfl) hq31) (v := .pointer (some ((⟨g6, 0, none⟩ : Addr).add 2))) (pu_field (sz := 1) Try.underlying28 rfl Try.sizeOf3 (by decide) rfl e3) ?_
            refine lex.gval (want_t rfl rfl (show _ = Value.bool (decide (s_1_1 = 0)) from rfl) hq31) (v := .int .i64 s_1_2) (ld_fld (hC.bx (i := 2) rfl) Try.isAgg3 rfl rfl) ?_
            refine lex.gpure (want_t rfl rfl (show _ = Value.bool (decide (s_1_1 = 0)) from rfl) hq31) (v := .bool (decide (s_1_2 = 0))) (pu_eql (k := .i64) (a := s_1_2) (b := 0) rfl rfl) ?_
            refine lex.pure (v := .bool (decide (s_1_2 = 0))) (pu_pickT (q := (decide (s_1_1 = 0))) rfl hq31 rfl) ?_
            refine lex.pure (v := .bool (decide (s_1_2 = 0))) (pu_assign rfl) ?_
            refine lex.nil ?_
            refine hK30 _ _ ?_
            obtain rfl := Option.some.inj hb
            refine Wc.ret ?_
            refine hKR _ _ ?_
            refine ⟨_, res1 Try.results31 (show RV _ _ _ (.tmp _) (.bool (decide (s_1_2 = 0))) from rfl), _, rfl, rfl, hC.sel [] (by decide)⟩
          · replace hb := (cF hq31).symm.trans hb
            refine lex.gskip (want_f rfl rfl (show _ = Value.bool (decide (s_1_1 = 0)) from rfl) hq31) ?_
            refine lex.gskip (want_f rfl rfl (show _ = Value.bool (decide (s_1_1 = 0)) from rfl) hq31) ?_
            refine lex.gskip (want_f rfl rfl (show _ = Value.bool (decide (s_1_1 = 0)) from rfl) hq31) ?_
            refine lex.pure (v := .bool false) (pu_pickF (q := (decide (s_1_1 = 0))) rfl hq31 rfl) ?_
            refine lex.pure (v := .bool false) (pu_assign rfl) ?_
            refine lex.nil ?_
            refine hK30 _ _ ?_
            obtain rfl := Option.some.inj hb
            refine Wc.ret ?_
            refine hKR _ _ ?_
            refine ⟨_, res1 Try.results31 (show RV _ _ _ (.tmp _) (.bool false) from rfl), _, rfl, rfl, hC.sel [] (by decide)⟩
        · replace hb := (cF hq29).symm.trans hb
          refine Wc.seq fun K32 hK32 => ?_
          refine Wc.region (by decide +kernel) ?_
          refine lex.pure (v := .bool (decide (s_1_0 = 6))) (pu_eql (k := .i64) (a := s_1_0) (b := 6) rfl rfl) ?_
          refine lex.pure (v := .bool (decide (s_1_0 = 6))) (pu_assign rfl) ?_
          refine lex.nil ?_
          refine hK32 _ _ ?_
          refine Wc.fresh fun E33 hE => ?_
          have e2 : E33 2 = .pointer (some ⟨g3, 0, none⟩) := (congrFun hE 2).trans e2
          have e3 : E33 3 = .pointer (some ⟨g6, 0, none⟩) := (congrFun hE 3).trans e3
          have e4 : E33 4 = .bool false := (congrFun hE 4).trans e4
          have e5 : E33 5 = .bool v5_0 := (congrFun hE 5).trans e5
          have e64 : E33 64 = .bool (decide (s_1_0 = 6)) := (congrFun hE 64).trans rfl
          clear hE
          refine Wc.cond (t := (decide (s_1_0 = 6))) (e64) (fun hq34 => ?_) (fun hq34 => ?_)
          · replace hb := (cT hq34).symm.trans hb
            refine Wc.seq fun K35 hK35 => ?_
            refine Wc.region (by decide +kernel) ?_
            refine lex.pure (v := .bool v5_0) (pu_move e5) ?_
            refine lex.pure (v := .bool v5_0) (pu_move rfl) ?_
            rcases bS v5_0 with hq36 | hq36
            · replace hb := (cT hq36).symm.trans hb
              refine lex.gpure (want_t rfl rfl (show _ = Value.bool v5_0 from rfl) hq36) (v := .pointer (some ((⟨g6, 0, none⟩ : Addr).add 2))) (pu_field (sz := 1) Try.underlying28 rfl Try.sizeOf3 (by decide) rfl e3) ?_
              refine lex.gval (want_t rfl rfl (show _ = Value.bool v5_0 from rfl) hq36) (v := .int .i64 s_1_2) (ld_fld (hC.bx (i := 2) rfl) Try.isAgg3 rfl rfl) ?_
              refine lex.gpure (want_t rfl rfl (show _ = Value.bool v5_0 from rfl) hq36) (v := .bool (decide (0 ≤ s_1_2))) (pu_geq (k := .i64) (a := s_1_2) (b := 0) rfl rfl) ?_
              refine lex.pure (v := .bool (decide (0 ≤ s_1_2))) (pu_pickT (q := v5_0) rfl hq36 rfl) ?_
              refine lex.pure (v := .bool (decide (0 ≤ s_1_2))) (pu_move rfl) ?_
              rcases bS (decide (0 ≤ s_1_2)) with hq37 | hq37
              · replace hb := (cT hq37).symm.trans hb
                refine lex.gpure (want_t rfl rfl (show _ = Value.bool (decide (0 ≤ s_1_2)) from rfl) hq37) (v := .pointer (some ((⟨g6, 0, none⟩ : Addr).add 2))) (pu_field (sz := 1) Try.underlying28 rfl Try.sizeOf3 (by decide) rfl e3) ?_
                refine lex.gval (want_t rfl rfl (show _ = Value.bool (decide (0 ≤ s_1_2)) from rfl) hq37) (v := .int .i64 s_1_2) (ld_fld (hC.bx (i := 2) rfl) Try.isAgg3 rfl rfl) ?_
                refine lex.gpure (want_t rfl rfl (show _ = Value.bool (decide (0 ≤ s_1_2)) from rfl) hq37) (v := .pointer (some ((⟨g3, 0, none⟩ : Addr).add 1))) (pu_field (sz := 1) Try.underlying27 rfl Try.sizeOf22 (by decide) rfl e2) ?_
                refine lex.gval (want_t rfl rfl (show _ = Value.bool (decide (0 ≤ s_1_2)) from rfl) hq37) (v := .slice Ab_0_1 b_0_1.length cb_0_1) (ld_fld (hC.bx (i := 0) rfl) Try.isAgg22 rfl rfl) ?_
                refine lex.gpure (want_t rfl rfl (show _ = Value.bool (decide (0 ≤ s_1_2)) from rfl) hq37) (v := .int .i64 (b_0_1.length : Int)) (pu_len (A := Ab_0_1) (n := b_0_1.length) (m := cb_0_1) Try.underlying22 rfl) ?_
                refine lex.gpure (want_t rfl rfl (show _ = Value.bool (decide (0 ≤ s_1_2)) from rfl) hq37) (v := .bool (decide (s_1_2 ≤ (b_0_1.length : Int)))) (pu_leq (k := .i64) (a := s_1_2) (b := (b_0_1.length : Int)) rfl rfl) ?_
                refine lex.pure (v := .bool (decide (s_1_2 ≤ (b_0_1.length : Int)))) (pu_pickT (q := (decide (0 ≤ s_1_2))) rfl hq37 rfl) ?_
                refine lex.pure (v := .bool (decide (s_1_2 ≤ (b_0_1.length : Int)))) (pu_assign rfl) ?_
                refine lex.nil ?_
                refine hK35 _ _ ?_
                obtain rfl := Option.some.inj hb
                refine Wc.ret ?_
                refine hKR _ _ ?_
                refine ⟨_, res1 Try.results31 (show RV _ _ _ (.tmp _) (.bool (decide (s_1_2 ≤ (b_0_1.length : Int)))) from rfl), _, rfl, rfl, hC.sel [] (by decide)⟩
              · replace hb := (cF hq37).symm.trans hb
                refine lex.gskip (want_f rfl rfl (show _ = Value.bool (decide (0 ≤ s_1_2)) from rfl) hq37) ?_
                refine lex.gskip (want_f rfl rfl (show _ = Value.bool (decide (0 ≤ s_1_2)) from rfl) hq37) ?_
                refine lex.gskip (want_f rfl rfl (show _ = Value.bool (decide (0 ≤ s_1_2)) from rfl) hq37) ?_
                refine lex.gskip (want_f rfl rfl (show _ = Value.bool (decide (0 ≤ s_1_2)) from rfl) hq37) ?_
                refine lex.gskip (want_f rfl rfl (show _ = Value.bool (decide (0 ≤ s_1_2)) from rfl) hq37) ?_
                refine lex.gskip (want_f rfl rfl (show _ = Value.bool (decide (0 ≤ s_1_2)) from rfl) hq37) ?_
                refine lex.pure (v := .bool false) (pu_pickF (q := (decide (0 ≤ s_1_2))) rfl hq37 rfl) ?_
                refine lex.pure (v := .bool false) (pu_assign rfl) ?_
                refine lex.nil ?_
                refine hK35 _ _ ?_
                obtain rfl := Option.some.inj hb
                refine Wc.ret ?_
                refine hKR _ _ ?_
                refine ⟨_, res1 Try.results31 (show RV _ _ _ (.tmp _) (.bool false) from rfl), _, rfl, rfl, hC.sel [] (by decide)⟩
            · replace hb := (cF hq36).symm.trans hb
              refine lex.gskip (want_f rfl rfl (show _ = Value.bool v5_0 from rfl) hq36) ?_
              refine lex.gskip (want_f rfl rfl (show _ = Value.bool v5_0 from rfl) hq36) ?_
              refine lex.gskip (want_f rfl rfl (show _ = Value.bool v5_0 from rfl) hq36) ?_
              refine lex.pure (v := .bool false) (pu_pickF (q := v5_0) rfl hq36 rfl) ?_
              refine lex.pure (v := .bool false) (pu_move rfl) ?_
              refine lex.gskip (want_f rfl rfl (show _ = Value.bool false from rfl) rfl) ?_
              refine lex.gskip (want_f rfl rfl (show _ = Value.bool false from rfl) rfl) ?_
              refine lex.gskip (want_f rfl rfl (show _ = Value.bool false from rfl) rfl) ?_
              refine lex.gskip (want_f rfl rfl (show _ = Value.bool false from rfl) rfl) ?_
              refine lex.gskip (want_f rfl rfl (show _ = Value.bool false from rfl) rfl) ?_
              refine lex.gskip (want_f rfl rfl (show _ = Value.bool false from rfl) rfl) ?_
              refine lex.pure (v := .bool false) (pu_pickF (q := false) rfl rfl rfl) ?_
              refine lex.pure (v := .bool false) (pu_assign rfl) ?_
              refine lex.nil ?_
              refine hK35 _ _ ?_
              obtain rfl := Option.some.inj hb
              refine Wc.ret ?_
              refine hKR _ _ ?_
              refine ⟨_, res1 Try.results31 (show RV _ _ _ (.tmp _) (.bool false) from rfl), _, rfl, rfl, hC.sel [] (by decide)⟩
          · replace hb := (cF hq34).symm.trans hb
            refine Wc.skip ?_
            refine hK16 _ _ ?_
            refine Wc.seq fun K38 hK38 => ?_
            refine Wc.region (by decide +kernel) ?_
            refine lex.pure (v := .pointer (some ((⟨g6, 0, none⟩ : Addr).add 1))) (pu_field (sz := 1) Try.underlying28 rfl Try.sizeOf3 (by decide) rfl e3) ?_
            refine lex.val (v := .int .i64 s_1_1) (ld_fld (hC.bx (i := 2) rfl) Try.isAgg3 rfl rfl) ?_
            refine lex.pure (v := .bool (decide (s_1_1 = 0))) (pu_eql (k := .i64) (a := s_1_1) (b := 0) rfl rfl) ?_
            refine lex.pure (v := .bool (decide (s_1_1 = 0))) (pu_move rfl) ?_
            rcases bS (decide (s_1_1 = 0)) with hq39 | hq39
            · replace hb := (cT hq39).symm.trans hb
              refine lex.gpure (want_t rfl rfl (show _ = Value.bool (decide (s_1_1 = 0)) from rfl) hq39) (v := .pointer (some ((⟨g6, 0, none⟩ : Addr).add 2))) (pu_field (sz := 1) Try.underlying28 rfl Try.sizeOf3 (by decide) rfl e3) ?_
              refine lex.gval (want_t rfl rfl (show _ = Value.bool (decide (s_1_1 = 0)) from rfl) hq39) (v := .int .i64 s_1_2) (ld_fld (hC.bx (i := 2) rfl) Try.isAgg3 rfl rfl) ?_
              refine lex.gpure (want_t rfl rfl (show _ = Value.bool (decide (s_1_1 = 0)) from rfl) hq39) (v := .bool (decide (0 ≤ s_1_2))) (pu_geq (k := .i64) (a := s_1_2) (b := 0) rfl rfl) ?_
              refine lex.pure (v := .bool (decide (0 ≤ s_1_2))) (pu_pickT (q := (decide (s_1_1 = 0))) rfl hq39 rfl) ?_
              refine lex.pure (v := .bool (decide (0 ≤ s_1_2))) (pu_move rfl) ?_
              rcases bS (decide (0 ≤ s_1_2)) with hq40 | hq40
              · replace hb := (cT hq40).symm.trans hb
                refine lex.gpure (want_t rfl rfl (show _ = Value.bool (decide (0 ≤ s_1_2)) from rfl) hq40) (v := .pointer (some ((⟨g6, 0, none⟩ : Addr).add 2))) (pu_field (sz := 1) Try.underlying28 rfl Try.sizeOf3 (by decide) rfl e3) ?_
                refine lex.gval (want_t rfl rfl (show _ = Value.bool (decide (0 ≤ s_1_2)) from rfl) hq40) (v := .int .i64 s_1_2) (ld_fld (hC.bx (i := 2) rfl) Try.isAgg3 rfl rfl) ?_
                refine lex.gpure (want_t rfl rfl (show _ = Value.bool (decide (0 ≤ s_1_2)) from rfl) hq40) (v := .pointer (some ((⟨g3, 0, none⟩ : Addr).add 1))) (pu_field (sz := 1) Try.underlying27 rfl Try.sizeOf22 (by decide) rfl e2) ?_
                refine lex.gval (want_t rfl rfl (show _ = Value.bool (decide (0 ≤ s_1_2)) from rfl) hq40) (v := .slice Ab_0_1 b_0_1.length cb_0_1) (ld_fld (hC.bx (i := 0) rfl) Try.isAgg22 rfl rfl) ?_
                refine lex.gpure (want_t rfl rfl (show _ = Value.bool (decide (0 ≤ s_1_2)) from rfl) hq40) (v := .int .i64 (b_0_1.length : Int)) (pu_len (A := Ab_0_1) (n := b_0_1.length) (m := cb_0_1) Try.underlying22 rfl) ?_
                refine lex.gpure (want_t rfl rfl (show _ = Value.bool (decide (0 ≤ s_1_2)) from rfl) hq40) (v := .bool (decide (s_1_2 < (b_0_1.length : Int)))) (pu_lss (k := .i64) (a := s_1_2) (b := (b_0_1.length : Int)) rfl rfl) ?_
                refine lex.pure (v := .bool (decide (s_1_2 < (b_0_1.length : Int)))) (pu_pickT (q := (decide (0 ≤ s_1_2))) rfl hq40 rfl) ?_
                refine lex.pure (v := .bool (decide (s_1_2 < (b_0_1.length : Int)))) (pu_assign rfl) ?_
                refine lex.nil ?_
                refine hK38 _ _ ?_
                obtain rfl := Option.some.inj hb
                refine Wc.ret ?_
                refine hKR _ _ ?_
                refine ⟨_, res1 Try.results31 (show RV _ _ _ (.tmp _) (.bool (decide (s_1_2 < (b_0_1.length : Int)))) from rfl), _, rfl, rfl, hC.sel [] (by decide)⟩
              · replace hb := (cF hq40).symm.trans hb
                refine lex.gskip (want_f rfl rfl (show _ = Value.bool (decide (0 ≤ s_1_2)) from rfl) hq40) ?_
                refine lex.gskip (want_f rfl rfl (show _ = Value.bool (decide (0 ≤ s_1_2)) from rfl) hq40) ?_
                refine lex.gskip (want_f rfl rfl (show _ = Value.bool (decide (0 ≤ s_1_2)) from rfl) hq40) ?_
                refine lex.gskip (want_f rfl rfl (show _ = Value.bool (decide (0 ≤ s_1_2)) from rfl) hq40) ?_
                refine lex.gskip (want_f rfl rfl (show _ = Value.bool (decide (0 ≤ s_1_2)) from rfl) hq40) ?_
                refine lex.gskip (want_f rfl rfl (show _ = Value.bool (decide (0 ≤ s_1_2)) from rfl) hq40) ?_
                refine lex.pure (v := .bool false) (pu_pickF (q := (decide (0 ≤ s_1_2))) rfl hq40 rfl) ?_
                refine lex.pure (v := .bool false) (pu_assign rfl) ?_
                refine lex.nil ?_
                refine hK38 _ _ ?_
                obtain rfl := Option.some.inj hb
                refine Wc.ret ?_
                refine hKR _ _ ?_
                refine ⟨_, res1 Try.results31 (show RV _ _ _ (.tmp _) (.bool false) from rfl), _, rfl, rfl, hC.sel [] (by decide)⟩
            · replace hb := (cF hq39).symm.trans hb
              refine lex.gskip (want_f rfl rfl (show _ = Value.bool (decide (s_1_1 = 0)) from rfl) hq39) ?_
              refine lex.gskip (want_f rfl rfl (show _ = Value.bool (decide (s_1_1 = 0)) from rfl) hq39) ?_
              refine lex.gskip (want_f rfl rfl (show _ = Value.bool (decide (s_1_1 = 0)) from rfl) hq39) ?_
              refine lex.pure (v := .bool false) (pu_pickF (q := (decide (s_1_1 = 0))) rfl hq39 rfl) ?_
              refine lex.pure (v := .bool false) (pu_move rfl) ?_
              refine lex.gskip (want_f rfl rfl (show _ = Value.bool false from rfl) rfl) ?_
              refine lex.gskip (want_f rfl rfl (show _ = Value.bool false from rfl) rfl) ?_
              refine lex.gskip (want_f rfl rfl (show _ = Value.bool false from rfl) rfl) ?_
              refine lex.gskip (want_f rfl rfl (show _ = Value.bool false from rfl) rfl) ?_
              refine lex.gskip (want_f rfl rfl (show _ = Value.bool false from rfl) rfl) ?_
              refine lex.gskip (want_f rfl rfl (show _ = Value.bool false from rfl) rfl) ?_
              refine lex.pure (v := .bool false) (pu_pickF (q := false) rfl rfl rfl) ?_
              refine lex.pure (v := .bool false) (pu_assign rfl) ?_
              refine lex.nil ?_
              refine hK38 _ _ ?_
              obtain rfl := Option.some.inj hb
              refine Wc.ret ?_
              refine hKR _ _ ?_
              refine ⟨_, res1 Try.results31 (show RV _ _ _ (.tmp _) (.bool false) from rfl), _, rfl, rfl, hC.sel [] (by decide)⟩

set_option maxRecDepth 100000 in
set_option maxHeartbeats 4000000 in
theorem markov_size_ok (n : Nat) {w : World} {O0 : List Nat} (hO : ∀ k ∈ O0, k < w.heap.size) {letter_0 : Int} (hletter_0 : I64 letter_0) {r : Int} (hb : F.markov_size n letter_0 = some r) :
    Calls Try.prog 56 #[.int .i64 letter_0] w fun e w' => ∃ v, e = .returned v ∧ v = .int .i64 r ∧ I64 r ∧ Cx (fun _ => False) O0 w w' [] := by
  unfold F.markov_size at hb
  have hC := Cx.start hO
  clear hO
  refine calls_of_Wc Try.func56 rfl (by rw [Try.ntmps56]; exact Nat.le_of_ble_eq_true rfl) fun KR hKR => ?_
  refine Wc.seq fun K1 hK1 => ?_
  refine Wc.region (by decide +kernel) ?_
  refine lex.pure (v := .int .i64 0) (pu_assign rfl) ?_
  refine lex.nil ?_
  refine hK1 _ _ ?_
  refine Wc.seq fun K2 hK2 => ?_
  refine Wc.region (by decide +kernel) ?_
  refine lex.pure (v := .int .i64 letter_0) (pu_move rfl) ?_
  refine lex.pure (v := .int .i64 letter_0) (pu_move rfl) ?_
  obtain ⟨z3, h4, hb⟩ := bd hb
  refine lex.pure (v := .int .i64 z3) (pu_negc (a := letter_0) rfl h4) ?_
  refine lex.pure (v := .int .i64 (max letter_0 z3)) (pu_max (a := letter_0) (b := z3) rfl rfl) ?_
  refine lex.pure (v := .int .i64 (max letter_0 z3)) (pu_assign rfl) ?_
  refine lex.nil ?_
  refine hK2 _ _ ?_
  obtain rfl := Option.some.inj hb
  refine Wc.ret ?_
  refine hKR _ _ ?_
  refine ⟨_, res1 Try.results56 (show RV _ _ _ (.tmp _) (.int .i64 (max letter_0 z3)) from rfl), _, rfl, rfl, (I64.max hletter_0 (chk_rng h4)), hC.sel [] (by decide)⟩

set_option maxRecDepth 100000 in
set_option maxHeartbeats 4000000 in
theorem markov_applicable_c1_ok (n : Nat) {w : World} {O0 : List Nat} (hO : ∀ k ∈ O0, k < w.heap.size) {letter_0 : Int} (hletter_0 : I64 letter_0) {gu_1 : Nat} {u_1_0 : Int} (hu_1_0 : I64 u_1_0) {Au_1_1 : Option Addr} {mu_1_1 cu_1_1 : Nat} {u_1_1 : List Int} (hu_1_1 : Rep O0 w (.sl (.int .i64)) [.slice Au_1_1 mu_1_1 cu_1_1] u_1_1) (hio : Tk O0 w [.box gu_1 27 [.int .i64 u_1_0, .slice Au_1_1 mu_1_1 cu_1_1]]) {r : Bool} (hb : F.markov_applicable_c1 n letter_0 u_1_0 u_1_1 = some r) :
    Calls Try.prog 55 #[.int .i64 letter_0, .pointer (some ⟨gu_1, 0, none⟩)] w fun e w' => ∃ v, e = .returned v ∧ v = .bool r ∧ Cx (fun k => k ∈ blocks [.box gu_1 27 [.int .i64 u_1_0, .slice Au_1_1 mu_1_1 cu_1_1]]) O0 w w' [.box gu_1 27 [.int .i64 u_1_0, .slice Au_1_1 mu_1_1 cu_1_1]] := by
  unfold F.markov_applicable_c1 at hb
  have hC := Cx.startTk hO hio
  have hsub := hio.2.2
  replace hC := hC.argTk (by first | exact hsub | exact fun k hk => hsub k (by simpa [blocks, Fact.blk] using hk)) hu_1_1
  clear hO
  obtain ⟨rfl, hlu_1_1, hcu_1_1⟩ := hu_1_1.sl_len
  clear hio hsub
  obtain ⟨I, hI, hC⟩ : ∃ I : Nat → Prop, I = (fun k => k ∈ blocks [.box gu_1 27 [.int .i64 u_1_0, .slice Au_1_1 u_1_1.length cu_1_1]]) ∧ Cx I O0 w w ([.ro (.sl (.int .i64)) [.slice Au_1_1 u_1_1.length cu_1_1] u_1_1, .box gu_1 27 [.int .i64 u_1_0, .slice Au_1_1 u_1_1.length cu_1_1]]) := ⟨_, rfl, hC⟩
  refine calls_of_Wc Try.func55 rfl (by rw [Try.ntmps55]; exact Nat.le_of_ble_eq_true rfl) fun KR hKR => ?_
  refine Wc.seq fun K3 hK3 => ?_
  refine Wc.region (by decide +kernel) ?_
  refine lex.pure (v := .bool false) (pu_assign rfl) ?_
  refine lex.nil ?_
  refine hK3 _ _ ?_
  refine Wc.seq fun K4 hK4 => ?_
  refine Wc.regionMix [] (frm [] ([] : List Fact) ([] : List Fact)) (fun _ => rfl) mixed (by decide +kernel) (by decide +kernel) fun w6 hw5 => ?_
  replace hC := hC.step (Fr.of_drew hw5)
  have hM := Fr.refl (fun k => k ∈ blocks ([] : List Fact)) w6
  clear hw5
  have hS := hC
  refine mixE.pure (v := .int .i64 letter_0) (pu_move rfl) ?_
  obtain ⟨y7, h8, hb⟩ := bd hb
  refine mixE.cl hM (⟨_, _, op_call (vs := [.int .i64 letter_0]) Try.call56 rfl rfl rfl, markov_size_ok n hC.lt hletter_0 h8⟩) ?_
  rintro _ w10 ⟨rfl, hr9, hK⟩
  replace hM := hM.none hK.fr
  refine ⟨hM, ?_⟩
  replace hC := hC.merge hK
  clear hK
  refine mixE.pure (v := .pointer (some ((⟨gu_1, 0, none⟩ : Addr).add 0))) (pu_field (sz := 1) Try.underlying27 rfl Try.sizeOf3 (by decide) rfl rfl) ?_
  refine mixE.load hM (v := .int .i64 u_1_0) (fun _ hF => ld_fld (hS.bx2 (i := 1) rfl [] (by decide) hF) Try.isAgg3 rfl rfl) ?_
  obtain ⟨z11, h12, hb⟩ := bd hb
  refine mixE.pure (v := .int .i64 z11) (pu_subc (a := u_1_0) (b := 1) rfl rfl h12) ?_
  refine mixE.pure (v := .bool (decide (y7 = z11))) (pu_eql (k := .i64) (a := y7) (b := z11) rfl rfl) ?_
  refine mixE.pure (v := .bool (decide (y7 = z11))) (pu_assign rfl) ?_
  refine mixE.nil ?_
  clear hS hM
  refine hK4 _ _ ?_
  obtain rfl := Option.some.inj hb
  subst hI
  refine Wc.ret ?_
  refine hKR _ _ ?_
  refine ⟨_, res1 Try.results55 (show RV _ _ _ (.tmp _) (.bool (decide (y7 = z11))) from rfl), _, rfl, rfl, hC.sel [1] (by decide)⟩

set_option maxRecDepth 100000 in
set_option maxHeartbeats 4000000 in
theorem slices_IndexFunc_Lint_int_markov_applicable_c1_ok (n : Nat) {w : World} {O0 : List Nat} (hO : ∀ k ∈ O0, k < w.heap.size) {As_0 : Option Addr} {ms_0 cs_0 : Nat} {s_0 : List Int} (hs_0 : Rep O0 w (.sl (.int .i64)) [.slice As_0 ms_0 cs_0] s_0) {gf_1_0 : Nat} {f_1_0_0 : Int} (hf_1_0_0 : I64 f_1_0_0) {Af_1_0_1 : Option Addr} {mf_1_0_1 cf_1_0_1 : Nat} {f_1_0_1 : List Int} (hf_1_0_1 : Rep O0 w (.sl (.int .i64)) [.slice Af_1_0_1 mf_1_0_1 cf_1_0_1] f_1_0_1) (hio : Tk O0 w [.box gf_1_0 27 [.int .i64 f_1_0_0, .slice Af_1_0_1 mf_1_0_1 cf_1_0_1]]) {r : Int} (hb : F.slices_IndexFunc_Lint_int_markov_applicable_c1 n s_0 f_1_0_0 f_1_0_1 = some r) :
    Calls Try.prog 57 #[.slice As_0 ms_0 cs_0, .func (.func 55) #[] #[.pointer (some ⟨gf_1_0, 0, none⟩)]] w fun e w' => ∃ v, e = .returned v ∧ v = .int .i64 r ∧ I64 r ∧ Cx (fun k => k ∈ blocks [.box gf_1_0 27 [.int .i64 f_1_0_0, .slice Af_1_0_1 mf_1_0_1 cf_1_0_1]]) O0 w w' [.box gf_1_0 27 [.int .i64 f_1_0_0, .slice Af_1_0_1 mf_1_0_1 cf_1_0_1]] := by
  unfold F.slices_IndexFunc_Lint_int_markov_applicable_c1 at hb
  have hC := Cx.startTk hO hio
  have hsub := hio.2.2
  replace hC := hC.argTk (by first | exact hsub | exact fun k hk => hsub k (by simpa [blocks, Fact.blk] using hk)) hs_0
  replace hC := hC.argTk (by first | exact hsub | exact fun k hk => hsub k (by simpa [blocks, Fact.blk] using hk)) hf_1_0_1
  clear hO
  obtain ⟨rfl, hls_0, hcs_0⟩ := hs_0.sl_len
  obtain ⟨rfl, hlf_1_0_1, hcf_1_0_1⟩ := hf_1_0_1.sl_len
  clear hio hsub
  obtain ⟨I, hI, hC⟩ : ∃ I : Nat → Prop, I = (fun k => k ∈ blocks [.box gf_1_0 27 [.int .i64 f_1_0_0, .slice Af_1_0_1 f_1_0_1.length cf_1_0_1]]) ∧ Cx I O0 w w ([.ro (.sl (.int .i64)) [.slice Af_1_0_1 f_1_0_1.length cf_1_0_1] f_1_0_1, .ro (.sl (.int .i64)) [.slice As_0 s_0.length cs_0] s_0, .box gf_1_0 27 [.int .i64 f_1_0_0, .slice Af_1_0_1 f_1_0_1.length cf_1_0_1]]) := ⟨_, rfl, hC⟩
  refine calls_of_Wc Try.func57 rfl (by rw [Try.ntmps57]; exact Nat.le_of_ble_eq_true rfl) fun KR hKR => ?_
  refine Wc.seq fun K4 hK4 => ?_
  refine Wc.region (by decide +kernel) ?_
  refine lex.pure (v := .int .i64 0) (pu_assign rfl) ?_
  refine lex.nil ?_
  refine hK4 _ _ ?_
  refine Wc.seq fun K5 hK5 => ?_
  refine Wc.seq fun K6 hK6 => ?_
  refine Wc.region (by decide +kernel) ?_
  refine lex.pure (v := .slice As_0 s_0.length cs_0) (pu_move rfl) ?_
  refine lex.pure (v := .int .i64 (s_0.length : Int)) (pu_len (A := As_0) (n := s_0.length) (m := cs_0) Try.underlying22 rfl) ?_
  refine lex.pure (v := .int .i64 0) (pu_move rfl) ?_
  refine lex.nil ?_
  refine hK6 _ _ ?_
  obtain ⟨o7, hl0, hb⟩ := bd hb
  refine Wc.cut (fun E wv => ∃ (v8_0 : Int), E 4 = .int .i64 0 ∧ I64 v8_0 ∧ Cx I O0 w wv [.box gf_1_0 27 [.int .i64 f_1_0_0, .slice Af_1_0_1 f_1_0_1.length cf_1_0_1], .ro (.sl (.int .i64)) [.slice Af_1_0_1 f_1_0_1.length cf_1_0_1] f_1_0_1] ∧ (some (-1) : Option (Int)) = some r) (fun K8 hK8 => ?_) ?_
  · refine Wc.block ?_
    refine Wc.loop (fun m E wv => ∃ (v8_0 : Int), E 0 = .slice As_0 s_0.length cs_0 ∧ E 1 = .func (.func 55) #[] #[.pointer (some ⟨gf_1_0, 0, none⟩)] ∧ E 4 = .int .i64 0 ∧ E 7 = .int .i64 (s_0.length : Int) ∧ E 8 = .int .i64 v8_0 ∧ I64 v8_0 ∧ Cx I O0 w wv [.ro (.sl (.int .i64)) [.slice As_0 s_0.length cs_0] s_0, .box gf_1_0 27 [.int .i64 f_1_0_0, .slice Af_1_0_1 f_1_0_1.length cf_1_0_1], .ro (.sl (.int .i64)) [.slice Af_1_0_1 f_1_0_1.length cf_1_0_1] f_1_0_1] ∧ loopN m (F.slices_IndexFunc_Lint_int_markov_applicable_c1_b0 n s_0 f_1_0_0 f_1_0_1) v8_0 = some o7) n ⟨0, rfl, rfl, rfl, rfl, rfl, (show I64 0 from by unfold I64; omega), hC.sel [1, 2, 0] (by decide), hl0⟩ ?_
    have hbK0 := hb
    clear hb hC hl0
    rintro m10 E12 w11 ⟨v8_0, e0, e1, e4, e7, e8, hrv8_0, hC, hl0⟩ K9 hK9
    obtain ⟨m10', o13, rfl, hb, hl0⟩ := loopN_some hl0
    unfold F.slices_IndexFunc_Lint_int_markov_applicable_c1_b0 at hb
    refine Wc.seq fun K14 hK14 => ?_
    refine Wc.region (by decide +kernel) ?_
    refine lex.pure (v := .bool (decide (v8_0 < (s_0.length : Int)))) (pu_lss (k := .i64) (a := v8_0) (b := (s_0.length : Int)) e8 e7) ?_
    refine lex.nil ?_
    refine hK14 _ _ ?_
    refine Wc.seq fun K15 hK15 => ?_
    refine Wc.cond (t := (decide (v8_0 < (s_0.length : Int)))) (rfl) (fun hq16 => ?_) (fun hq16 => ?_)
    · replace hb := (cT hq16).symm.trans hb
      refine Wc.skip ?_
      refine hK15 _ _ ?_
      refine Wc.seq fun K17 hK17 => ?_
      refine Wc.block ?_
      refine Wc.seq fun K18 hK18 => ?_
      refine Wc.region (by decide +kernel) ?_
      refine lex.pure (v := .int .i64 v8_0) (pu_move e8) ?_
      refine lex.pure (v := .int .i64 v8_0) (pu_assign rfl) ?_
      refine lex.nil ?_
      refine hK18 _ _ ?_
      refine Wc.seq fun K19 hK19 => ?_
      refine Wc.region (by decide +kernel) ?_
      refine lex.pure (v := .func (.func 55) #[] #[.pointer (some ⟨gf_1_0, 0, none⟩)]) (pu_move e1) ?_
      refine lex.pure (v := .slice As_0 s_0.length cs_0) (pu_move e0) ?_
      refine lex.pure (v := .int .i64 v8_0) (pu_move rfl) ?_
      obtain ⟨x20, h21, hb⟩ := bd hb
      obtain ⟨ad22, cs23, hA, hc24, hr25⟩ := hC.elr (i := 0) rfl (get_some h21).2
      subst hA
      refine lex.pure (v := .pointer (some (ad22.add (v8_0.toNat * 1)))) (pu_index (a := v8_0) Try.underlying22 Try.sizeOf3 rfl rfl (get_some h21).1) ?_
      obtain ⟨rfl, hr25'⟩ := hr25
      refine lex.val (v := .int .i64 x20) (ld_one Try.isAgg3 rfl (hc24 0 _ rfl)) ?_
      replace hC : Cx I O0 w w11 ([.box gf_1_0 27 [.int .i64 f_1_0_0, .slice Af_1_0_1 f_1_0_1.length cf_1_0_1]] ++ [.ro (.sl (.int .i64)) [.slice (some ad22) s_0.length cs_0] s_0, .ro (.sl (.int .i64)) [.slice Af_1_0_1 f_1_0_1.length cf_1_0_1] f_1_0_1]) := hC.sel [1, 0, 2] (by decide)
      obtain ⟨y26, h27, hb⟩ := bd hb
      refine lex.cl (⟨_, _, op_callv (vs := [.int .i64 x20, .pointer (some ⟨gf_1_0, 0, none⟩)]) (ca := #[.pointer (some ⟨gf_1_0, 0, none⟩)]) Try.call55 rfl rfl rfl, markov_applicable_c1_ok n hC.lt (wrap_I64 hr25') hf_1_0_0 (hC.rd (i := 2) rfl) hC.give h27⟩) ?_
      rintro _ w28 ⟨rfl, hK⟩
      replace hC := hC.back hK
      clear hK
      refine lex.nil ?_
      refine hK19 _ _ ?_
      refine Wc.cond (t := y26) (rfl) (fun hq29 => ?_) (fun hq29 => ?_)
      · replace hb := (cT hq29).symm.trans hb
        refine Wc.seq fun K30 hK30 => ?_
        refine Wc.region (by decide +kernel) ?_
        refine lex.pure (v := .int .i64 v8_0) (pu_move rfl) ?_
        refine lex.pure (v := .int .i64 v8_0) (pu_assign rfl) ?_
        refine lex.nil ?_
        refine hK30 _ _ ?_
        obtain rfl := Option.some.inj hb
        obtain rfl := (lX hl0).symm
        replace hb := hbK0
        obtain rfl := Option.some.inj hb
        subst hI
        refine Wc.ret ?_
        refine hKR _ _ ?_
        refine ⟨_, res1 Try.results57 (show RV _ _ _ (.tmp _) (.int .i64 v8_0) from rfl), _, rfl, rfl, hrv8_0, hC.sel [0] (by decide)⟩
      · replace hb := (cF hq29).symm.trans hb
        refine Wc.skip ?_
        refine hK17 _ _ ?_
        refine Wc.region (by decide +kernel) ?_
        obtain ⟨z31, h32, hb⟩ := bd hb
        refine lex.pure (v := .int .i64 z31) (pu_addc (a := v8_0) (b := 1) e8 rfl h32) ?_
        refine lex.pure (v := .int .i64 z31) (pu_move rfl) ?_
        refine lex.nil ?_
        obtain rfl := Option.some.inj hb
        exact hK9 m10' _ _ (Nat.lt_succ_self _) ⟨z31, e0, e1, e4, e7, rfl, (chk_rng h32), hC.sel [1, 0, 2] (by decide), lN hl0⟩
    · replace hb := (cF hq16).symm.trans hb
      refine Wc.exit rfl ?_
      obtain rfl := Option.some.inj hb
      obtain rfl := (lX hl0).symm
      exact hK8 _ _ ⟨v8_0, e4, hrv8_0, hC.sel [1, 2] (by decide), hbK0⟩
  · clear hb hC hl0
    rintro E34 w33 ⟨v8_0, e4, hrv8_0, hC, hb⟩
    refine hK5 _ _ ?_
    refine Wc.seq fun K35 hK35 => ?_
    refine Wc.region (by decide +kernel) ?_
    refine lex.pure (v := .int .i64 (-1)) (pu_assign rfl) ?_
    refine lex.nil ?_
    refine hK35 _ _ ?_
    obtain rfl := Option.some.inj hb
    subst hI
    refine Wc.ret ?_
    refine hKR _ _ ?_
    refine ⟨_, res1 Try.results57 (show RV _ _ _ (.tmp _) (.int .i64 (-1)) from rfl), _, rfl, rfl, (show I64 (-1) from by unfold I64; omega), hC.sel [0] (by decide)⟩
end Go.Proofs.Ytkjpldmelafooaa
