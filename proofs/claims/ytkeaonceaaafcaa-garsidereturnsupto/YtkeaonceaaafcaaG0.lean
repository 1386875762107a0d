/- The walks: part 0. -/
import Derived.Test.YtkeaonceaaafcaaS
set_option linter.unusedVariables false
set_option linter.unusedSimpArgs false
namespace Go.Proofs.Ytkeaonceaaafcaa
open Ev
set_option maxRecDepth 100000 in
set_option maxHeartbeats 4000000 in
theorem braid_Valid_ok (n : Nat) {w : World} {O0 : List Nat} (hO : ∀ k ∈ O0, k < w.heap.size) {b_0_0 : Int} (hb_0_0 : I64 b_0_0) {Ab_0_1 : Option Addr} {mb_0_1 cb_0_1 : Nat} {b_0_1 : List Int} (hb_0_1 : Rep O0 w (.sl (.int .i64)) [.slice Ab_0_1 mb_0_1 cb_0_1] b_0_1) {r : Bool} (hb : F.braid_Valid n b_0_0 b_0_1 = some r) :
    Calls Try.prog 14 #[.agg #[.int .i64 b_0_0, .slice Ab_0_1 mb_0_1 cb_0_1]] w fun e w' => ∃ v, e = .returned v ∧ v = .bool r ∧ Cx (fun _ => False) O0 w w' [] := by
  unfold F.braid_Valid at hb
  have hC := Cx.start hO
  replace hC := hC.arg rfl hb_0_1
  clear hO
  obtain ⟨rfl, hlb_0_1, hcb_0_1⟩ := hb_0_1.sl_len
  refine calls_of_Wc Try.func14 rfl (by rw [Try.ntmps14]; exact Nat.le_of_ble_eq_true rfl) fun KR hKR => ?_
  refine Wc.seq fun K2 hK2 => ?_
  refine Wc.region (by decide +kernel) ?_
  refine lex.op (hC.box (cs := [.int .i64 b_0_0, .slice Ab_0_1 b_0_1.length cb_0_1]) rfl rfl) ?_
  rintro _ w4 ⟨g3, rfl, hC, hF, hG⟩
  clear hG
  refine lex.pure (v := .bool false) (pu_assign rfl) ?_
  refine lex.nil ?_
  refine hK2 _ _ ?_
  refine Wc.seq fun K6 hK6 => ?_
  refine Wc.seq fun K7 hK7 => ?_
  refine Wc.region (by decide +kernel) ?_
  refine lex.pure (v := .pointer (some ((⟨g3, 0, none⟩ : Addr).add 0))) (pu_field (sz := 1) Try.underlying24 rfl Try.sizeOf3 (by decide) rfl rfl) ?_
  refine lex.val (v := .int .i64 b_0_0) (ld_fld (hC.bx (i := 0) rfl) Try.isAgg3 rfl rfl) ?_
  refine lex.pure (v := .bool (decide (b_0_0 < 1))) (pu_lss (k := .i64) (a := b_0_0) (b := 1) rfl rfl) ?_
  refine lex.pure (v := .bool (decide (b_0_0 < 1))) (pu_move rfl) ?_
  rcases bS (decide (b_0_0 < 1)) with hq8 | hq8
  · replace hb := (cT hq8).symm.trans hb
    refine lex.gskip (want_f rfl rfl (show _ = Value.bool (decide (b_0_0 < 1)) from rfl) hq8) ?_
    refine lex.gskip (want_f rfl rfl (show _ = Value.bool (decide (b_0_0 < 1)) from rfl) hq8) ?_
    refine lex.gskip (want_f rfl rfl (show _ = Value.bool (decide (b_0_0 < 1)) from rfl) hq8) ?_
    refine lex.pure (v := .bool true) (pu_pickT (q := (decide (b_0_0 < 1))) rfl hq8 rfl) ?_
    refine lex.pure (v := .bool true) (pu_move rfl) ?_
    refine lex.gskip (want_f rfl rfl (show _ = Value.bool true from rfl) rfl) ?_
    refine lex.gskip (want_f rfl rfl (show _ = Value.bool true from rfl) rfl) ?_
    refine lex.gskip (want_f rfl rfl (show _ = Value.bool true from rfl) rfl) ?_
    refine lex.gskip (want_f rfl rfl (show _ = Value.bool true from rfl) rfl) ?_
    refine lex.pure (v := .bool true) (pu_pickT (q := true) rfl rfl rfl) ?_
    refine lex.nil ?_
    refine hK7 _ _ ?_
    refine Wc.cond_true (rfl) ?_
    refine Wc.seq fun K9 hK9 => ?_
    refine Wc.region (by decide +kernel) ?_
    refine lex.pure (v := .bool false) (pu_assign rfl) ?_
    refine lex.nil ?_
    refine hK9 _ _ ?_
    obtain rfl := Option.some.inj hb
    refine Wc.ret ?_
    refine hKR _ _ ?_
    refine ⟨_, res1 Try.results14 (show RV _ _ _ (.tmp _) (.bool false) from rfl), _, rfl, rfl, hC.sel [] (by decide)⟩
  · replace hb := (cF hq8).symm.trans hb
    refine lex.gpure (want_t rfl rfl (show _ = Value.bool (decide (b_0_0 < 1)) from rfl) hq8) (v := .pointer (some ((⟨g3, 0, none⟩ : Addr).add 0))) (pu_field (sz := 1) Try.underlying24 rfl Try.sizeOf3 (by decide) rfl rfl) ?_
    refine lex.gval (want_t rfl rfl (show _ = Value.bool (decide (b_0_0 < 1)) from rfl) hq8) (v := .int .i64 b_0_0) (ld_fld (hC.bx (i := 0) rfl) Try.isAgg3 rfl rfl) ?_
    refine lex.gpure (want_t rfl rfl (show _ = Value.bool (decide (b_0_0 < 1)) from rfl) hq8) (v := .bool (decide (10 < b_0_0))) (pu_gtr (k := .i64) (a := b_0_0) (b := 10) rfl rfl) ?_
    refine lex.pure (v := .bool (decide (10 < b_0_0))) (pu_pickF (q := (decide (b_0_0 < 1))) rfl hq8 rfl) ?_
    refine lex.pure (v := .bool (decide (10 < b_0_0))) (pu_move rfl) ?_
    rcases bS (decide (10 < b_0_0)) with hq10 | hq10
    · replace hb := (cT hq10).symm.trans hb
      refine lex.gskip (want_f rfl rfl (show _ = Value.bool (decide (10 < b_0_0)) from rfl) hq10) ?_
      refine lex.gskip (want_f rfl rfl (show _ = Value.bool (decide (10 < b_0_0)) from rfl) hq10) ?_
      refine lex.gskip (want_f rfl rfl (show _ = Value.bool (decide (10 < b_0_0)) from rfl) hq10) ?_
      refine lex.gskip (want_f rfl rfl (show _ = Value.bool (decide (10 < b_0_0)) from rfl) hq10) ?_
      refine lex.pure (v := .bool true) (pu_pickT (q := (decide (10 < b_0_0))) rfl hq10 rfl) ?_
      refine lex.nil ?_
      refine hK7 _ _ ?_
      refine Wc.cond_true (rfl) ?_
      refine Wc.seq fun K11 hK11 => ?_
      refine Wc.region (by decide +kernel) ?_
      refine lex.pure (v := .bool false) (pu_assign rfl) ?_
      refine lex.nil ?_
      refine hK11 _ _ ?_
      obtain rfl := Option.some.inj hb
      refine Wc.ret ?_
      refine hKR _ _ ?_
      refine ⟨_, res1 Try.results14 (show RV _ _ _ (.tmp _) (.bool false) from rfl), _, rfl, rfl, hC.sel [] (by decide)⟩
    · replace hb := (cF hq10).symm.trans hb
      refine lex.gpure (want_t rfl rfl (show _ = Value.bool (decide (10 < b_0_0)) from rfl) hq10) (v := .pointer (some ((⟨g3, 0, none⟩ : Addr).add 1))) (pu_field (sz := 1) Try.underlying24 rfl Try.sizeOf22 (by decide) rfl rfl) ?_
      refine lex.gval (want_t rfl rfl (show _ = Value.bool (decide (10 < b_0_0)) from rfl) hq10) (v := .slice Ab_0_1 b_0_1.length cb_0_1) (ld_fld (hC.bx (i := 0) rfl) Try.isAgg22 rfl rfl) ?_
      refine lex.gpure (want_t rfl rfl (show _ = Value.bool (decide (10 < b_0_0)) from rfl) hq10) (v := .int .i64 (b_0_1.length : Int)) (pu_len (A := Ab_0_1) (n := b_0_1.length) (m := cb_0_1) Try.underlying22 rfl) ?_
      refine lex.gpure (want_t rfl rfl (show _ = Value.bool (decide (10 < b_0_0)) from rfl) hq10) (v := .bool (decide (200 < (b_0_1.length : Int)))) (pu_gtr (k := .i64) (a := (b_0_1.length : Int)) (b := 200) rfl rfl) ?_
      refine lex.pure (v := .bool (decide (200 < (b_0_1.length : Int)))) (pu_pickF (q := (decide (10 < b_0_0))) rfl hq10 rfl) ?_
      refine lex.nil ?_
      refine hK7 _ _ ?_
      refine Wc.cond (t := (decide (200 < (b_0_1.length : Int)))) (rfl) (fun hq12 => ?_) (fun hq12 => ?_)
      · replace hb := (cT hq12).symm.trans hb
        refine Wc.seq fun K13 hK13 => ?_
        refine Wc.region (by decide +kernel) ?_
        refine lex.pure (v := .bool false) (pu_assign rfl) ?_
        refine lex.nil ?_
        refine hK13 _ _ ?_
        obtain rfl := Option.some.inj hb
        refine Wc.ret ?_
        refine hKR _ _ ?_
        refine ⟨_, res1 Try.results14 (show RV _ _ _ (.tmp _) (.bool false) from rfl), _, rfl, rfl, hC.sel [] (by decide)⟩
      · replace hb := (cF hq12).symm.trans hb
        refine Wc.skip ?_
        refine hK6 _ _ ?_
        refine Wc.fresh fun E14 hE => ?_
        have e1 : E14 1 = .pointer (some ⟨g3, 0, none⟩) := (congrFun hE 1).trans rfl
        have e2 : E14 2 = .bool false := (congrFun hE 2).trans rfl
        clear hE
        refine Wc.seq fun K15 hK15 => ?_
        refine Wc.seq fun K16 hK16 => ?_
        refine Wc.region (by decide +kernel) ?_
        refine lex.pure (v := .pointer (some ((⟨g3, 0, none⟩ : Addr).add 1))) (pu_field (sz := 1) Try.underlying24 rfl Try.sizeOf22 (by decide) rfl e1) ?_
        refine lex.val (v := .slice Ab_0_1 b_0_1.length cb_0_1) (ld_fld (hC.bx (i := 0) rfl) Try.isAgg22 rfl rfl) ?_
        refine lex.pure (v := .int .i64 (b_0_1.length : Int)) (pu_len (A := Ab_0_1) (n := b_0_1.length) (m := cb_0_1) Try.underlying22 rfl) ?_
        refine lex.pure (v := .int .i64 0) (pu_move rfl) ?_
        refine lex.nil ?_
        refine hK16 _ _ ?_
        obtain ⟨o17, hl0, hb⟩ := bd hb
        refine Wc.cut (fun E wv => ∃ (v22_0 : Int), E 2 = .bool false ∧ I64 v22_0 ∧ Cx (fun _ => False) O0 w wv [] ∧ (some true : Option (Bool)) = some r) (fun K18 hK18 => ?_) ?_
        · refine Wc.block ?_
          refine Wc.loop (fun m E wv => ∃ (v22_0 : Int), E 1 = .pointer (some ⟨g3, 0, none⟩) ∧ E 2 = .bool false ∧ E 20 = .slice Ab_0_1 b_0_1.length cb_0_1 ∧ E 21 = .int .i64 (b_0_1.length : Int) ∧ E 22 = .int .i64 v22_0 ∧ I64 v22_0 ∧ Cx (fun _ => False) O0 w wv [.box g3 24 [.int .i64 b_0_0, .slice Ab_0_1 b_0_1.length cb_0_1], .ro (.sl (.int .i64)) [.slice Ab_0_1 b_0_1.length cb_0_1] b_0_1] ∧ loopN m (F.braid_Valid_b0 n b_0_0 b_0_1) v22_0 = some o17) n ⟨0, e1, e2, rfl, rfl, rfl, (show I64 0 from by unfold I64; omega), hC.sel [0, 1] (by decide), hl0⟩ ?_
          have hbK0 := hb
          clear hb hC hl0
          rintro m20 E22 w21 ⟨v22_0, e1, e2, e20, e21, e22, hrv22_0, hC, hl0⟩ K19 hK19
          obtain ⟨m20', o23, rfl, hb, hl0⟩ := loopN_some hl0
          unfold F.braid_Valid_b0 at hb
          refine Wc.seq fun K24 hK24 => ?_
          refine Wc.region (by decide +kernel) ?_
          refine lex.pure (v := .bool (decide (v22_0 < (b_0_1.length : Int)))) (pu_lss (k := .i64) (a := v22_0) (b := (b_0_1.length : Int)) e22 e21) ?_
          refine lex.nil ?_
          refine hK24 _ _ ?_
          refine Wc.seq fun K25 hK25 => ?_
          refine Wc.cond (t := (decide (v22_0 < (b_0_1.length : Int)))) (rfl) (fun hq26 => ?_) (fun hq26 => ?_)
          · replace hb := (cT hq26).symm.trans hb
            refine Wc.skip ?_
            refine hK25 _ _ ?_
            refine Wc.seq fun K27 hK27 => ?_
            refine Wc.block ?_
            refine Wc.seq fun K28 hK28 => ?_
            refine Wc.region (by decide +kernel) ?_
            obtain ⟨x29, h30, hb⟩ := bd hb
            obtain ⟨ad31, cs32, hA, hc33, hr34⟩ := hC.elr (i := 1) rfl (get_some h30).2
            subst hA
            refine lex.pure (v := .pointer (some (ad31.add (v22_0.toNat * 1)))) (pu_index (a := v22_0) Try.underlying22 Try.sizeOf3 e20 e22 (get_some h30).1) ?_
            obtain ⟨rfl, hr34'⟩ := hr34
            refine lex.val (v := .int .i64 x29) (ld_one Try.isAgg3 rfl (hc33 0 _ rfl)) ?_
            refine lex.pure (v := .int .i64 x29) (pu_assign rfl) ?_
            refine lex.nil ?_
            refine hK28 _ _ ?_
            refine Wc.seq fun K35 hK35 => ?_
            refine Wc.region (by decide +kernel) ?_
            refine lex.pure (v := .int .i64 x29) (pu_move rfl) ?_
            refine lex.pure (v := .bool (decide (x29 = 0))) (pu_eql (k := .i64) (a := x29) (b := 0) rfl rfl) ?_
            refine lex.pure (v := .bool (decide (x29 = 0))) (pu_move rfl) ?_
            rcases bS (decide (x29 = 0)) with hq36 | hq36
            · replace hb := (cT hq36).symm.trans hb
              refine lex.gskip (want_f rfl rfl (show _ = Value.bool (decide (x29 = 0)) from rfl) hq36) ?_
              refine lex.gskip (want_f rfl rfl (show _ = Value.bool (decide (x29 = 0)) from rfl) hq36) ?_
              refine lex.gskip (want_f rfl rfl (show _ = Value.bool (decide (x29 = 0)) from rfl) hq36) ?_
              refine lex.gskip (want_f rfl rfl (show _ = Value.bool (decide (x29 = 0)) from rfl) hq36) ?_
              refine lex.gskip (want_f rfl rfl (show _ = Value.bool (decide (x29 = 0)) from rfl) hq36) ?_
              refine lex.pure (v := .bool true) (pu_pickT (q := (decide (x29 = 0))) rfl hq36 rfl) ?_
              refine lex.pure (v := .bool true) (pu_move rfl) ?_
              refine lex.gskip (want_f rfl rfl (show _ = Value.bool true from rfl) rfl) ?_
              refine lex.gskip (want_f rfl rfl (show _ = Value.bool true from rfl) rfl) ?_
              refine lex.gskip (want_f rfl rfl (show _ = Value.bool true from rfl) rfl) ?_
              refine lex.gskip (want_f rfl rfl (show _ = Value.bool true from rfl) rfl) ?_
              refine lex.pure (v := .bool true) (pu_pickT (q := true) rfl rfl rfl) ?_
              refine lex.nil ?_
              refine hK35 _ _ ?_
              refine Wc.cond_true (rfl) ?_
              refine Wc.seq fun K37 hK37 => ?_
              refine Wc.region (by decide +kernel) ?_
              refine lex.pure (v := .bool false) (pu_assign rfl) ?_
              refine lex.nil ?_
              refine hK37 _ _ ?_
              obtain rfl := Option.some.inj hb
              obtain rfl := (lX hl0).symm
              replace hb := hbK0
              obtain rfl := Option.some.inj hb
              refine Wc.ret ?_
              refine hKR _ _ ?_
              refine ⟨_, res1 Try.results14 (show RV _ _ _ (.tmp _) (.bool false) from rfl), _, rfl, rfl, hC.sel [] (by decide)⟩
            · replace hb := (cF hq36).symm.trans hb
              refine lex.gpure (want_t rfl rfl (show _ = Value.bool (decide (x29 = 0)) from rfl) hq36) (v := .int .i64 x29) (pu_move rfl) ?_
              refine lex.gpure (want_t rfl rfl (show _ = Value.bool (decide (x29 = 0)) from rfl) hq36) (v := .pointer (some ((⟨g3, 0, none⟩ : Addr).add 0))) (pu_field (sz := 1) Try.underlying24 rfl Try.sizeOf3 (by decide) rfl e1) ?_
              refine lex.gval (want_t rfl rfl (show _ = Value.bool (decide (x29 = 0)) from rfl) hq36) (v := .int .i64 b_0_0) (ld_fld (hC.bx (i := 0) rfl) Try.isAgg3 rfl rfl) ?_
              obtain ⟨z38, h39, hb⟩ := bd hb
              refine lex.gpure (want_t rfl rfl (show _ = Value.bool (decide (x29 = 0)) from rfl) hq36) (v := .int .i64 z38) (pu_negc (a := b_0_0) rfl h39) ?_
              refine lex.gpure (want_t rfl rfl (show _ = Value.bool (decide (x29 = 0)) from rfl) hq36) (v := .bool (decide (x29 ≤ z38))) (pu_leq (k := .i64) (a := x29) (b := z38) rfl rfl) ?_
              refine lex.pure (v := .bool (decide (x29 ≤ z38))) (pu_pickF (q := (decide (x29 = 0))) rfl hq36 rfl) ?_
              refine lex.pure (v := .bool (decide (x29 ≤ z38))) (pu_move rfl) ?_
              rcases bS (decide (x29 ≤ z38)) with hq40 | hq40
              · replace hb := (cT hq40).symm.trans hb
                refine lex.gskip (want_f rfl rfl (show _ = Value.bool (decide (x29 ≤ z38)) from rfl) hq40) ?_
                refine lex.gskip (want_f rfl rfl (show _ = Value.bool (decide (x29 ≤ z38)) from rfl) hq40) ?_
                refine lex.gskip (want_f rfl rfl (show _ = Value.bool (decide (x29 ≤ z38)) from rfl) hq40) ?_
                refine lex.gskip (want_f rfl rfl (show _ = Value.bool (decide (x29 ≤ z38)) from rfl) hq40) ?_
                refine lex.pure (v := .bool true) (pu_pickT (q := (decide (x29 ≤ z38))) rfl hq40 rfl) ?_
                refine lex.nil ?_
                refine hK35 _ _ ?_
                refine Wc.cond_true (rfl) ?_
                refine Wc.seq fun K41 hK41 => ?_
                refine Wc.region (by decide +kernel) ?_
                refine lex.pure (v := .bool false) (pu_assign rfl) ?_
                refine lex.nil ?_
                refine hK41 _ _ ?_
                obtain rfl := Option.some.inj hb
                obtain rfl := (lX hl0).symm
                replace hb := hbK0
                obtain rfl := Option.some.inj hb
                refine Wc.ret ?_
                refine hKR _ _ ?_
                refine ⟨_, res1 Try.results14 (show RV _ _ _ (.tmp _) (.bool false) from rfl), _, rfl, rfl, hC.sel [] (by decide)⟩
              · replace hb := (cF hq40).symm.trans hb
                refine lex.gpure (want_t rfl rfl (show _ = Value.bool (decide (x29 ≤ z38)) from rfl) hq40) (v := .int .i64 x29) (pu_move rfl) ?_
                refine lex.gpure (want_t rfl rfl (show _ = Value.bool (decide (x29 ≤ z38)) from rfl) hq40) (v := .pointer (some ((⟨g3, 0, none⟩ : Addr).add 0))) (pu_field (sz := 1) Try.underlying24 rfl Try.sizeOf3 (by decide) rfl e1) ?_
                refine lex.gval (want_t rfl rfl (show _ = Value.bool (decide (x29 ≤ z38)) from rfl) hq40) (v := .int .i64 b_0_0) (ld_fld (hC.bx (i := 0) rfl) Try.isAgg3 rfl rfl) ?_
                refine lex.gpure (want_t rfl rfl (show _ = Value.bool (decide (x29 ≤ z38)) from rfl) hq40) (v := .bool (decide (b_0_0 ≤ x29))) (pu_geq (k := .i64) (a := x29) (b := b_0_0) rfl rfl) ?_
                refine lex.pure (v := .bool (decide (b_0_0 ≤ x29))) (pu_pickF (q := (decide (x29 ≤ z38))) rfl hq40 rfl) ?_
                refine lex.nil ?_
                refine hK35 _ _ ?_
                refine Wc.cond (t := (decide (b_0_0 ≤ x29))) (rfl) (fun hq42 => ?_) (fun hq42 => ?_)
                · replace hb := (cT hq42).symm.trans hb
                  refine Wc.seq fun K43 hK43 => ?_
                  refine Wc.region (by decide +kernel) ?_
                  refine lex.pure (v := .bool false) (pu_assign rfl) ?_
                  refine lex.nil ?_
                  refine hK43 _ _ ?_
                  obtain rfl := Option.some.inj hb
                  obtain rfl := (lX hl0).symm
                  replace hb := hbK0
                  obtain rfl := Option.some.inj hb
                  refine Wc.ret ?_
                  refine hKR _ _ ?_
                  refine ⟨_, res1 Try.results14 (show RV _ _ _ (.tmp _) (.bool false) from rfl), _, rfl, rfl, hC.sel [] (by decide)⟩
                · replace hb := (cF hq42).symm.trans hb
                  refine Wc.skip ?_
                  refine hK27 _ _ ?_
                  refine Wc.region (by decide +kernel) ?_
                  obtain ⟨z44, h45, hb⟩ := bd hb
                  refine lex.pure (v := .int .i64 z44) (pu_addc (a := v22_0) (b := 1) e22 rfl h45) ?_
                  refine lex.pure (v := .int .i64 z44) (pu_move rfl) ?_
                  refine lex.nil ?_
                  obtain rfl := Option.some.inj hb
                  exact hK19 m20' _ _ (Nat.lt_succ_self _) ⟨z44, e1, e2, e20, e21, rfl, (chk_rng h45), hC.sel [0, 1] (by decide), lN hl0⟩
          · replace hb := (cF hq26).symm.trans hb
            refine Wc.exit rfl ?_
            obtain rfl := Option.some.inj hb
            obtain rfl := (lX hl0).symm
            exact hK18 _ _ ⟨v22_0, e2, hrv22_0, hC.sel [] (by decide), hbK0⟩
        · clear hb hC hl0
          rintro E47 w46 ⟨v22_0, e2, hrv22_0, hC, hb⟩
          refine hK15 _ _ ?_
          refine Wc.seq fun K48 hK48 => ?_
          refine Wc.region (by decide +kernel) ?_
          refine lex.pure (v := .bool true) (pu_assign rfl) ?_
          refine lex.nil ?_
          refine hK48 _ _ ?_
          obtain rfl := Option.some.inj hb
          refine Wc.ret ?_
          refine hKR _ _ ?_
          refine ⟨_, res1 Try.results14 (show RV _ _ _ (.tmp _) (.bool true) from rfl), _, rfl, rfl, hC.sel [] (by decide)⟩

set_option maxRecDepth 100000 in
set_option maxHeartbeats 4000000 in
theorem garside_halfTwist_ok (n : Nat) {w : World} {O0 : List Nat} (hO : ∀ k ∈ O0, k < w.heap.size) {nx_0 : Int} (hnx_0 : I64 nx_0) {r : (List Int)} (hb : F.garside_halfTwist n nx_0 = some r) :
    Calls Try.prog 39 #[.int .i64 nx_0] w fun e w' => ∃ v, e = .returned v ∧ ∃ (A0 : Option Addr) (m0 c0 : Nat), v = .slice A0 m0 c0 ∧ Cx (fun _ => False) O0 w w' [.own 3 (.int .i64) (.slice A0 m0 c0) r] := by
  unfold F.garside_halfTwist at hb
  have hC := Cx.start hO
  clear hO
  refine calls_of_Wc Try.func39 rfl (by rw [Try.ntmps39]; exact Nat.le_of_ble_eq_true rfl) fun KR hKR => ?_
  refine Wc.seq fun K1 hK1 => ?_
  refine Wc.region (by decide +kernel) ?_
  refine lex.pure (v := .slice none 0 0) (pu_assign rfl) ?_
  refine lex.nil ?_
  refine hK1 _ _ ?_
  refine Wc.seq fun K2 hK2 => ?_
  refine Wc.region (by decide +kernel) ?_
  refine lex.pure (v := .int .i64 nx_0) (pu_move rfl) ?_
  obtain ⟨u3, h4, hb⟩ := bd hb
  refine lex.op (hC.make (s := (.int .i64)) (n := nx_0) Try.underlying43 Try.type3 rfl rfl rfl rfl rfl (pos_some h4).1 (pos_some h4).2 (by decide)) ?_
  rintro _ w9 ⟨A5, c6, rfl, hl7, hc8, hC, hF, hN⟩
  clear hF hN
  refine lex.pure (v := .slice A5 (((List.replicate nx_0.toNat (0 : Int))).length) c6) (pu_assign rfl) ?_
  refine lex.nil ?_
  refine hK2 _ _ ?_
  refine Wc.seq fun K11 hK11 => ?_
  refine Wc.seq fun K12 hK12 => ?_
  refine Wc.region (by decide +kernel) ?_
  refine lex.pure (v := .slice A5 (((List.replicate nx_0.toNat (0 : Int))).length) c6) (pu_move rfl) ?_
  refine lex.pure (v := .int .i64 (((List.replicate nx_0.toNat (0 : Int))).length : Int)) (pu_len (A := A5) (n := ((List.replicate nx_0.toNat (0 : Int))).length) (m := c6) Try.underlying43 rfl) ?_
  refine lex.pure (v := .int .i64 0) (pu_move rfl) ?_
  refine lex.nil ?_
  refine hK12 _ _ ?_
  obtain ⟨o13, hl0, hb⟩ := bd hb
  refine Wc.cut (fun E wv => ∃ (v9_0 : Int) (qf10_0 : List Int), E 2 = .slice none 0 0 ∧ E 3 = .slice A5 (((List.replicate nx_0.toNat (0 : Int))).length) c6 ∧ I64 v9_0 ∧ Cx (fun _ => False) O0 w wv [.own 3 (.int .i64) (.slice A5 (((List.replicate nx_0.toNat (0 : Int))).length) c6) qf10_0] ∧ (some qf10_0 : Option ((List Int))) = some r) (fun K14 hK14 => ?_) ?_
  · refine Wc.block ?_
    refine Wc.loop (fun m E wv => ∃ (v9_0 : Int) (qf10_0 : List Int), E 0 = .int .i64 nx_0 ∧ E 2 = .slice none 0 0 ∧ E 3 = .slice A5 (((List.replicate nx_0.toNat (0 : Int))).length) c6 ∧ E 8 = .int .i64 (((List.replicate nx_0.toNat (0 : Int))).length : Int) ∧ E 9 = .int .i64 v9_0 ∧ I64 v9_0 ∧ Cx (fun _ => False) O0 w wv [.own 3 (.int .i64) (.slice A5 (((List.replicate nx_0.toNat (0 : Int))).length) c6) qf10_0] ∧ loopN m (F.garside_halfTwist_b0 n nx_0) (v9_0, qf10_0) = some o13) n ⟨0, (List.replicate nx_0.toNat (0 : Int)), rfl, rfl, rfl, rfl, rfl, (show I64 0 from by unfold I64; omega), hC.sel [0] (by decide), hl0⟩ ?_
    have hbK0 := hb
    clear hb hC hl0
    rintro m16 E18 w17 ⟨v9_0, qf10_0, e0, e2, e3, e8, e9, hrv9_0, hC, hl0⟩ K15 hK15
    obtain ⟨m16', o19, rfl, hb, hl0⟩ := loopN_some hl0
    unfold F.garside_halfTwist_b0 at hb
    refine Wc.seq fun K20 hK20 => ?_
    refine Wc.region (by decide +kernel) ?_
    refine lex.pure (v := .bool (decide (v9_0 < (((List.replicate nx_0.toNat (0 : Int))).length : Int)))) (pu_lss (k := .i64) (a := v9_0) (b := (((List.replicate nx_0.toNat (0 : Int))).length : Int)) e9 e8) ?_
    refine lex.nil ?_
    refine hK20 _ _ ?_
    refine Wc.seq fun K21 hK21 => ?_
    refine Wc.cond (t := (decide (v9_0 < (((List.replicate nx_0.toNat (0 : Int))).length : Int)))) (rfl) (fun hq22 => ?_) (fun hq22 => ?_)
    · replace hb := (cT hq22).symm.trans hb
      refine Wc.skip ?_
      refine hK21 _ _ ?_
      refine Wc.seq fun K23 hK23 => ?_
      refine Wc.block ?_
      refine Wc.seq fun K24 hK24 => ?_
      refine Wc.region (by decide +kernel) ?_
      refine lex.pure (v := .int .i64 v9_0) (pu_move e9) ?_
      refine lex.pure (v := .int .i64 v9_0) (pu_assign rfl) ?_
      refine lex.nil ?_
      refine hK24 _ _ ?_
      refine Wc.region (by decide +kernel) ?_
      refine lex.pure (v := .slice A5 (((List.replicate nx_0.toNat (0 : Int))).length) c6) (pu_move e3) ?_
      refine lex.pure (v := .int .i64 v9_0) (pu_move rfl) ?_
      refine lex.pure (v := .int .i64 nx_0) (pu_move e0) ?_
      obtain ⟨z25, h26, hb⟩ := bd hb
      refine lex.pure (v := .int .i64 z25) (pu_subc (a := nx_0) (b := 1) rfl rfl h26) ?_
      refine lex.pure (v := .int .i64 v9_0) (pu_move rfl) ?_
      obtain ⟨z27, h28, hb⟩ := bd hb
      refine lex.pure (v := .int .i64 z27) (pu_subc (a := z25) (b := v9_0) rfl rfl h28) ?_
      obtain ⟨x29, h30, hb⟩ := bd hb
      obtain ⟨ad31, cs32, hA, hc33, hr34⟩ := hC.elo (i := 0) rfl (get_some h30).2
      subst hA
      refine lex.pure (v := .pointer (some (ad31.add (v9_0.toNat * 1)))) (pu_index (a := v9_0) Try.underlying43 Try.sizeOf3 rfl rfl (by rw [(hC.ow (i := 0) rfl).sl_len.1]; exact (get_some h30).1)) ?_
      refine lex.sk (hC.put (i := 0) rfl rfl Try.sizeOf3 (k := v9_0.toNat) (a := z27) (by have := (get_some h30).1; simp at this ⊢; omega) (⟨rfl, I64.wr (chk_rng h28)⟩) rfl rfl rfl) ?_
      rintro w35 ⟨hC, hF⟩
      refine lex.nil ?_
      refine hK23 _ _ ?_
      refine Wc.region (by decide +kernel) ?_
      obtain ⟨z36, h37, hb⟩ := bd hb
      refine lex.pure (v := .int .i64 z36) (pu_addc (a := v9_0) (b := 1) e9 rfl h37) ?_
      refine lex.pure (v := .int .i64 z36) (pu_move rfl) ?_
      refine lex.nil ?_
      obtain rfl := Option.some.inj hb
      exact hK15 m16' _ _ (Nat.lt_succ_self _) ⟨z36, (qf10_0.set v9_0.toNat z27), e0, e2, e3, e8, rfl, (chk_rng h37), hC.sel [0] (by decide), lN hl0⟩
    · replace hb := (cF hq22).symm.trans hb
      refine Wc.exit rfl ?_
      obtain rfl := Option.some.inj hb
      obtain rfl := (lX hl0).symm
      exact hK14 _ _ ⟨v9_0, qf10_0, e2, e3, hrv9_0, hC.sel [0] (by decide), hbK0⟩
  · clear hb hC hl0
    rintro E39 w38 ⟨v9_0, qf10_0, e2, e3, hrv9_0, hC, hb⟩
    refine hK11 _ _ ?_
    refine Wc.seq fun K40 hK40 => ?_
    refine Wc.region (by decide +kernel) ?_
    refine lex.pure (v := .slice A5 (((List.replicate nx_0.toNat (0 : Int))).length) c6) (pu_move e3) ?_
    refine lex.pure (v := .slice A5 (((List.replicate nx_0.toNat (0 : Int))).length) c6) (pu_assign rfl) ?_
    refine lex.nil ?_
    refine hK40 _ _ ?_
    obtain rfl := Option.some.inj hb
    refine Wc.ret ?_
    refine hKR _ _ ?_
    refine ⟨_, res1 Try.results39 (show RV _ _ _ (.tmp _) (.slice A5 (((List.replicate nx_0.toNat (0 : Int))).length) c6) from rfl), _, rfl, A5, ((List.replicate nx_0.toNat (0 : Int))).length, c6, rfl, hC.sel [0] (by decide)⟩

set_option maxRecDepth 100000 in
set_option maxHeartbeats 4000000 in
theorem garside_identity_ok (n : Nat) {w : World} {O0 : List Nat} (hO : ∀ k ∈ O0, k < w.heap.size) {nx_0 : Int} (hnx_0 : I64 nx_0) {r : (List Int)} (hb : F.garside_identity n nx_0 = some r) :
    Calls Try.prog 40 #[.int .i64 nx_0] w fun e w' => ∃ v, e = .returned v ∧ ∃ (A0 : Option Addr) (m0 c0 : Nat), v = .slice A0 m0 c0 ∧ Cx (fun _ => False) O0 w w' [.own 3 (.int .i64) (.slice A0 m0 c0) r] := by
  unfold F.garside_identity at hb
  have hC := Cx.start hO
  clear hO
  refine calls_of_Wc Try.func40 rfl (by rw [Try.ntmps40]; exact Nat.le_of_ble_eq_true rfl) fun KR hKR => ?_
  refine Wc.seq fun K1 hK1 => ?_
  refine Wc.region (by decide +kernel) ?_
  refine lex.pure (v := .slice none 0 0) (pu_assign rfl) ?_
  refine lex.nil ?_
  refine hK1 _ _ ?_
  refine Wc.seq fun K2 hK2 => ?_
  refine Wc.region (by decide +kernel) ?_
  refine lex.pure (v := .int .i64 nx_0) (pu_move rfl) ?_
  obtain ⟨u3, h4, hb⟩ := bd hb
  refine lex.op (hC.make (s := (.int .i64)) (n := nx_0) Try.underlying43 Try.type3 rfl rfl rfl rfl rfl (pos_some h4).1 (pos_some h4).2 (by decide)) ?_
  rintro _ w9 ⟨A5, c6, rfl, hl7, hc8, hC, hF, hN⟩
  clear hF hN
  refine lex.pure (v := .slice A5 (((List.replicate nx_0.toNat (0 : Int))).length) c6) (pu_assign rfl) ?_
  refine lex.nil ?_
  refine hK2 _ _ ?_
  refine Wc.seq fun K11 hK11 => ?_
  refine Wc.seq fun K12 hK12 => ?_
  refine Wc.region (by decide +kernel) ?_
  refine lex.pure (v := .slice A5 (((List.replicate nx_0.toNat (0 : Int))).length) c6) (pu_move rfl) ?_
  refine lex.pure (v := .int .i64 (((List.replicate nx_0.toNat (0 : Int))).length : Int)) (pu_len (A := A5) (n := ((List.replicate nx_0.toNat (0 : Int))).length) (m := c6) Try.underlying43 rfl) ?_
  refine lex.pure (v := .int .i64 0) (pu_move rfl) ?_
  refine lex.nil ?_
  refine hK12 _ _ ?_
  obtain ⟨o13, hl0, hb⟩ := bd hb
  refine Wc.cut (fun E wv => ∃ (v9_0 : Int) (qf10_0 : List Int), E 2 = .slice none 0 0 ∧ E 3 = .slice A5 (((List.replicate nx_0.toNat (0 : Int))).length) c6 ∧ I64 v9_0 ∧ Cx (fun _ => False) O0 w wv [.own 3 (.int .i64) (.slice A5 (((List.replicate nx_0.toNat (0 : Int))).length) c6) qf10_0] ∧ (some qf10_0 : Option ((List Int))) = some r) (fun K14 hK14 => ?_) ?_
  · refine Wc.block ?_
    refine Wc.loop (fun m E wv => ∃ (v9_0 : Int) (qf10_0 : List Int), E 2 = .slice none 0 0 ∧ E 3 = .slice A5 (((List.replicate nx_0.toNat (0 : Int))).length) c6 ∧ E 8 = .int .i64 (((List.replicate nx_0.toNat (0 : Int))).length : Int) ∧ E 9 = .int .i64 v9_0 ∧ I64 v9_0 ∧ Cx (fun _ => False) O0 w wv [.own 3 (.int .i64) (.slice A5 (((List.replicate nx_0.toNat (0 : Int))).length) c6) qf10_0] ∧ loopN m (F.garside_identity_b0 n nx_0) (v9_0, qf10_0) = some o13) n ⟨0, (List.replicate nx_0.toNat (0 : Int)), rfl, rfl, rfl, rfl, (show I64 0 from by unfold I64; omega), hC.sel [0] (by decide), hl0⟩ ?_
    have hbK0 := hb
    clear hb hC hl0
    rintro m16 E18 w17 ⟨v9_0, qf10_0, e2, e3, e8, e9, hrv9_0, hC, hl0⟩ K15 hK15
    obtain ⟨m16', o19, rfl, hb, hl0⟩ := loopN_some hl0
    unfold F.garside_identity_b0 at hb
    refine Wc.seq fun K20 hK20 => ?_
    refine Wc.region (by decide +kernel) ?_
    refine lex.pure (v := .bool (decide (v9_0 < (((List.replicate nx_0.toNat (0 : Int))).length : Int)))) (pu_lss (k := .i64) (a := v9_0) (b := (((List.replicate nx_0.toNat (0 : Int))).length : Int)) e9 e8) ?_
    refine lex.nil ?_
    refine hK20 _ _ ?_
    refine Wc.seq fun K21 hK21 => ?_
    refine Wc.cond (t := (decide (v9_0 < (((List.replicate nx_0.toNat (0 : Int))).length : Int)))) (rfl) (fun hq22 => ?_) (fun hq22 => ?_)
    · replace hb := (cT hq22).symm.trans hb
      refine Wc.skip ?_
      refine hK21 _ _ ?_
      refine Wc.seq fun K23 hK23 => ?_
      refine Wc.block ?_
      refine Wc.seq fun K24 hK24 => ?_
      refine Wc.region (by decide +kernel) ?_
      refine lex.pure (v := .int .i64 v9_0) (pu_move e9) ?_
      refine lex.pure (v := .int .i64 v9_0) (pu_assign rfl) ?_
      refine lex.nil ?_
      refine hK24 _ _ ?_
      refine Wc.region (by decide +kernel) ?_
      refine lex.pure (v := .slice A5 (((List.replicate nx_0.toNat (0 : Int))).length) c6) (pu_move e3) ?_
      refine lex.pure (v := .int .i64 v9_0) (pu_move rfl) ?_
      refine lex.pure (v := .int .i64 v9_0) (pu_move rfl) ?_
      obtain ⟨x25, h26, hb⟩ := bd hb
      obtain ⟨ad27, cs28, hA, hc29, hr30⟩ := hC.elo (i := 0) rfl (get_some h26).2
      subst hA
      refine lex.pure (v := .pointer (some (ad27.add (v9_0.toNat * 1)))) (pu_index (a := v9_0) Try.underlying43 Try.sizeOf3 rfl rfl (by rw [(hC.ow (i := 0) rfl).sl_len.1]; exact (get_some h26).1)) ?_
      refine lex.sk (hC.put (i := 0) rfl rfl Try.sizeOf3 (k := v9_0.toNat) (a := v9_0) (by have := (get_some h26).1; simp at this ⊢; omega) (⟨rfl, I64.wr hrv9_0⟩) rfl rfl rfl) ?_
      rintro w31 ⟨hC, hF⟩
      refine lex.nil ?_
      refine hK23 _ _ ?_
      refine Wc.region (by decide +kernel) ?_
      obtain ⟨z32, h33, hb⟩ := bd hb
      refine lex.pure (v := .int .i64 z32) (pu_addc (a := v9_0) (b := 1) e9 rfl h33) ?_
      refine lex.pure (v := .int .i64 z32) (pu_move rfl) ?_
      refine lex.nil ?_
      obtain rfl := Option.some.inj hb
      exact hK15 m16' _ _ (Nat.lt_succ_self _) ⟨z32, (qf10_0.set v9_0.toNat v9_0), e2, e3, e8, rfl, (chk_rng h33), hC.sel [0] (by decide), lN hl0⟩
    · replace hb := (cF hq22).symm.trans hb
      refine Wc.exit rfl ?_
      obtain rfl := Option.some.inj hb
      obtain rfl := (lX hl0).symm
      exact hK14 _ _ ⟨v9_0, qf10_0, e2, e3, hrv9_0, hC.sel [0] (by decide), hbK0⟩
  · clear hb hC hl0
    rintro E35 w34 ⟨v9_0, qf10_0, e2, e3, hrv9_0, hC, hb⟩
    refine hK11 _ _ ?_
    refine Wc.seq fun K36 hK36 => ?_
    refine Wc.region (by decide +kernel) ?_
    refine lex.pure (v := .slice A5 (((List.replicate nx_0.toNat (0 : Int))).length) c6) (pu_move e3) ?_
    refine lex.pure (v := .slice A5 (((List.replicate nx_0.toNat (0 : Int))).length) c6) (pu_assign rfl) ?_
    refine lex.nil ?_
    refine hK36 _ _ ?_
    obtain rfl := Option.some.inj hb
    refine Wc.ret ?_
    refine hKR _ _ ?_
    refine ⟨_, res1 Try.results40 (show RV _ _ _ (.tmp _) (.slice A5 (((List.replicate nx_0.toNat (0 : Int))).length) c6) from rfl), _, rfl, A5, ((List.replicate nx_0.toNat (0 : Int))).length, c6, rfl, hC.sel [0] (by decide)⟩

set_option maxRecDepth 100000 in
set_option maxHeartbeats 4000000 in
theorem slices_Reverse_Perm_int_ok (n : Nat) {w : World} {O0 : List Nat} (hO : ∀ k ∈ O0, k < w.heap.size) {As_0 : Option Addr} {ms_0 cs_0 : Nat} {s_0 : List Int} (hio : Tk O0 w [.own 3 (.int .i64) (.slice As_0 ms_0 cs_0) s_0]) {r : (List Int)} (hb : F.slices_Reverse_Perm_int n s_0 = some r) :
    Calls Try.prog 59 #[.slice As_0 ms_0 cs_0] w fun e w' => ∃ v, e = .returned v ∧ v = .tuple #[] ∧ Cx (fun k => k ∈ blocks [.own 3 (.int .i64) (.slice As_0 ms_0 cs_0) s_0]) O0 w w' [.own 3 (.int .i64) (.slice As_0 ms_0 cs_0) r] := by
  unfold F.slices_Reverse_Perm_int at hb
  have hC := Cx.startTk hO hio
  have hsub := hio.2.2
  clear hO
  obtain ⟨rfl, hls_0, hcs_0⟩ := (hC.ow (i := 0) rfl).sl_len
  clear hio hsub
  obtain ⟨I, hI, hC⟩ : ∃ I : Nat → Prop, I = (fun k => k ∈ blocks [.own 3 (.int .i64) (.slice As_0 s_0.length cs_0) s_0]) ∧ Cx I O0 w w ([.own 3 (.int .i64) (.slice As_0 s_0.length cs_0) s_0]) := ⟨_, rfl, hC⟩
  refine calls_of_Wc Try.func59 rfl (by rw [Try.ntmps59]; exact Nat.le_of_ble_eq_true rfl) fun KR hKR => ?_
  refine Wc.seq fun K2 hK2 => ?_
  refine Wc.region (by decide +kernel) ?_
  refine lex.pure (v := .slice As_0 s_0.length cs_0) (pu_move rfl) ?_
  refine lex.pure (v := .int .i64 (s_0.length : Int)) (pu_len (A := As_0) (n := s_0.length) (m := cs_0) Try.underlying43 rfl) ?_
  obtain ⟨z3, h4, hb⟩ := bd hb
  refine lex.pure (v := .int .i64 z3) (pu_subc (a := (s_0.length : Int)) (b := 1) rfl rfl h4) ?_
  refine lex.pure (v := .int .i64 0) (pu_assign rfl) ?_
  refine lex.pure (v := .int .i64 z3) (pu_assign rfl) ?_
  refine lex.nil ?_
  refine hK2 _ _ ?_
  obtain ⟨o5, hl0, hb⟩ := bd hb
  refine Wc.cut (fun E wv => ∃ (v2_0 : Int) (v3_0 : Int) (qf1_0 : List Int), I64 v2_0 ∧ I64 v3_0 ∧ Cx I O0 w wv [.own 3 (.int .i64) (.slice As_0 s_0.length cs_0) qf1_0] ∧ (some qf1_0 : Option ((List Int))) = some r) (fun K6 hK6 => ?_) ?_
  · refine Wc.block ?_
    refine Wc.loop (fun m E wv => ∃ (v2_0 : Int) (v3_0 : Int) (qf1_0 : List Int), E 0 = .slice As_0 s_0.length cs_0 ∧ E 2 = .int .i64 v2_0 ∧ E 3 = .int .i64 v3_0 ∧ I64 v2_0 ∧ I64 v3_0 ∧ Cx I O0 w wv [.own 3 (.int .i64) (.slice As_0 s_0.length cs_0) qf1_0] ∧ loopN m (F.slices_Reverse_Perm_int_b0 n) (v2_0, v3_0, qf1_0) = some o5) n ⟨0, z3, s_0, rfl, rfl, rfl, (show I64 0 from by unfold I64; omega), (chk_rng h4), hC.sel [0] (by decide), hl0⟩ ?_
    have hbK0 := hb
    clear hb hC hl0
    rintro m8 E10 w9 ⟨v2_0, v3_0, qf1_0, e0, e2, e3, hrv2_0, hrv3_0, hC, hl0⟩ K7 hK7
    obtain ⟨m8', o11, rfl, hb, hl0⟩ := loopN_some hl0
    unfold F.slices_Reverse_Perm_int_b0 at hb
    refine Wc.seq fun K12 hK12 => ?_
    refine Wc.seq fun K13 hK13 => ?_
    refine Wc.region (by decide +kernel) ?_
    refine lex.pure (v := .int .i64 v2_0) (pu_move e2) ?_
    refine lex.pure (v := .int .i64 v3_0) (pu_move e3) ?_
    refine lex.pure (v := .bool (decide (v2_0 < v3_0))) (pu_lss (k := .i64) (a := v2_0) (b := v3_0) rfl rfl) ?_
    refine lex.nil ?_
    refine hK13 _ _ ?_
    refine Wc.cond (t := (decide (v2_0 < v3_0))) (rfl) (fun hq14 => ?_) (fun hq14 => ?_)
    · replace hb := (cT hq14).symm.trans hb
      refine Wc.skip ?_
      refine hK12 _ _ ?_
      refine Wc.seq fun K15 hK15 => ?_
      refine Wc.block ?_
      refine Wc.regionMix [] (frm [] ([] : List Fact) [.own 3 (.int .i64) (.slice As_0 s_0.length cs_0) qf1_0]) (fun _ => rfl) mixed (by decide +kernel) (by decide +kernel) fun w17 hw16 => ?_
      replace hC := hC.step (Fr.of_drew hw16)
      have hM := Fr.refl (fun k => k ∈ blocks ([] : List Fact)) w17
      clear hw16
      have hS := hC
      have hD : Fr (fun k => k ∈ blocks (([] : List Fact) ++ [.own 3 (.int .i64) (.slice As_0 s_0.length cs_0) qf1_0])) w17 w17 := hM.wide
      have hUf1 : Beside (([] : List Fact) ++ [.own 3 (.int .i64) (.slice As_0 s_0.length cs_0) qf1_0]) w17 (.slice As_0 s_0.length cs_0) := Beside.of (i := 0) rfl
      refine mixE.pure (v := .slice As_0 s_0.length cs_0) (pu_move e0) ?_
      refine mixE.pure (v := .int .i64 v2_0) (pu_move e2) ?_
      refine mixE.pure (v := .slice As_0 s_0.length cs_0) (pu_move e0) ?_
      refine mixE.pure (v := .int .i64 v3_0) (pu_move e3) ?_
      refine mixE.pure (v := .slice As_0 s_0.length cs_0) (pu_move e0) ?_
      refine mixE.pure (v := .int .i64 v3_0) (pu_move e3) ?_
      obtain ⟨x18, h19, hb⟩ := bd hb
      obtain ⟨ad20, cs21, hA, ho24, hc22, hr23⟩ := hS.elo2 (i := 0) rfl (get_some h19).2 [] (by decide)
      subst hA
      refine mixE.pure (v := .pointer (some (ad20.add (v3_0.toNat * 1)))) (pu_index (a := v3_0) Try.underlying43 Try.sizeOf3 rfl rfl (by rw [(hC.ow (i := 0) rfl).sl_len.1]; exact (get_some h19).1)) ?_
      obtain ⟨rfl, hr23'⟩ := hr23
      refine mixE.load hM (v := .int .i64 x18) (fun _ hF => ld_one Try.isAgg3 rfl (hF.cell (hc22 0 _ rfl) (off1 ho24))) ?_
      refine mixE.pure (v := .slice (some ad20) s_0.length cs_0) (pu_move e0) ?_
      refine mixE.pure (v := .int .i64 v2_0) (pu_move e2) ?_
      obtain ⟨x25, h26, hb⟩ := bd hb
      obtain ⟨ad27, cs28, hA, ho31, hc29, hr30⟩ := hS.elo2 (i := 0) rfl (get_some h26).2 [] (by decide)
      obtain rfl := Option.some.inj hA
      refine mixE.pure (v := .pointer (some (ad20.add (v2_0.toNat * 1)))) (pu_index (a := v2_0) Try.underlying43 Try.sizeOf3 rfl rfl (by rw [(hC.ow (i := 0) rfl).sl_len.1]; exact (get_some h26).1)) ?_
      obtain ⟨rfl, hr30'⟩ := hr30
      refine mixE.load hM (v := .int .i64 x25) (fun _ hF => ld_one Try.isAgg3 rfl (hF.cell (hc29 0 _ rfl) (off1 ho31))) ?_
      obtain ⟨x32, h33, hb⟩ := bd hb
      obtain ⟨ad34, cs35, hA, ho38, hc36, hr37⟩ := hS.elo2 (i := 0) rfl (get_some h33).2 [] (by decide)
      obtain rfl := Option.some.inj hA
      refine mixE.pure (v := .pointer (some (ad20.add (v2_0.toNat * 1)))) (pu_index (a := v2_0) Try.underlying43 Try.sizeOf3 rfl rfl (by rw [(hC.ow (i := 0) rfl).sl_len.1]; exact (get_some h33).1)) ?_
      refine mixE.sk hD (hC.put (i := 0) rfl rfl Try.sizeOf3 (k := v2_0.toNat) (a := x18) (by have := (get_some h33).1; simp at this ⊢; omega) (⟨rfl, I64.wr (wrap_I64 hr23')⟩) rfl rfl rfl) ?_
      rintro w39 ⟨hC, hF⟩
      replace hD := hD.beside hUf1 hF
      clear hF
      refine ⟨hD, ?_⟩
      obtain ⟨x40, h41, hb⟩ := bd hb
      obtain ⟨ad42, cs43, hA, hc44, hr45⟩ := hC.elo (i := 0) rfl (get_some h41).2
      obtain rfl := Option.some.inj hA
      refine mixE.pure (v := .pointer (some (ad20.add (v3_0.toNat * 1)))) (pu_index (a := v3_0) Try.underlying43 Try.sizeOf3 rfl rfl (by rw [(hC.ow (i := 0) rfl).sl_len.1]; exact (get_some h41).1)) ?_
      refine mixE.sk hD (hC.put (i := 0) rfl rfl Try.sizeOf3 (k := v3_0.toNat) (a := x25) (by have := (get_some h41).1; simp at this ⊢; omega) (⟨rfl, I64.wr (wrap_I64 hr30')⟩) rfl rfl rfl) ?_
      rintro w46 ⟨hC, hF⟩
      replace hD := hD.beside hUf1 hF
      clear hF
      refine ⟨hD, ?_⟩
      refine mixE.nil ?_
      clear hS hM
      clear hD
      refine hK15 _ _ ?_
      refine Wc.fresh fun E47 hE => ?_
      have e0 : E47 0 = .slice (some ad20) s_0.length cs_0 := (congrFun hE 0).trans e0
      have e2 : E47 2 = .int .i64 v2_0 := (congrFun hE 2).trans e2
      have e3 : E47 3 = .int .i64 v3_0 := (congrFun hE 3).trans e3
      have e9 : E47 9 = .bool (decide (v2_0 < v3_0)) := (congrFun hE 9).trans rfl
      clear hE
      refine Wc.region (by decide +kernel) ?_
      refine lex.pure (v := .int .i64 v2_0) (pu_move e2) ?_
      obtain ⟨z48, h49, hb⟩ := bd hb
      refine lex.pure (v := .int .i64 z48) (pu_addc (a := v2_0) (b := 1) rfl rfl h49) ?_
      refine lex.pure (v := .int .i64 v3_0) (pu_move e3) ?_
      obtain ⟨z50, h51, hb⟩ := bd hb
      refine lex.pure (v := .int .i64 z50) (pu_subc (a := v3_0) (b := 1) rfl rfl h51) ?_
      refine lex.pure (v := .int .i64 z48) (pu_assign rfl) ?_
      refine lex.pure (v := .int .i64 z50) (pu_assign rfl) ?_
      refine lex.nil ?_
      obtain rfl := Option.some.inj hb
      exact hK7 m8' _ _ (Nat.lt_succ_self _) ⟨z48, z50, ((qf1_0.set v2_0.toNat x18).set v3_0.toNat x25), e0, rfl, rfl, (chk_rng h49), (chk_rng h51), hC.sel [0] (by decide), lN hl0⟩
    · replace hb := (cF hq14).symm.trans hb
      refine Wc.exit rfl ?_
      obtain rfl := Option.some.inj hb
      obtain rfl := (lX hl0).symm
      exact hK6 _ _ ⟨v2_0, v3_0, qf1_0, hrv2_0, hrv3_0, hC.sel [0] (by decide), hbK0⟩
  · clear hb hC hl0
    rintro E53 w52 ⟨v2_0, v3_0, qf1_0, hrv2_0, hrv3_0, hC, hb⟩
    obtain rfl := Option.some.inj hb
    subst hI
    refine hKR _ _ ?_
    refine ⟨_, res0 Try.results59, _, rfl, rfl, hC.sel [0] (by decide)⟩

set_option maxRecDepth 100000 in
set_option maxHeartbeats 4000000 in
theorem garside_turnAround_ok (n : Nat) {w : World} {O0 : List Nat} (hO : ∀ k ∈ O0, k < w.heap.size) {Ap_0 : Option Addr} {mp_0 cp_0 : Nat} {p_0 : List Int} (hio : Tk O0 w [.own 3 (.int .i64) (.slice Ap_0 mp_0 cp_0) p_0]) {r : (List Int)} (hb : F.garside_turnAround n p_0 = some r) :
    Calls Try.prog 41 #[.slice Ap_0 mp_0 cp_0] w fun e w' => ∃ v, e = .returned v ∧ v = .tuple #[] ∧ Cx (fun k => k ∈ blocks [.own 3 (.int .i64) (.slice Ap_0 mp_0 cp_0) p_0]) O0 w w' [.own 3 (.int .i64) (.slice Ap_0 mp_0 cp_0) r] := by
  unfold F.garside_turnAround at hb
  have hC := Cx.startTk hO hio
  have hsub := hio.2.2
  clear hO
  obtain ⟨rfl, hlp_0, hcp_0⟩ := (hC.ow (i := 0) rfl).sl_len
  clear hio hsub
  obtain ⟨I, hI, hC⟩ : ∃ I : Nat → Prop, I = (fun k => k ∈ blocks [.own 3 (.int .i64) (.slice Ap_0 p_0.length cp_0) p_0]) ∧ Cx I O0 w w ([.own 3 (.int .i64) (.slice Ap_0 p_0.length cp_0) p_0]) := ⟨_, rfl, hC⟩
  refine calls_of_Wc Try.func41 rfl (by rw [Try.ntmps41]; exact Nat.le_of_ble_eq_true rfl) fun KR hKR => ?_
  refine Wc.seq fun K2 hK2 => ?_
  refine Wc.region (by decide +kernel) ?_
  refine lex.pure (v := .slice Ap_0 p_0.length cp_0) (pu_move rfl) ?_
  replace hC : Cx I O0 w w ([.own 3 (.int .i64) (.slice Ap_0 p_0.length cp_0) p_0] ++ ([] : List Fact)) := hC.sel [0] (by decide)
  obtain ⟨y3, h4, hb⟩ := bd hb
  refine lex.cl (⟨_, _, op_call (vs := [.slice Ap_0 p_0.length cp_0]) Try.call59 rfl rfl rfl, slices_Reverse_Perm_int_ok n hC.lt hC.give h4⟩) ?_
  rintro _ w5 ⟨rfl, hK⟩
  replace hC := hC.back hK
  clear hK
  refine lex.nil ?_
  refine hK2 _ _ ?_
  refine Wc.seq fun K6 hK6 => ?_
  refine Wc.region (by decide +kernel) ?_
  refine lex.pure (v := .slice Ap_0 p_0.length cp_0) (pu_move rfl) ?_
  refine lex.pure (v := .int .i64 (p_0.length : Int)) (pu_len (A := Ap_0) (n := p_0.length) (m := cp_0) Try.underlying43 rfl) ?_
  refine lex.pure (v := .int .i64 0) (pu_move rfl) ?_
  refine lex.nil ?_
  refine hK6 _ _ ?_
  obtain ⟨o7, hl0, hb⟩ := bd hb
  refine Wc.cut (fun E wv => ∃ (v7_0 : Int) (qf1_0 : List Int), I64 v7_0 ∧ Cx I O0 w wv [.own 3 (.int .i64) (.slice Ap_0 p_0.length cp_0) qf1_0] ∧ (some qf1_0 : Option ((List Int))) = some r) (fun K8 hK8 => ?_) ?_
  · refine Wc.block ?_
    refine Wc.loop (fun m E wv => ∃ (v7_0 : Int) (qf1_0 : List Int), E 0 = .slice Ap_0 p_0.length cp_0 ∧ E 6 = .int .i64 (p_0.length : Int) ∧ E 7 = .int .i64 v7_0 ∧ I64 v7_0 ∧ Cx I O0 w wv [.own 3 (.int .i64) (.slice Ap_0 p_0.length cp_0) qf1_0] ∧ loopN m (F.garside_turnAround_b0 n p_0) (v7_0, qf1_0) = some o7) n ⟨0, y3, rfl, rfl, rfl, (show I64 0 from by unfold I64; omega), hC.sel [0] (by decide), hl0⟩ ?_
    have hbK0 := hb
    clear hb hC hl0
    rintro m10 E12 w11 ⟨v7_0, qf1_0, e0, e6, e7, hrv7_0, hC, hl0⟩ K9 hK9
    obtain ⟨m10', o13, rfl, hb, hl0⟩ := loopN_some hl0
    unfold F.garside_turnAround_b0 at hb
    refine Wc.seq fun K14 hK14 => ?_
    refine Wc.region (by decide +kernel) ?_
    refine lex.pure (v := .bool (decide (v7_0 < (p_0.length : Int)))) (pu_lss (k := .i64) (a := v7_0) (b := (p_0.length : Int)) e7 e6) ?_
    refine lex.nil ?_
    refine hK14 _ _ ?_
    refine Wc.seq fun K15 hK15 => ?_
    refine Wc.cond (t := (decide (v7_0 < (p_0.length : Int)))) (rfl) (fun hq16 => ?_) (fun hq16 => ?_)
    · replace hb := (cT hq16).symm.trans hb
      refine Wc.skip ?_
      refine hK15 _ _ ?_
      refine Wc.seq fun K17 hK17 => ?_
      refine Wc.block ?_
      refine Wc.seq fun K18 hK18 => ?_
      refine Wc.region (by decide +kernel) ?_
      refine lex.pure (v := .int .i64 v7_0) (pu_move e7) ?_
      refine lex.pure (v := .int .i64 v7_0) (pu_assign rfl) ?_
      refine lex.nil ?_
      refine hK18 _ _ ?_
      refine Wc.region (by decide +kernel) ?_
      refine lex.pure (v := .slice Ap_0 p_0.length cp_0) (pu_move e0) ?_
      refine lex.pure (v := .int .i64 v7_0) (pu_move rfl) ?_
      refine lex.pure (v := .slice Ap_0 p_0.length cp_0) (pu_move e0) ?_
      refine lex.pure (v := .int .i64 (p_0.length : Int)) (pu_len (A := Ap_0) (n := p_0.length) (m := cp_0) Try.underlying43 rfl) ?_
      obtain ⟨z19, h20, hb⟩ := bd hb
      refine lex.pure (v := .int .i64 z19) (pu_subc (a := (p_0.length : Int)) (b := 1) rfl rfl h20) ?_
      refine lex.pure (v := .slice Ap_0 p_0.length cp_0) (pu_move e0) ?_
      refine lex.pure (v := .int .i64 v7_0) (pu_move rfl) ?_
      obtain ⟨x21, h22, hb⟩ := bd hb
      obtain ⟨ad23, cs24, hA, hc25, hr26⟩ := hC.elo (i := 0) rfl (get_some h22).2
      subst hA
      refine lex.pure (v := .pointer (some (ad23.add (v7_0.toNat * 1)))) (pu_index (a := v7_0) Try.underlying43 Try.sizeOf3 rfl rfl (by rw [(hC.ow (i := 0) rfl).sl_len.1]; exact (get_some h22).1)) ?_
      obtain ⟨rfl, hr26'⟩ := hr26
      refine lex.val (v := .int .i64 x21) (ld_one Try.isAgg3 rfl (hc25 0 _ rfl)) ?_
      obtain ⟨z27, h28, hb⟩ := bd hb
      refine lex.pure (v := .int .i64 z27) (pu_subc (a := z19) (b := x21) rfl rfl h28) ?_
      obtain ⟨x29, h30, hb⟩ := bd hb
      obtain ⟨ad31, cs32, hA, hc33, hr34⟩ := hC.elo (i := 0) rfl (get_some h30).2
      obtain rfl := Option.some.inj hA
      refine lex.pure (v := .pointer (some (ad23.add (v7_0.toNat * 1)))) (pu_index (a := v7_0) Try.underlying43 Try.sizeOf3 rfl rfl (by rw [(hC.ow (i := 0) rfl).sl_len.1]; exact (get_some h30).1)) ?_
      refine lex.sk (hC.put (i := 0) rfl rfl Try.sizeOf3 (k := v7_0.toNat) (a := z27) (by have := (get_some h30).1; simp at this ⊢; omega) (⟨rfl, I64.wr (chk_rng h28)⟩) rfl rfl rfl) ?_
      rintro w35 ⟨hC, hF⟩
      refine lex.nil ?_
      refine hK17 _ _ ?_
      refine Wc.region (by decide +kernel) ?_
      obtain ⟨z36, h37, hb⟩ := bd hb
      refine lex.pure (v := .int .i64 z36) (pu_addc (a := v7_0) (b := 1) e7 rfl h37) ?_
      refine lex.pure (v := .int .i64 z36) (pu_move rfl) ?_
      refine lex.nil ?_
      obtain rfl := Option.some.inj hb
      exact hK9 m10' _ _ (Nat.lt_succ_self _) ⟨z36, (qf1_0.set v7_0.toNat z27), e0, e6, rfl, (chk_rng h37), hC.sel [0] (by decide), lN hl0⟩
    · replace hb := (cF hq16).symm.trans hb
      refine Wc.exit rfl ?_
      obtain rfl := Option.some.inj hb
      obtain rfl := (lX hl0).symm
      exact hK8 _ _ ⟨v7_0, qf1_0, hrv7_0, hC.sel [0] (by decide), hbK0⟩
  · clear hb hC hl0
    rintro E39 w38 ⟨v7_0, qf1_0, hrv7_0, hC, hb⟩
    obtain rfl := Option.some.inj hb
    subst hI
    refine hKR _ _ ?_
    refine ⟨_, res0 Try.results41, _, rfl, rfl, hC.sel [0] (by decide)⟩

set_option maxRecDepth 100000 in
set_option maxHeartbeats 4000000 in
theorem slices_Clone_Perm_int_ok (n : Nat) {w : World} {O0 : List Nat} (hO : ∀ k ∈ O0, k < w.heap.size) {As_0 : Option Addr} {ms_0 cs_0 : Nat} {s_0 : List Int} (hs_0 : Rep O0 w (.sl (.int .i64)) [.slice As_0 ms_0 cs_0] s_0) {r : (List Int)} (hb : F.slices_Clone_Perm_int n s_0 = some r) :
    Calls Try.prog 42 #[.slice As_0 ms_0 cs_0] w fun e w' => ∃ v, e = .returned v ∧ ∃ (A0 : Option Addr) (m0 c0 : Nat), v = .slice A0 m0 c0 ∧ Cx (fun _ => False) O0 w w' [.own 3 (.int .i64) (.slice A0 m0 c0) r] := by
  unfold F.slices_Clone_Perm_int at hb
  have hC := Cx.start hO
  replace hC := hC.arg rfl hs_0
  clear hO
  obtain ⟨rfl, hls_0, hcs_0⟩ := hs_0.sl_len
  refine calls_of_Wc Try.func42 rfl (by rw [Try.ntmps42]; exact Nat.le_of_ble_eq_true rfl) fun KR hKR => ?_
  refine Wc.seq fun K2 hK2 => ?_
  refine Wc.region (by decide +kernel) ?_
  refine lex.pure (v := .slice none 0 0) (pu_assign rfl) ?_
  refine lex.nil ?_
  refine hK2 _ _ ?_
  refine Wc.seq fun K3 hK3 => ?_
  refine Wc.seq fun K4 hK4 => ?_
  refine Wc.region (by decide +kernel) ?_
  refine lex.pure (v := .slice As_0 s_0.length cs_0) (pu_move rfl) ?_
  refine lex.pure (v := .bool As_0.isNone) (pu_eqlnil Try.underlying43 rfl rfl) ?_
  refine lex.nil ?_
  refine hK4 _ _ ?_
  refine Wc.cond (t := As_0.isNone) (rfl) (fun hq5 => ?_) (fun hq5 => ?_)
  · have hz : As_0 = none := by simpa using hq5
    have hx := (hC.rd (i := 0) rfl).none_nil' hz
    replace hb : some ([]) = some r := by have hb2 := hb; rw [hx] at hb2; first | exact hb2 | simpa [lim] using hb2
    refine Wc.seq fun K7 hK7 => ?_
    refine Wc.region (by decide +kernel) ?_
    refine lex.pure (v := .slice none 0 0) (pu_assign rfl) ?_
    refine lex.nil ?_
    refine hK7 _ _ ?_
    replace hC := hC.nil 3 (.int .i64)
    obtain rfl := Option.some.inj hb
    refine Wc.ret ?_
    refine hKR _ _ ?_
    refine ⟨_, res1 Try.results42 (show RV _ _ _ (.tmp _) (.slice none 0 0) from rfl), _, rfl, none, 0, 0, rfl, hC.sel [0] (by decide)⟩
  ·
    skip
    refine Wc.skip ?_
    refine hK3 _ _ ?_
    refine Wc.seq fun K9 hK9 => ?_
    refine Wc.region (by decide +kernel) ?_
    refine lex.op (hC.lit (s := (.int .i64)) (vs := []) (xs := []) Try.underlying43 Try.type3 rfl rfl (Nat.le_of_ble_eq_true rfl) rfl rfl (by simp [Value.cells, Sh.n]) rfl (show Elems _ _ (.int .i64) ([]) ([] : List Int) from Elems.nil _ _ _)) ?_
    rintro _ w14 ⟨A10, c11, rfl, hl12, hc13, hC, hF, hN⟩
    clear hF hN
    refine lex.pure (v := .slice As_0 s_0.length cs_0) (pu_move rfl) ?_
    obtain ⟨u16, h17, hb⟩ := bd hb
    refine lex.op (hC.app (i := 0) (s := (.int .i64)) (xs := ([] : List Int)) (ys := s_0) (m := s_0.length) rfl Try.underlying43 Try.underlying43 Try.type3 rfl rfl rfl (hC.srcr (i := 1) rfl) rfl rfl (by have := lim_some h17; simp at this ⊢ <;> omega) (by decide)) ?_
    rintro _ w22 ⟨A18, c19, rfl, hl20, hc21, hC, hF, hN⟩
    clear hF hN
    refine lex.pure (v := .slice A18 ((([] : List Int) ++ s_0).length) c19) (pu_assign rfl) ?_
    refine lex.nil ?_
    refine hK9 _ _ ?_
    obtain rfl := Option.some.inj hb
    refine Wc.ret ?_
    refine hKR _ _ ?_
    refine ⟨_, res1 Try.results42 (show RV _ _ _ (.tmp _) (.slice A18 ((([] : List Int) ++ s_0).length) c19) from rfl), _, rfl, A18, (([] : List Int) ++ s_0).length, c19, rfl, hC.sel [0] (by decide)⟩

set_option maxRecDepth 100000 in
set_option maxHeartbeats 4000000 in
theorem perm_Valid_ok (n : Nat) {w : World} {O0 : List Nat} (hO : ∀ k ∈ O0, k < w.heap.size) {Ap_0 : Option Addr} {mp_0 cp_0 : Nat} {p_0 : List Int} (hp_0 : Rep O0 w (.sl (.int .i64)) [.slice Ap_0 mp_0 cp_0] p_0) {r : Bool} (hb : F.perm_Valid n p_0 = some r) :
    Calls Try.prog 31 #[.slice Ap_0 mp_0 cp_0] w fun e w' => ∃ v, e = .returned v ∧ v = .bool r ∧ Cx (fun _ => False) O0 w w' [] := by
  unfold F.perm_Valid at hb
  have hC := Cx.start hO
  replace hC := hC.arg rfl hp_0
  clear hO
  obtain ⟨rfl, hlp_0, hcp_0⟩ := hp_0.sl_len
  refine calls_of_Wc Try.func31 rfl (by rw [Try.ntmps31]; exact Nat.le_of_ble_eq_true rfl) fun KR hKR => ?_
  refine Wc.seq fun K2 hK2 => ?_
  refine Wc.region (by decide +kernel) ?_
  refine lex.pure (v := .bool false) (pu_assign rfl) ?_
  refine lex.nil ?_
  refine hK2 _ _ ?_
  refine Wc.seq fun K3 hK3 => ?_
  refine Wc.region (by decide +kernel) ?_
  refine lex.pure (v := .slice Ap_0 p_0.length cp_0) (pu_move rfl) ?_
  refine lex.pure (v := .int .i64 (p_0.length : Int)) (pu_len (A := Ap_0) (n := p_0.length) (m := cp_0) Try.underlying43 rfl) ?_
  obtain ⟨u4, h5, hb⟩ := bd hb
  refine lex.op (hC.make (s := .bool) (n := (p_0.length : Int)) Try.underlying75 Try.type4 rfl rfl rfl rfl rfl (pos_some h5).1 (pos_some h5).2 (by decide)) ?_
  rintro _ w10 ⟨A6, c7, rfl, hl8, hc9, hC, hF, hN⟩
  clear hF hN
  refine lex.pure (v := .slice A6 (((List.replicate (p_0.length : Int).toNat false)).length) c7) (pu_assign rfl) ?_
  refine lex.nil ?_
  refine hK3 _ _ ?_
  refine Wc.seq fun K12 hK12 => ?_
  refine Wc.seq fun K13 hK13 => ?_
  refine Wc.region (by decide +kernel) ?_
  refine lex.pure (v := .slice Ap_0 p_0.length cp_0) (pu_move rfl) ?_
  refine lex.pure (v := .int .i64 (p_0.length : Int)) (pu_len (A := Ap_0) (n := p_0.length) (m := cp_0) Try.underlying43 rfl) ?_
  refine lex.pure (v := .int .i64 0) (pu_move rfl) ?_
  refine lex.nil ?_
  refine hK13 _ _ ?_
  obtain ⟨o14, hl0, hb⟩ := bd hb
  refine Wc.cut (fun E wv => ∃ (v11_0 : Int) (qf11_0 : List Bool), E 2 = .bool false ∧ I64 v11_0 ∧ Cx (fun _ => False) O0 w wv [] ∧ (some true : Option (Bool)) = some r) (fun K15 hK15 => ?_) ?_
  · refine Wc.block ?_
    refine Wc.loop (fun m E wv => ∃ (v11_0 : Int) (qf11_0 : List Bool), E 0 = .slice Ap_0 p_0.length cp_0 ∧ E 2 = .bool false ∧ E 3 = .slice A6 (((List.replicate (p_0.length : Int).toNat false)).length) c7 ∧ E 9 = .slice Ap_0 p_0.length cp_0 ∧ E 10 = .int .i64 (p_0.length : Int) ∧ E 11 = .int .i64 v11_0 ∧ I64 v11_0 ∧ Cx (fun _ => False) O0 w wv [.ro (.sl (.int .i64)) [.slice Ap_0 p_0.length cp_0] p_0, .own 4 .bool (.slice A6 (((List.replicate (p_0.length : Int).toNat false)).length) c7) qf11_0] ∧ loopN m (F.perm_Valid_b0 n p_0) (v11_0, qf11_0) = some o14) n ⟨0, (List.replicate (p_0.length : Int).toNat false), rfl, rfl, rfl, rfl, rfl, rfl, (show I64 0 from by unfold I64; omega), hC.sel [1, 0] (by decide), hl0⟩ ?_
    have hbK0 := hb
    clear hb hC hl0
    rintro m17 E19 w18 ⟨v11_0, qf11_0, e0, e2, e3, e9, e10, e11, hrv11_0, hC, hl0⟩ K16 hK16
    obtain ⟨m17', o20, rfl, hb, hl0⟩ := loopN_some hl0
    unfold F.perm_Valid_b0 at hb
    refine Wc.seq fun K21 hK21 => ?_
    refine Wc.region (by decide +kernel) ?_
    refine lex.pure (v := .bool (decide (v11_0 < (p_0.length : Int)))) (pu_lss (k := .i64) (a := v11_0) (b := (p_0.length : Int)) e11 e10) ?_
    refine lex.nil ?_
    refine hK21 _ _ ?_
    refine Wc.seq fun K22 hK22 => ?_
    refine Wc.cond (t := (decide (v11_0 < (p_0.length : Int)))) (rfl) (fun hq23 => ?_) (fun hq23 => ?_)
    · replace hb := (cT hq23).symm.trans hb
      refine Wc.skip ?_
      refine hK22 _ _ ?_
      refine Wc.seq fun K24 hK24 => ?_
      refine Wc.block ?_
      refine Wc.seq fun K25 hK25 => ?_
      refine Wc.region (by decide +kernel) ?_
      obtain ⟨x26, h27, hb⟩ := bd hb
      obtain ⟨ad28, cs29, hA, hc30, hr31⟩ := hC.elr (i := 0) rfl (get_some h27).2
      subst hA
      refine lex.pure (v := .pointer (some (ad28.add (v11_0.toNat * 1)))) (pu_index (a := v11_0) Try.underlying43 Try.sizeOf3 e9 e11 (get_some h27).1) ?_
      obtain ⟨rfl, hr31'⟩ := hr31
      refine lex.val (v := .int .i64 x26) (ld_one Try.isAgg3 rfl (hc30 0 _ rfl)) ?_
      refine lex.pure (v := .int .i64 x26) (pu_assign rfl) ?_
      refine lex.nil ?_
      refine hK25 _ _ ?_
      refine Wc.seq fun K32 hK32 => ?_
      refine Wc.seq fun K33 hK33 => ?_
      refine Wc.region (by decide +kernel) ?_
      refine lex.pure (v := .int .i64 x26) (pu_move rfl) ?_
      refine lex.pure (v := .bool (decide (x26 < 0))) (pu_lss (k := .i64) (a := x26) (b := 0) rfl rfl) ?_
      refine lex.pure (v := .bool (decide (x26 < 0))) (pu_move rfl) ?_
      rcases bS (decide (x26 < 0)) with hq34 | hq34
      · replace hb := (cT hq34).symm.trans hb
        refine lex.gskip (want_f rfl rfl (show _ = Value.bool (decide (x26 < 0)) from rfl) hq34) ?_
        refine lex.gskip (want_f rfl rfl (show _ = Value.bool (decide (x26 < 0)) from rfl) hq34) ?_
        refine lex.gskip (want_f rfl rfl (show _ = Value.bool (decide (x26 < 0)) from rfl) hq34) ?_
        refine lex.gskip (want_f rfl rfl (show _ = Value.bool (decide (x26 < 0)) from rfl) hq34) ?_
        refine lex.pure (v := .bool true) (pu_pickT (q := (decide (x26 < 0))) rfl hq34 rfl) ?_
        refine lex.pure (v := .bool true) (pu_move rfl) ?_
        refine lex.gskip (want_f rfl rfl (show _ = Value.bool true from rfl) rfl) ?_
        refine lex.gskip (want_f rfl rfl (show _ = Value.bool true from rfl) rfl) ?_
        refine lex.gskip (want_f rfl rfl (show _ = Value.bool true from rfl) rfl) ?_
        refine lex.gskip (want_f rfl rfl (show _ = Value.bool true from rfl) rfl) ?_
        refine lex.pure (v := .bool true) (pu_pickT (q := true) rfl rfl rfl) ?_
        refine lex.nil ?_
        refine hK33 _ _ ?_
        refine Wc.cond_true (rfl) ?_
        refine Wc.seq fun K35 hK35 => ?_
        refine Wc.region (by decide +kernel) ?_
        refine lex.pure (v := .bool false) (pu_assign rfl) ?_
        refine lex.nil ?_
        refine hK35 _ _ ?_
        obtain rfl := Option.some.inj hb
        obtain rfl := (lX hl0).symm
        replace hb := hbK0
        obtain rfl := Option.some.inj hb
        refine Wc.ret ?_
        refine hKR _ _ ?_
        refine ⟨_, res1 Try.results31 (show RV _ _ _ (.tmp _) (.bool false) from rfl), _, rfl, rfl, hC.sel [] (by decide)⟩
      · replace hb := (cF hq34).symm.trans hb
        refine lex.gpure (want_t rfl rfl (show _ = Value.bool (decide (x26 < 0)) from rfl) hq34) (v := .int .i64 x26) (pu_move rfl) ?_
        refine lex.gpure (want_t rfl rfl (show _ = Value.bool (decide (x26 < 0)) from rfl) hq34) (v := .slice (some ad28) p_0.length cp_0) (pu_move e0) ?_
        refine lex.gpure (want_t rfl rfl (show _ = Value.bool (decide (x26 < 0)) from rfl) hq34) (v := .int .i64 (p_0.length : Int)) (pu_len (A := (some ad28)) (n := p_0.length) (m := cp_0) Try.underlying43 rfl) ?_
        refine lex.gpure (want_t rfl rfl (show _ = Value.bool (decide (x26 < 0)) from rfl) hq34) (v := .bool (decide ((p_0.length : Int) ≤ x26))) (pu_geq (k := .i64) (a := x26) (b := (p_0.length : Int)) rfl rfl) ?_
        refine lex.pure (v := .bool (decide ((p_0.length : Int) ≤ x26))) (pu_pickF (q := (decide (x26 < 0))) rfl hq34 rfl) ?_
        refine lex.pure (v := .bool (decide ((p_0.length : Int) ≤ x26))) (pu_move rfl) ?_
        rcases bS (decide ((p_0.length : Int) ≤ x26)) with hq36 | hq36
        · replace hb := (cT hq36).symm.trans hb
          refine lex.gskip (want_f rfl rfl (show _ = Value.bool (decide ((p_0.length : Int) ≤ x26)) from rfl) hq36) ?_
          refine lex.gskip (want_f rfl rfl (show _ = Value.bool (decide ((p_0.length : Int) ≤ x26)) from rfl) hq36) ?_
          refine lex.gskip (want_f rfl rfl (show _ = Value.bool (decide ((p_0.length : Int) ≤ x26)) from rfl) hq36) ?_
          refine lex.gskip (want_f rfl rfl (show _ = Value.bool (decide ((p_0.length : Int) ≤ x26)) from rfl) hq36) ?_
          refine lex.pure (v := .bool true) (pu_pickT (q := (decide ((p_0.length : Int) ≤ x26))) rfl hq36 rfl) ?_
          refine lex.nil ?_
          refine hK33 _ _ ?_
          refine Wc.cond_true (rfl) ?_
          refine Wc.seq fun K37 hK37 => ?_
          refine Wc.region (by decide +kernel) ?_
          refine lex.pure (v := .bool false) (pu_assign rfl) ?_
          refine lex.nil ?_
          refine hK37 _ _ ?_
          obtain rfl := Option.some.inj hb
          obtain rfl := (lX hl0).symm
          replace hb := hbK0
          obtain rfl := Option.some.inj hb
          refine Wc.ret ?_
          refine hKR _ _ ?_
          refine ⟨_, res1 Try.results31 (show RV _ _ _ (.tmp _) (.bool false) from rfl), _, rfl, rfl, hC.sel [] (by decide)⟩
        · replace hb := (cF hq36).symm.trans hb
          refine lex.gpure (want_t rfl rfl (show _ = Value.bool (decide ((p_0.length : Int) ≤ x26)) from rfl) hq36) (v := .slice A6 (((List.replicate (p_0.length : Int).toNat false)).length) c7) (pu_move e3) ?_
          refine lex.gpure (want_t rfl rfl (show _ = Value.bool (decide ((p_0.length : Int) ≤ x26)) from rfl) hq36) (v := .int .i64 x26) (pu_move rfl) ?_
          obtain ⟨x38, h39, hb⟩ := bd hb
          obtain ⟨ad40, cs41, hA, hc42, hr43⟩ := hC.elo (i := 1) rfl (get_some h39).2
          subst hA
          refine lex.gpure (want_t rfl rfl (show _ = Value.bool (decide ((p_0.length : Int) ≤ x26)) from rfl) hq36) (v := .pointer (some (ad40.add (x26.toNat * 1)))) (pu_index (a := x26) Try.underlying75 Try.sizeOf4 rfl rfl (by rw [(hC.ow (i := 1) rfl).sl_len.1]; exact (get_some h39).1)) ?_
          obtain rfl := (show _ = _ from hr43)
          refine lex.gval (want_t rfl rfl (show _ = Value.bool (decide ((p_0.length : Int) ≤ x26)) from rfl) hq36) (v := .bool x38) (ld_one Try.isAgg4 rfl (hc42 0 _ rfl)) ?_
          refine lex.pure (v := .bool x38) (pu_pickF (q := (decide ((p_0.length : Int) ≤ x26))) rfl hq36 rfl) ?_
          refine lex.nil ?_
          refine hK33 _ _ ?_
          refine Wc.cond (t := x38) (rfl) (fun hq44 => ?_) (fun hq44 => ?_)
          · replace hb := (cT hq44).symm.trans hb
            refine Wc.seq fun K45 hK45 => ?_
            refine Wc.region (by decide +kernel) ?_
            refine lex.pure (v := .bool false) (pu_assign rfl) ?_
            refine lex.nil ?_
            refine hK45 _ _ ?_
            obtain rfl := Option.some.inj hb
            obtain rfl := (lX hl0).symm
            replace hb := hbK0
            obtain rfl := Option.some.inj hb
            refine Wc.ret ?_
            refine hKR _ _ ?_
            refine ⟨_, res1 Try.results31 (show RV _ _ _ (.tmp _) (.bool false) from rfl), _, rfl, rfl, hC.sel [] (by decide)⟩
          · replace hb := (cF hq44).symm.trans hb
            refine Wc.skip ?_
            refine hK32 _ _ ?_
            refine Wc.fresh fun E46 hE => ?_
            have e0 : E46 0 = .slice (some ad28) p_0.length cp_0 := (congrFun hE 0).trans e0
            have e2 : E46 2 = .bool false := (congrFun hE 2).trans e2
            have e3 : E46 3 = .slice (some ad40) (((List.replicate (p_0.length : Int).toNat false)).length) c7 := (congrFun hE 3).trans e3
            have e5 : E46 5 = .int .i64 x26 := (congrFun hE 5).trans rfl
            have e9 : E46 9 = .slice (some ad28) p_0.length cp_0 := (congrFun hE 9).trans e9
            have e10 : E46 10 = .int .i64 (p_0.length : Int) := (congrFun hE 10).trans e10
            have e11 : E46 11 = .int .i64 v11_0 := (congrFun hE 11).trans e11
            have e12 : E46 12 = .bool (decide (v11_0 < (p_0.length : Int))) := (congrFun hE 12).trans rfl
            have e28 : E46 28 = .bool x38 := (congrFun hE 28).trans rfl
            clear hE
            refine Wc.region (by decide +kernel) ?_
            refine lex.pure (v := .slice (some ad40) (((List.replicate (p_0.length : Int).toNat false)).length) c7) (pu_move e3) ?_
            refine lex.pure (v := .int .i64 x26) (pu_move e5) ?_
            obtain ⟨x47, h48, hb⟩ := bd hb
            obtain ⟨ad49, cs50, hA, hc51, hr52⟩ := hC.elo (i := 1) rfl (get_some h48).2
            obtain rfl := Option.some.inj hA
            refine lex.pure (v := .pointer (some (ad40.add (x26.toNat * 1)))) (pu_index (a := x26) Try.underlying75 Try.sizeOf4 rfl rfl (by rw [(hC.ow (i := 1) rfl).sl_len.1]; exact (get_some h48).1)) ?_
            refine lex.sk (hC.put (i := 1) rfl rfl Try.sizeOf4 (k := x26.toNat) (a := true) (by have := (get_some h48).1; simp at this ⊢; omega) (show Rep _ _ .bool _ _ from rfl) rfl rfl rfl) ?_
            rintro w53 ⟨hC, hF⟩
            refine lex.nil ?_
            refine hK24 _ _ ?_
            refine Wc.region (by decide +kernel) ?_
            obtain ⟨z54, h55, hb⟩ := bd hb
            refine lex.pure (v := .int .i64 z54) (pu_addc (a := v11_0) (b := 1) e11 rfl h55) ?_
            refine lex.pure (v := .int .i64 z54) (pu_move rfl) ?_
            refine lex.nil ?_
            obtain rfl := Option.some.inj hb
            exact hK16 m17' _ _ (Nat.lt_succ_self _) ⟨z54, (qf11_0.set x26.toNat true), e0, e2, e3, e9, e10, rfl, (chk_rng h55), hC.sel [0, 1] (by decide), lN hl0⟩
    · replace hb := (cF hq23).symm.trans hb
      refine Wc.exit rfl ?_
      obtain rfl := Option.some.inj hb
      obtain rfl := (lX hl0).symm
      exact hK15 _ _ ⟨v11_0, qf11_0, e2, hrv11_0, hC.sel [] (by decide), hbK0⟩
  · clear hb hC hl0
    rintro E57 w56 ⟨v11_0, qf11_0, e2, hrv11_0, hC, hb⟩
    refine hK12 _ _ ?_
    refine Wc.seq fun K58 hK58 => ?_
    refine Wc.region (by decide +kernel) ?_
    refine lex.pure (v := .bool true) (pu_assign rfl) ?_
    refine lex.nil ?_
    refine hK58 _ _ ?_
    obtain rfl := Option.some.inj hb
    refine Wc.ret ?_
    refine hKR _ _ ?_
    refine ⟨_, res1 Try.results31 (show RV _ _ _ (.tmp _) (.bool true) from rfl), _, rfl, rfl, hC.sel [] (by decide)⟩
end Go.Proofs.Ytkeaonceaaafcaa
