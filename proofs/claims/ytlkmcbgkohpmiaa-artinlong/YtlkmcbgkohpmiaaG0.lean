/- The walks: part 0. -/
import Derived.Test.YtlkmcbgkohpmiaaS
set_option linter.unusedVariables false
set_option linter.unusedSimpArgs false
namespace Go.Proofs.Ytlkmcbgkohpmiaa
open Ev
set_option maxRecDepth 100000 in
set_option maxHeartbeats 4000000 in
theorem braid_Valid_ok (n : Nat) {w : World} {O0 : List Nat} (hO : ∀ k ∈ O0, k < w.heap.size) {b_0_0 : Int} (hb_0_0 : I64 b_0_0) {Ab_0_1 : Option Addr} {mb_0_1 cb_0_1 : Nat} {b_0_1 : List Int} (hb_0_1 : Rep O0 w (.sl (.int .i64)) [.slice Ab_0_1 mb_0_1 cb_0_1] b_0_1) {r : Bool} (hb : F.braid_Valid n b_0_0 b_0_1 = some r) :
    Calls Try.prog 16 #[.agg #[.int .i64 b_0_0, .slice Ab_0_1 mb_0_1 cb_0_1]] w fun e w' => ∃ v, e = .returned v ∧ v = .bool r ∧ Cx (fun _ => False) O0 w w' [] := by
  unfold F.braid_Valid at hb
  have hC := Cx.start hO
  replace hC := hC.arg rfl hb_0_1
  clear hO
  obtain ⟨rfl, hlb_0_1, hcb_0_1⟩ := hb_0_1.sl_len
  refine calls_of_Wc Try.func16 rfl (by rw [Try.ntmps16]; exact Nat.le_of_ble_eq_true rfl) fun KR hKR => ?_
  refine Wc.seq fun K2 hK2 => ?_
  refine Wc.region (by decide +kernel) ?_
  refine lex.op (hC.box (cs := [.int .i64 b_0_0, .slice Ab_0_1 b_0_1.length cb_0_1]) rfl rfl) ?_
  rintro _ w4 ⟨g3, rfl, hC, hF, hG⟩
  clear hG
  refine lex.pure (v := .bool false) (pu_assign rfl) ?_
  refine lex.nil ?_
  refine hK2 _ _ ?_
  refine Wc.seq fun K6 hK6 => ?_
  refine Wc.seq fun K7 hK7 => ?_
  refine Wc.region (by decide +kernel) ?_
  refine lex.pure (v := .pointer (some ((⟨g3, 0, none⟩ : Addr).add 0))) (pu_field (sz := 1) Try.underlying24 rfl Try.sizeOf3 (by decide) rfl rfl) ?_
  refine lex.val (v := .int .i64 b_0_0) (ld_fld (hC.bx (i := 0) rfl) Try.isAgg3 rfl rfl) ?_
  refine lex.pure (v := .bool (decide (b_0_0 < 1))) (pu_lss (k := .i64) (a := b_0_0) (b := 1) rfl rfl) ?_
  refine lex.pure (v := .bool (decide (b_0_0 < 1))) (pu_move rfl) ?_
  rcases bS (decide (b_0_0 < 1)) with hq8 | hq8
  · replace hb := (cT hq8).symm.trans hb
    refine lex.gskip (want_f rfl rfl (show _ = Value.bool (decide (b_0_0 < 1)) from rfl) hq8) ?_
    refine lex.gskip (want_f rfl rfl (show _ = Value.bool (decide (b_0_0 < 1)) from rfl) hq8) ?_
    refine lex.gskip (want_f rfl rfl (show _ = Value.bool (decide (b_0_0 < 1)) from rfl) hq8) ?_
    refine lex.pure (v := .bool true) (pu_pickT (q := (decide (b_0_0 < 1))) rfl hq8 rfl) ?_
    refine lex.pure (v := .bool true) (pu_move rfl) ?_
    refine lex.gskip (want_f rfl rfl (show _ = Value.bool true from rfl) rfl) ?_
    refine lex.gskip (want_f rfl rfl (show _ = Value.bool true from rfl) rfl) ?_
    refine lex.gskip (want_f rfl rfl (show _ = Value.bool true from rfl) rfl) ?_
    refine lex.gskip (want_f rfl rfl (show _ = Value.bool true from rfl) rfl) ?_
    refine lex.pure (v := .bool true) (pu_pickT (q := true) rfl rfl rfl) ?_
    refine lex.nil ?_
    refine hK7 _ _ ?_
    refine Wc.cond_true (rfl) ?_
    refine Wc.seq fun K9 hK9 => ?_
    refine Wc.region (by decide +kernel) ?_
    refine lex.pure (v := .bool false) (pu_assign rfl) ?_
    refine lex.nil ?_
    refine hK9 _ _ ?_
    obtain rfl := Option.some.inj hb
    refine Wc.ret ?_
    refine hKR _ _ ?_
    refine ⟨_, res1 Try.results16 (show RV _ _ _ (.tmp _) (.bool false) from rfl), _, rfl, rfl, hC.sel [] (by decide)⟩
  · replace hb := (cF hq8).symm.trans hb
    refine lex.gpure (want_t rfl rfl (show _ = Value.bool (decide (b_0_0 < 1)) from rfl) hq8) (v := .pointer (some ((⟨g3, 0, none⟩ : Addr).add 0))) (pu_field (sz := 1) Try.underlying24 rfl Try.sizeOf3 (by decide) rfl rfl) ?_
    refine lex.gval (want_t rfl rfl (show _ = Value.bool (decide (b_0_0 < 1)) from rfl) hq8) (v := .int .i64 b_0_0) (ld_fld (hC.bx (i := 0) rfl) Try.isAgg3 rfl rfl) ?_
    refine lex.gpure (want_t rfl rfl (show _ = Value.bool (decide (b_0_0 < 1)) from rfl) hq8) (v := .bool (decide (10 < b_0_0))) (pu_gtr (k := .i64) (a := b_0_0) (b := 10) rfl rfl) ?_
    refine lex.pure (v := .bool (decide (10 < b_0_0))) (pu_pickF (q := (decide (b_0_0 < 1))) rfl hq8 rfl) ?_
    refine lex.pure (v := .bool (decide (10 < b_0_0))) (pu_move rfl) ?_
    rcases bS (decide (10 < b_0_0)) with hq10 | hq10
    · replace hb := (cT hq10).symm.trans hb
      refine lex.gskip (want_f rfl rfl (show _ = Value.bool (decide (10 < b_0_0)) from rfl) hq10) ?_
      refine lex.gskip (want_f rfl rfl (show _ = Value.bool (decide (10 < b_0_0)) from rfl) hq10) ?_
      refine lex.gskip (want_f rfl rfl (show _ = Value.bool (decide (10 < b_0_0)) from rfl) hq10) ?_
      refine lex.gskip (want_f rfl rfl (show _ = Value.bool (decide (10 < b_0_0)) from rfl) hq10) ?_
      refine lex.pure (v := .bool true) (pu_pickT (q := (decide (10 < b_0_0))) rfl hq10 rfl) ?_
      refine lex.nil ?_
      refine hK7 _ _ ?_
      refine Wc.cond_true (rfl) ?_
      refine Wc.seq fun K11 hK11 => ?_
      refine Wc.region (by decide +kernel) ?_
      refine lex.pure (v := .bool false) (pu_assign rfl) ?_
      refine lex.nil ?_
      refine hK11 _ _ ?_
      obtain rfl := Option.some.inj hb
      refine Wc.ret ?_
      refine hKR _ _ ?_
      refine ⟨_, res1 Try.results16 (show RV _ _ _ (.tmp _) (.bool false) from rfl), _, rfl, rfl, hC.sel [] (by decide)⟩
    · replace hb := (cF hq10).symm.trans hb
      refine lex.gpure (want_t rfl rfl (show _ = Value.bool (decide (10 < b_0_0)) from rfl) hq10) (v := .pointer (some ((⟨g3, 0, none⟩ : Addr).add 1))) (pu_field (sz := 1) Try.underlying24 rfl Try.sizeOf22 (by decide) rfl rfl) ?_
      refine lex.gval (want_t rfl rfl (show _ = Value.bool (decide (10 < b_0_0)) from rfl) hq10) (v := .slice Ab_0_1 b_0_1.length cb_0_1) (ld_fld (hC.bx (i := 0) rfl) Try.isAgg22 rfl rfl) ?_
      refine lex.gpure (want_t rfl rfl (show _ = Value.bool (decide (10 < b_0_0)) from rfl) hq10) (v := .int .i64 (b_0_1.length : Int)) (pu_len (A := Ab_0_1) (n := b_0_1.length) (m := cb_0_1) Try.underlying22 rfl) ?_
      refine lex.gpure (want_t rfl rfl (show _ = Value.bool (decide (10 < b_0_0)) from rfl) hq10) (v := .bool (decide (200 < (b_0_1.length : Int)))) (pu_gtr (k := .i64) (a := (b_0_1.length : Int)) (b := 200) rfl rfl) ?_
      refine lex.pure (v := .bool (decide (200 < (b_0_1.length : Int)))) (pu_pickF (q := (decide (10 < b_0_0))) rfl hq10 rfl) ?_
      refine lex.nil ?_
      refine hK7 _ _ ?_
      refine Wc.cond (t := (decide (200 < (b_0_1.length : Int)))) (rfl) (fun hq12 => ?_) (fun hq12 => ?_)
      · replace hb := (cT hq12).symm.trans hb
        refine Wc.seq fun K13 hK13 => ?_
        refine Wc.region (by decide +kernel) ?_
        refine lex.pure (v := .bool false) (pu_assign rfl) ?_
        refine lex.nil ?_
        refine hK13 _ _ ?_
        obtain rfl := Option.some.inj hb
        refine Wc.ret ?_
        refine hKR _ _ ?_
        refine ⟨_, res1 Try.results16 (show RV _ _ _ (.tmp _) (.bool false) from rfl), _, rfl, rfl, hC.sel [] (by decide)⟩
      · replace hb := (cF hq12).symm.trans hb
        refine Wc.skip ?_
        refine hK6 _ _ ?_
        refine Wc.fresh fun E14 hE => ?_
        have e1 : E14 1 = .pointer (some ⟨g3, 0, none⟩) := (congrFun hE 1).trans rfl
        have e2 : E14 2 = .bool false := (congrFun hE 2).trans rfl
        clear hE
        refine Wc.seq fun K15 hK15 => ?_
        refine Wc.seq fun K16 hK16 => ?_
        refine Wc.region (by decide +kernel) ?_
        refine lex.pure (v := .pointer (some ((⟨g3, 0, none⟩ : Addr).add 1))) (pu_field (sz := 1) Try.underlying24 rfl Try.sizeOf22 (by decide) rfl e1) ?_
        refine lex.val (v := .slice Ab_0_1 b_0_1.length cb_0_1) (ld_fld (hC.bx (i := 0) rfl) Try.isAgg22 rfl rfl) ?_
        refine lex.pure (v := .int .i64 (b_0_1.length : Int)) (pu_len (A := Ab_0_1) (n := b_0_1.length) (m := cb_0_1) Try.underlying22 rfl) ?_
        refine lex.pure (v := .int .i64 0) (pu_move rfl) ?_
        refine lex.nil ?_
        refine hK16 _ _ ?_
        obtain ⟨o17, hl0, hb⟩ := bd hb
        refine Wc.cut (fun E wv => ∃ (v22_0 : Int), E 2 = .bool false ∧ I64 v22_0 ∧ Cx (fun _ => False) O0 w wv [] ∧ (some true : Option (Bool)) = some r) (fun K18 hK18 => ?_) ?_
        · refine Wc.block ?_
          refine Wc.loop (fun m E wv => ∃ (v22_0 : Int), E 1 = .pointer (some ⟨g3, 0, none⟩) ∧ E 2 = .bool false ∧ E 20 = .slice Ab_0_1 b_0_1.length cb_0_1 ∧ E 21 = .int .i64 (b_0_1.length : Int) ∧ E 22 = .int .i64 v22_0 ∧ I64 v22_0 ∧ Cx (fun _ => False) O0 w wv [.box g3 24 [.int .i64 b_0_0, .slice Ab_0_1 b_0_1.length cb_0_1], .ro (.sl (.int .i64)) [.slice Ab_0_1 b_0_1.length cb_0_1] b_0_1] ∧ loopN m (F.braid_Valid_b0 n b_0_0 b_0_1) v22_0 = some o17) n ⟨0, e1, e2, rfl, rfl, rfl, (show I64 0 from by unfold I64; omega), hC.sel [0, 1] (by decide), hl0⟩ ?_
          have hbK0 := hb
          clear hb hC hl0
          rintro m20 E22 w21 ⟨v22_0, e1, e2, e20, e21, e22, hrv22_0, hC, hl0⟩ K19 hK19
          obtain ⟨m20', o23, rfl, hb, hl0⟩ := loopN_some hl0
          unfold F.braid_Valid_b0 at hb
          refine Wc.seq fun K24 hK24 => ?_
          refine Wc.region (by decide +kernel) ?_
          refine lex.pure (v := .bool (decide (v22_0 < (b_0_1.length : Int)))) (pu_lss (k := .i64) (a := v22_0) (b := (b_0_1.length : Int)) e22 e21) ?_
          refine lex.nil ?_
          refine hK24 _ _ ?_
          refine Wc.seq fun K25 hK25 => ?_
          refine Wc.cond (t := (decide (v22_0 < (b_0_1.length : Int)))) (rfl) (fun hq26 => ?_) (fun hq26 => ?_)
          · replace hb := (cT hq26).symm.trans hb
            refine Wc.skip ?_
            refine hK25 _ _ ?_
            refine Wc.seq fun K27 hK27 => ?_
            refine Wc.block ?_
            refine Wc.seq fun K28 hK28 => ?_
            refine Wc.region (by decide +kernel) ?_
            obtain ⟨x29, h30, hb⟩ := bd hb
            obtain ⟨ad31, cs32, hA, hc33, hr34⟩ := hC.elr (i := 1) rfl (get_some h30).2
            subst hA
            refine lex.pure (v := .pointer (some (ad31.add (v22_0.toNat * 1)))) (pu_index (a := v22_0) Try.underlying22 Try.sizeOf3 e20 e22 (get_some h30).1) ?_
            obtain ⟨rfl, hr34'⟩ := hr34
            refine lex.val (v := .int .i64 x29) (ld_one Try.isAgg3 rfl (hc33 0 _ rfl)) ?_
            refine lex.pure (v := .int .i64 x29) (pu_assign rfl) ?_
            refine lex.nil ?_
            refine hK28 _ _ ?_
            refine Wc.seq fun K35 hK35 => ?_
            refine Wc.region (by decide +kernel) ?_
            refine lex.pure (v := .int .i64 x29) (pu_move rfl) ?_
            refine lex.pure (v := .bool (decide (x29 = 0))) (pu_eql (k := .i64) (a := x29) (b := 0) rfl rfl) ?_
            refine lex.pure (v := .bool (decide (x29 = 0))) (pu_move rfl) ?_
            rcases bS (decide (x29 = 0)) with hq36 | hq36
            · replace hb := (cT hq36).symm.trans hb
              refine lex.gskip (want_f rfl rfl (show _ = Value.bool (decide (x29 = 0)) from rfl) hq36) ?_
              refine lex.gskip (want_f rfl rfl (show _ = Value.bool (decide (x29 = 0)) from rfl) hq36) ?_
              refine lex.gskip (want_f rfl rfl (show _ = Value.bool (decide (x29 = 0)) from rfl) hq36) ?_
              refine lex.gskip (want_f rfl rfl (show _ = Value.bool (decide (x29 = 0)) from rfl) hq36) ?_
              refine lex.gskip (want_f rfl rfl (show _ = Value.bool (decide (x29 = 0)) from rfl) hq36) ?_
              refine lex.pure (v := .bool true) (pu_pickT (q := (decide (x29 = 0))) rfl hq36 rfl) ?_
              refine lex.pure (v := .bool true) (pu_move rfl) ?_
              refine lex.gskip (want_f rfl rfl (show _ = Value.bool true from rfl) rfl) ?_
              refine lex.gskip (want_f rfl rfl (show _ = Value.bool true from rfl) rfl) ?_
              refine lex.gskip (want_f rfl rfl (show _ = Value.bool true from rfl) rfl) ?_
              refine lex.gskip (want_f rfl rfl (show _ = Value.bool true from rfl) rfl) ?_
              refine lex.pure (v := .bool true) (pu_pickT (q := true) rfl rfl rfl) ?_
              refine lex.nil ?_
              refine hK35 _ _ ?_
              refine Wc.cond_true (rfl) ?_
              refine Wc.seq fun K37 hK37 => ?_
              refine Wc.region (by decide +kernel) ?_
              refine lex.pure (v := .bool false) (pu_assign rfl) ?_
              refine lex.nil ?_
              refine hK37 _ _ ?_
              obtain rfl := Option.some.inj hb
              obtain rfl := (lX hl0).symm
              replace hb := hbK0
              obtain rfl := Option.some.inj hb
              refine Wc.ret ?_
              refine hKR _ _ ?_
              refine ⟨_, res1 Try.results16 (show RV _ _ _ (.tmp _) (.bool false) from rfl), _, rfl, rfl, hC.sel [] (by decide)⟩
            · replace hb := (cF hq36).symm.trans hb
              refine lex.gpure (want_t rfl rfl (show _ = Value.bool (decide (x29 = 0)) from rfl) hq36) (v := .int .i64 x29) (pu_move rfl) ?_
              refine lex.gpure (want_t rfl rfl (show _ = Value.bool (decide (x29 = 0)) from rfl) hq36) (v := .pointer (some ((⟨g3, 0, none⟩ : Addr).add 0))) (pu_field (sz := 1) Try.underlying24 rfl Try.sizeOf3 (by decide) rfl e1) ?_
              refine lex.gval (want_t rfl rfl (show _ = Value.bool (decide (x29 = 0)) from rfl) hq36) (v := .int .i64 b_0_0) (ld_fld (hC.bx (i := 0) rfl) Try.isAgg3 rfl rfl) ?_
              obtain ⟨z38, h39, hb⟩ := bd hb
              refine lex.gpure (want_t rfl rfl (show _ = Value.bool (decide (x29 = 0)) from rfl) hq36) (v := .int .i64 z38) (pu_negc (a := b_0_0) rfl h39) ?_
              refine lex.gpure (want_t rfl rfl (show _ = Value.bool (decide (x29 = 0)) from rfl) hq36) (v := .bool (decide (x29 ≤ z38))) (pu_leq (k := .i64) (a := x29) (b := z38) rfl rfl) ?_
              refine lex.pure (v := .bool (decide (x29 ≤ z38))) (pu_pickF (q := (decide (x29 = 0))) rfl hq36 rfl) ?_
              refine lex.pure (v := .bool (decide (x29 ≤ z38))) (pu_move rfl) ?_
              rcases bS (decide (x29 ≤ z38)) with hq40 | hq40
              · replace hb := (cT hq40).symm.trans hb
                refine lex.gskip (want_f rfl rfl (show _ = Value.bool (decide (x29 ≤ z38)) from rfl) hq40) ?_
                refine lex.gskip (want_f rfl rfl (show _ = Value.bool (decide (x29 ≤ z38)) from rfl) hq40) ?_
                refine lex.gskip (want_f rfl rfl (show _ = Value.bool (decide (x29 ≤ z38)) from rfl) hq40) ?_
                refine lex.gskip (want_f rfl rfl (show _ = Value.bool (decide (x29 ≤ z38)) from rfl) hq40) ?_
                refine lex.pure (v := .bool true) (pu_pickT (q := (decide (x29 ≤ z38))) rfl hq40 rfl) ?_
                refine lex.nil ?_
                refine hK35 _ _ ?_
                refine Wc.cond_true (rfl) ?_
                refine Wc.seq fun K41 hK41 => ?_
                refine Wc.region (by decide +kernel) ?_
                refine lex.pure (v := .bool false) (pu_assign rfl) ?_
                refine lex.nil ?_
                refine hK41 _ _ ?_
                obtain rfl := Option.some.inj hb
                obtain rfl := (lX hl0).symm
                replace hb := hbK0
                obtain rfl := Option.some.inj hb
                refine Wc.ret ?_
                refine hKR _ _ ?_
                refine ⟨_, res1 Try.results16 (show RV _ _ _ (.tmp _) (.bool false) from rfl), _, rfl, rfl, hC.sel [] (by decide)⟩
              · replace hb := (cF hq40).symm.trans hb
                refine lex.gpure (want_t rfl rfl (show _ = Value.bool (decide (x29 ≤ z38)) from rfl) hq40) (v := .int .i64 x29) (pu_move rfl) ?_
                refine lex.gpure (want_t rfl rfl (show _ = Value.bool (decide (x29 ≤ z38)) from rfl) hq40) (v := .pointer (some ((⟨g3, 0, none⟩ : Addr).add 0))) (pu_field (sz := 1) Try.underlying24 rfl Try.sizeOf3 (by decide) rfl e1) ?_
                refine lex.gval (want_t rfl rfl (show _ = Value.bool (decide (x29 ≤ z38)) from rfl) hq40) (v := .int .i64 b_0_0) (ld_fld (hC.bx (i := 0) rfl) Try.isAgg3 rfl rfl) ?_
                refine lex.gpure (want_t rfl rfl (show _ = Value.bool (decide (x29 ≤ z38)) from rfl) hq40) (v := .bool (decide (b_0_0 ≤ x29))) (pu_geq (k := .i64) (a := x29) (b := b_0_0) rfl rfl) ?_
                refine lex.pure (v := .bool (decide (b_0_0 ≤ x29))) (pu_pickF (q := (decide (x29 ≤ z38))) rfl hq40 rfl) ?_
                refine lex.nil ?_
                refine hK35 _ _ ?_
                refine Wc.cond (t := (decide (b_0_0 ≤ x29))) (rfl) (fun hq42 => ?_) (fun hq42 => ?_)
                · replace hb := (cT hq42).symm.trans hb
                  refine Wc.seq fun K43 hK43 => ?_
                  refine Wc.region (by decide +kernel) ?_
                  refine lex.pure (v := .bool false) (pu_assign rfl) ?_
                  refine lex.nil ?_
                  refine hK43 _ _ ?_
                  obtain rfl := Option.some.inj hb
                  obtain rfl := (lX hl0).symm
                  replace hb := hbK0
                  obtain rfl := Option.some.inj hb
                  refine Wc.ret ?_
                  refine hKR _ _ ?_
                  refine ⟨_, res1 Try.results16 (show RV _ _ _ (.tmp _) (.bool false) from rfl), _, rfl, rfl, hC.sel [] (by decide)⟩
                · replace hb := (cF hq42).symm.trans hb
                  refine Wc.skip ?_
                  refine hK27 _ _ ?_
                  refine Wc.region (by decide +kernel) ?_
                  obtain ⟨z44, h45, hb⟩ := bd hb
                  refine lex.pure (v := .int .i64 z44) (pu_addc (a := v22_0) (b := 1) e22 rfl h45) ?_
                  refine lex.pure (v := .int .i64 z44) (pu_move rfl) ?_
                  refine lex.nil ?_
                  obtain rfl := Option.some.inj hb
                  exact hK19 m20' _ _ (Nat.lt_succ_self _) ⟨z44, e1, e2, e20, e21, rfl, (chk_rng h45), hC.sel [0, 1] (by decide), lN hl0⟩
          · replace hb := (cF hq26).symm.trans hb
            refine Wc.exit rfl ?_
            obtain rfl := Option.some.inj hb
            obtain rfl := (lX hl0).symm
            exact hK18 _ _ ⟨v22_0, e2, hrv22_0, hC.sel [] (by decide), hbK0⟩
        · clear hb hC hl0
          rintro E47 w46 ⟨v22_0, e2, hrv22_0, hC, hb⟩
          refine hK15 _ _ ?_
          refine Wc.seq fun K48 hK48 => ?_
          refine Wc.region (by decide +kernel) ?_
          refine lex.pure (v := .bool true) (pu_assign rfl) ?_
          refine lex.nil ?_
          refine hK48 _ _ ?_
          obtain rfl := Option.some.inj hb
          refine Wc.ret ?_
          refine hKR _ _ ?_
          refine ⟨_, res1 Try.results16 (show RV _ _ _ (.tmp _) (.bool true) from rfl), _, rfl, rfl, hC.sel [] (by decide)⟩

set_option maxRecDepth 100000 in
set_option maxHeartbeats 4000000 in
theorem word_Valid_ok (n : Nat) {w : World} {O0 : List Nat} (hO : ∀ k ∈ O0, k < w.heap.size) {Awx_0 : Option Addr} {mwx_0 cwx_0 : Nat} {wx_0 : List Int} (hwx_0 : Rep O0 w (.sl (.int .i64)) [.slice Awx_0 mwx_0 cwx_0] wx_0) {rank_1 : Int} (hrank_1 : I64 rank_1) {r : Bool} (hb : F.word_Valid n wx_0 rank_1 = some r) :
    Calls Try.prog 32 #[.slice Awx_0 mwx_0 cwx_0, .int .i64 rank_1] w fun e w' => ∃ v, e = .returned v ∧ v = .bool r ∧ Cx (fun _ => False) O0 w w' [] := by
  unfold F.word_Valid at hb
  have hC := Cx.start hO
  replace hC := hC.arg rfl hwx_0
  clear hO
  obtain ⟨rfl, hlwx_0, hcwx_0⟩ := hwx_0.sl_len
  refine calls_of_Wc Try.func32 rfl (by rw [Try.ntmps32]; exact Nat.le_of_ble_eq_true rfl) fun KR hKR => ?_
  refine Wc.seq fun K2 hK2 => ?_
  refine Wc.region (by decide +kernel) ?_
  refine lex.pure (v := .bool false) (pu_assign rfl) ?_
  refine lex.nil ?_
  refine hK2 _ _ ?_
  refine Wc.seq fun K3 hK3 => ?_
  refine Wc.seq fun K4 hK4 => ?_
  refine Wc.region (by decide +kernel) ?_
  refine lex.pure (v := .slice Awx_0 wx_0.length cwx_0) (pu_move rfl) ?_
  refine lex.pure (v := .int .i64 (wx_0.length : Int)) (pu_len (A := Awx_0) (n := wx_0.length) (m := cwx_0) Try.underlying27 rfl) ?_
  refine lex.pure (v := .int .i64 0) (pu_move rfl) ?_
  refine lex.nil ?_
  refine hK4 _ _ ?_
  obtain ⟨o5, hl0, hb⟩ := bd hb
  refine Wc.cut (fun E wv => ∃ (v9_0 : Int), E 4 = .bool false ∧ I64 v9_0 ∧ Cx (fun _ => False) O0 w wv [] ∧ (some true : Option (Bool)) = some r) (fun K6 hK6 => ?_) ?_
  · refine Wc.block ?_
    refine Wc.loop (fun m E wv => ∃ (v9_0 : Int), E 1 = .int .i64 rank_1 ∧ E 4 = .bool false ∧ E 7 = .slice Awx_0 wx_0.length cwx_0 ∧ E 8 = .int .i64 (wx_0.length : Int) ∧ E 9 = .int .i64 v9_0 ∧ I64 v9_0 ∧ Cx (fun _ => False) O0 w wv [.ro (.sl (.int .i64)) [.slice Awx_0 wx_0.length cwx_0] wx_0] ∧ loopN m (F.word_Valid_b0 n wx_0 rank_1) v9_0 = some o5) n ⟨0, rfl, rfl, rfl, rfl, rfl, (show I64 0 from by unfold I64; omega), hC.sel [0] (by decide), hl0⟩ ?_
    have hbK0 := hb
    clear hb hC hl0
    rintro m8 E10 w9 ⟨v9_0, e1, e4, e7, e8, e9, hrv9_0, hC, hl0⟩ K7 hK7
    obtain ⟨m8', o11, rfl, hb, hl0⟩ := loopN_some hl0
    unfold F.word_Valid_b0 at hb
    refine Wc.seq fun K12 hK12 => ?_
    refine Wc.region (by decide +kernel) ?_
    refine lex.pure (v := .bool (decide (v9_0 < (wx_0.length : Int)))) (pu_lss (k := .i64) (a := v9_0) (b := (wx_0.length : Int)) e9 e8) ?_
    refine lex.nil ?_
    refine hK12 _ _ ?_
    refine Wc.seq fun K13 hK13 => ?_
    refine Wc.cond (t := (decide (v9_0 < (wx_0.length : Int)))) (rfl) (fun hq14 => ?_) (fun hq14 => ?_)
    · replace hb := (cT hq14).symm.trans hb
      refine Wc.skip ?_
      refine hK13 _ _ ?_
      refine Wc.seq fun K15 hK15 => ?_
      refine Wc.block ?_
      refine Wc.seq fun K16 hK16 => ?_
      refine Wc.region (by decide +kernel) ?_
      obtain ⟨x17, h18, hb⟩ := bd hb
      obtain ⟨ad19, cs20, hA, hc21, hr22⟩ := hC.elr (i := 0) rfl (get_some h18).2
      subst hA
      refine lex.pure (v := .pointer (some (ad19.add (v9_0.toNat * 1)))) (pu_index (a := v9_0) Try.underlying27 Try.sizeOf3 e7 e9 (get_some h18).1) ?_
      obtain ⟨rfl, hr22'⟩ := hr22
      refine lex.val (v := .int .i64 x17) (ld_one Try.isAgg3 rfl (hc21 0 _ rfl)) ?_
      refine lex.pure (v := .int .i64 x17) (pu_assign rfl) ?_
      refine lex.nil ?_
      refine hK16 _ _ ?_
      refine Wc.seq fun K23 hK23 => ?_
      refine Wc.region (by decide +kernel) ?_
      refine lex.pure (v := .int .i64 rank_1) (pu_move e1) ?_
      refine lex.pure (v := .bool (decide (rank_1 < 1))) (pu_lss (k := .i64) (a := rank_1) (b := 1) rfl rfl) ?_
      refine lex.pure (v := .bool (decide (rank_1 < 1))) (pu_move rfl) ?_
      rcases bS (decide (rank_1 < 1)) with hq24 | hq24
      · replace hb := (cT hq24).symm.trans hb
        refine lex.gskip (want_f rfl rfl (show _ = Value.bool (decide (rank_1 < 1)) from rfl) hq24) ?_
        refine lex.gskip (want_f rfl rfl (show _ = Value.bool (decide (rank_1 < 1)) from rfl) hq24) ?_
        refine lex.pure (v := .bool true) (pu_pickT (q := (decide (rank_1 < 1))) rfl hq24 rfl) ?_
        refine lex.pure (v := .bool true) (pu_move rfl) ?_
        refine lex.gskip (want_f rfl rfl (show _ = Value.bool true from rfl) rfl) ?_
        refine lex.gskip (want_f rfl rfl (show _ = Value.bool true from rfl) rfl) ?_
        refine lex.gskip (want_f rfl rfl (show _ = Value.bool true from rfl) rfl) ?_
        refine lex.pure (v := .bool true) (pu_pickT (q := true) rfl rfl rfl) ?_
        refine lex.pure (v := .bool true) (pu_move rfl) ?_
        refine lex.gskip (want_f rfl rfl (show _ = Value.bool true from rfl) rfl) ?_
        refine lex.gskip (want_f rfl rfl (show _ = Value.bool true from rfl) rfl) ?_
        refine lex.gskip (want_f rfl rfl (show _ = Value.bool true from rfl) rfl) ?_
        refine lex.gskip (want_f rfl rfl (show _ = Value.bool true from rfl) rfl) ?_
        refine lex.pure (v := .bool true) (pu_pickT (q := true) rfl rfl rfl) ?_
        refine lex.nil ?_
        refine hK23 _ _ ?_
        refine Wc.cond_true (rfl) ?_
        refine Wc.seq fun K25 hK25 => ?_
        refine Wc.region (by decide +kernel) ?_
        refine lex.pure (v := .bool false) (pu_assign rfl) ?_
        refine lex.nil ?_
        refine hK25 _ _ ?_
        obtain rfl := Option.some.inj hb
        obtain rfl := (lX hl0).symm
        replace hb := hbK0
        obtain rfl := Option.some.inj hb
        refine Wc.ret ?_
        refine hKR _ _ ?_
        refine ⟨_, res1 Try.results32 (show RV _ _ _ (.tmp _) (.bool false) from rfl), _, rfl, rfl, hC.sel [] (by decide)⟩
      · replace hb := (cF hq24).symm.trans hb
        refine lex.gpure (want_t rfl rfl (show _ = Value.bool (decide (rank_1 < 1)) from rfl) hq24) (v := .int .i64 x17) (pu_move rfl) ?_
        refine lex.gpure (want_t rfl rfl (show _ = Value.bool (decide (rank_1 < 1)) from rfl) hq24) (v := .bool (decide (x17 = 0))) (pu_eql (k := .i64) (a := x17) (b := 0) rfl rfl) ?_
        refine lex.pure (v := .bool (decide (x17 = 0))) (pu_pickF (q := (decide (rank_1 < 1))) rfl hq24 rfl) ?_
        refine lex.pure (v := .bool (decide (x17 = 0))) (pu_move rfl) ?_
        rcases bS (decide (x17 = 0)) with hq26 | hq26
        · replace hb := (cT hq26).symm.trans hb
          refine lex.gskip (want_f rfl rfl (show _ = Value.bool (decide (x17 = 0)) from rfl) hq26) ?_
          refine lex.gskip (want_f rfl rfl (show _ = Value.bool (decide (x17 = 0)) from rfl) hq26) ?_
          refine lex.gskip (want_f rfl rfl (show _ = Value.bool (decide (x17 = 0)) from rfl) hq26) ?_
          refine lex.pure (v := .bool true) (pu_pickT (q := (decide (x17 = 0))) rfl hq26 rfl) ?_
          refine lex.pure (v := .bool true) (pu_move rfl) ?_
          refine lex.gskip (want_f rfl rfl (show _ = Value.bool true from rfl) rfl) ?_
          refine lex.gskip (want_f rfl rfl (show _ = Value.bool true from rfl) rfl) ?_
          refine lex.gskip (want_f rfl rfl (show _ = Value.bool true from rfl) rfl) ?_
          refine lex.gskip (want_f rfl rfl (show _ = Value.bool true from rfl) rfl) ?_
          refine lex.pure (v := .bool true) (pu_pickT (q := true) rfl rfl rfl) ?_
          refine lex.nil ?_
          refine hK23 _ _ ?_
          refine Wc.cond_true (rfl) ?_
          refine Wc.seq fun K27 hK27 => ?_
          refine Wc.region (by decide +kernel) ?_
          refine lex.pure (v := .bool false) (pu_assign rfl) ?_
          refine lex.nil ?_
          refine hK27 _ _ ?_
          obtain rfl := Option.some.inj hb
          obtain rfl := (lX hl0).symm
          replace hb := hbK0
          obtain rfl := Option.some.inj hb
          refine Wc.ret ?_
          refine hKR _ _ ?_
          refine ⟨_, res1 Try.results32 (show RV _ _ _ (.tmp _) (.bool false) from rfl), _, rfl, rfl, hC.sel [] (by decide)⟩
        · replace hb := (cF hq26).symm.trans hb
          refine lex.gpure (want_t rfl rfl (show _ = Value.bool (decide (x17 = 0)) from rfl) hq26) (v := .int .i64 x17) (pu_move rfl) ?_
          refine lex.gpure (want_t rfl rfl (show _ = Value.bool (decide (x17 = 0)) from rfl) hq26) (v := .int .i64 rank_1) (pu_move e1) ?_
          refine lex.gpure (want_t rfl rfl (show _ = Value.bool (decide (x17 = 0)) from rfl) hq26) (v := .bool (decide (rank_1 < x17))) (pu_gtr (k := .i64) (a := x17) (b := rank_1) rfl rfl) ?_
          refine lex.pure (v := .bool (decide (rank_1 < x17))) (pu_pickF (q := (decide (x17 = 0))) rfl hq26 rfl) ?_
          refine lex.pure (v := .bool (decide (rank_1 < x17))) (pu_move rfl) ?_
          rcases bS (decide (rank_1 < x17)) with hq28 | hq28
          · replace hb := (cT hq28).symm.trans hb
            refine lex.gskip (want_f rfl rfl (show _ = Value.bool (decide (rank_1 < x17)) from rfl) hq28) ?_
            refine lex.gskip (want_f rfl rfl (show _ = Value.bool (decide (rank_1 < x17)) from rfl) hq28) ?_
            refine lex.gskip (want_f rfl rfl (show _ = Value.bool (decide (rank_1 < x17)) from rfl) hq28) ?_
            refine lex.gskip (want_f rfl rfl (show _ = Value.bool (decide (rank_1 < x17)) from rfl) hq28) ?_
            refine lex.pure (v := .bool true) (pu_pickT (q := (decide (rank_1 < x17))) rfl hq28 rfl) ?_
            refine lex.nil ?_
            refine hK23 _ _ ?_
            refine Wc.cond_true (rfl) ?_
            refine Wc.seq fun K29 hK29 => ?_
            refine Wc.region (by decide +kernel) ?_
            refine lex.pure (v := .bool false) (pu_assign rfl) ?_
            refine lex.nil ?_
            refine hK29 _ _ ?_
            obtain rfl := Option.some.inj hb
            obtain rfl := (lX hl0).symm
            replace hb := hbK0
            obtain rfl := Option.some.inj hb
            refine Wc.ret ?_
            refine hKR _ _ ?_
            refine ⟨_, res1 Try.results32 (show RV _ _ _ (.tmp _) (.bool false) from rfl), _, rfl, rfl, hC.sel [] (by decide)⟩
          · replace hb := (cF hq28).symm.trans hb
            refine lex.gpure (want_t rfl rfl (show _ = Value.bool (decide (rank_1 < x17)) from rfl) hq28) (v := .int .i64 x17) (pu_move rfl) ?_
            refine lex.gpure (want_t rfl rfl (show _ = Value.bool (decide (rank_1 < x17)) from rfl) hq28) (v := .int .i64 rank_1) (pu_move e1) ?_
            obtain ⟨z30, h31, hb⟩ := bd hb
            refine lex.gpure (want_t rfl rfl (show _ = Value.bool (decide (rank_1 < x17)) from rfl) hq28) (v := .int .i64 z30) (pu_negc (a := rank_1) rfl h31) ?_
            refine lex.gpure (want_t rfl rfl (show _ = Value.bool (decide (rank_1 < x17)) from rfl) hq28) (v := .bool (decide (x17 < z30))) (pu_lss (k := .i64) (a := x17) (b := z30) rfl rfl) ?_
            refine lex.pure (v := .bool (decide (x17 < z30))) (pu_pickF (q := (decide (rank_1 < x17))) rfl hq28 rfl) ?_
            refine lex.nil ?_
            refine hK23 _ _ ?_
            refine Wc.cond (t := (decide (x17 < z30))) (rfl) (fun hq32 => ?_) (fun hq32 => ?_)
            · replace hb := (cT hq32).symm.trans hb
              refine Wc.seq fun K33 hK33 => ?_
              refine Wc.region (by decide +kernel) ?_
              refine lex.pure (v := .bool false) (pu_assign rfl) ?_
              refine lex.nil ?_
              refine hK33 _ _ ?_
              obtain rfl := Option.some.inj hb
              obtain rfl := (lX hl0).symm
              replace hb := hbK0
              obtain rfl := Option.some.inj hb
              refine Wc.ret ?_
              refine hKR _ _ ?_
              refine ⟨_, res1 Try.results32 (show RV _ _ _ (.tmp _) (.bool false) from rfl), _, rfl, rfl, hC.sel [] (by decide)⟩
            · replace hb := (cF hq32).symm.trans hb
              refine Wc.skip ?_
              refine hK15 _ _ ?_
              refine Wc.region (by decide +kernel) ?_
              obtain ⟨z34, h35, hb⟩ := bd hb
              refine lex.pure (v := .int .i64 z34) (pu_addc (a := v9_0) (b := 1) e9 rfl h35) ?_
              refine lex.pure (v := .int .i64 z34) (pu_move rfl) ?_
              refine lex.nil ?_
              obtain rfl := Option.some.inj hb
              exact hK7 m8' _ _ (Nat.lt_succ_self _) ⟨z34, e1, e4, e7, e8, rfl, (chk_rng h35), hC.sel [0] (by decide), lN hl0⟩
    · replace hb := (cF hq14).symm.trans hb
      refine Wc.exit rfl ?_
      obtain rfl := Option.some.inj hb
      obtain rfl := (lX hl0).symm
      exact hK6 _ _ ⟨v9_0, e4, hrv9_0, hC.sel [] (by decide), hbK0⟩
  · clear hb hC hl0
    rintro E37 w36 ⟨v9_0, e4, hrv9_0, hC, hb⟩
    refine hK3 _ _ ?_
    refine Wc.seq fun K38 hK38 => ?_
    refine Wc.region (by decide +kernel) ?_
    refine lex.pure (v := .bool true) (pu_assign rfl) ?_
    refine lex.nil ?_
    refine hK38 _ _ ?_
    obtain rfl := Option.some.inj hb
    refine Wc.ret ?_
    refine hKR _ _ ?_
    refine ⟨_, res1 Try.results32 (show RV _ _ _ (.tmp _) (.bool true) from rfl), _, rfl, rfl, hC.sel [] (by decide)⟩

set_option maxRecDepth 100000 in
set_option maxHeartbeats 4000000 in
theorem word_push_ok (n : Nat) {w : World} {O0 : List Nat} (hO : ∀ k ∈ O0, k < w.heap.size) {Astack_0 : Option Addr} {mstack_0 cstack_0 : Nat} {stack_0 : List Int} {Aletters_1 : Option Addr} {mletters_1 cletters_1 : Nat} {letters_1 : List Int} (hletters_1 : Rep O0 w (.sl (.int .i64)) [.slice Aletters_1 mletters_1 cletters_1] letters_1) (hio : Tk O0 w [.own 3 (.int .i64) (.slice Astack_0 mstack_0 cstack_0) stack_0]) {r : (List Int)} (hb : F.word_push n stack_0 letters_1 = some r) :
    Calls Try.prog 56 #[.slice Astack_0 mstack_0 cstack_0, .slice Aletters_1 mletters_1 cletters_1] w fun e w' => ∃ v, e = .returned v ∧ ∃ (A0 : Option Addr) (m0 c0 : Nat), v = .slice A0 m0 c0 ∧ Cx (fun k => k ∈ blocks [.own 3 (.int .i64) (.slice Astack_0 mstack_0 cstack_0) stack_0]) O0 w w' [.own 3 (.int .i64) (.slice A0 m0 c0) r] := by
  unfold F.word_push at hb
  have hC := Cx.startTk hO hio
  have hsub := hio.2.2
  replace hC := hC.argTk (by first | exact hsub | exact fun k hk => hsub k (by simpa [blocks, Fact.blk] using hk)) hletters_1
  clear hO
  obtain ⟨rfl, hlletters_1, hcletters_1⟩ := hletters_1.sl_len
  obtain ⟨rfl, hlstack_0, hcstack_0⟩ := (hC.ow (i := 1) rfl).sl_len
  clear hio hsub
  obtain ⟨I, hI, hC⟩ : ∃ I : Nat → Prop, I = (fun k => k ∈ blocks [.own 3 (.int .i64) (.slice Astack_0 stack_0.length cstack_0) stack_0]) ∧ Cx I O0 w w ([.ro (.sl (.int .i64)) [.slice Aletters_1 letters_1.length cletters_1] letters_1, .own 3 (.int .i64) (.slice Astack_0 stack_0.length cstack_0) stack_0]) := ⟨_, rfl, hC⟩
  refine calls_of_Wc Try.func56 rfl (by rw [Try.ntmps56]; exact Nat.le_of_ble_eq_true rfl) fun KR hKR => ?_
  refine Wc.seq fun K3 hK3 => ?_
  refine Wc.region (by decide +kernel) ?_
  refine lex.pure (v := .slice none 0 0) (pu_assign rfl) ?_
  refine lex.nil ?_
  refine hK3 _ _ ?_
  refine Wc.seq fun K4 hK4 => ?_
  refine Wc.seq fun K5 hK5 => ?_
  refine Wc.region (by decide +kernel) ?_
  refine lex.pure (v := .slice Aletters_1 letters_1.length cletters_1) (pu_move rfl) ?_
  refine lex.pure (v := .int .i64 (letters_1.length : Int)) (pu_len (A := Aletters_1) (n := letters_1.length) (m := cletters_1) Try.underlying22 rfl) ?_
  refine lex.pure (v := .int .i64 0) (pu_move rfl) ?_
  refine lex.nil ?_
  refine hK5 _ _ ?_
  obtain ⟨o6, hl0, hb⟩ := bd hb
  refine Wc.cut (fun E wv => ∃ (l0_0 : List Int) (v10_0 : Int) (Al0_0 : Option Addr) (ml0_0 cl0_0 : Nat), E 0 = .slice Al0_0 ml0_0 cl0_0 ∧ E 4 = .slice none 0 0 ∧ I64 v10_0 ∧ Cx I O0 w wv [.own 3 (.int .i64) (.slice Al0_0 ml0_0 cl0_0) l0_0] ∧ (some l0_0 : Option ((List Int))) = some r) (fun K7 hK7 => ?_) ?_
  · refine Wc.block ?_
    refine Wc.loop (fun m E wv => ∃ (l0_0 : List Int) (v10_0 : Int) (Al0_0 : Option Addr) (ml0_0 cl0_0 : Nat), E 0 = .slice Al0_0 ml0_0 cl0_0 ∧ E 4 = .slice none 0 0 ∧ E 8 = .slice Aletters_1 letters_1.length cletters_1 ∧ E 9 = .int .i64 (letters_1.length : Int) ∧ E 10 = .int .i64 v10_0 ∧ I64 v10_0 ∧ Cx I O0 w wv [.own 3 (.int .i64) (.slice Al0_0 ml0_0 cl0_0) l0_0, .ro (.sl (.int .i64)) [.slice Aletters_1 letters_1.length cletters_1] letters_1] ∧ loopN m (F.word_push_b0 n letters_1) (l0_0, v10_0) = some o6) n ⟨stack_0, 0, Astack_0, stack_0.length, cstack_0, rfl, rfl, rfl, rfl, rfl, (show I64 0 from by unfold I64; omega), hC.sel [1, 0] (by decide), hl0⟩ ?_
    have hbK0 := hb
    clear hb hC hl0
    rintro m9 E11 w10 ⟨l0_0, v10_0, Al0_0, ml0_0, cl0_0, e0, e4, e8, e9, e10, hrv10_0, hC, hl0⟩ K8 hK8
    obtain ⟨m9', o12, rfl, hb, hl0⟩ := loopN_some hl0
    unfold F.word_push_b0 at hb
    obtain ⟨rfl, hll0_0, hcl0_0⟩ := (hC.ow (i := 0) rfl).sl_len
    refine Wc.seq fun K13 hK13 => ?_
    refine Wc.region (by decide +kernel) ?_
    refine lex.pure (v := .bool (decide (v10_0 < (letters_1.length : Int)))) (pu_lss (k := .i64) (a := v10_0) (b := (letters_1.length : Int)) e10 e9) ?_
    refine lex.nil ?_
    refine hK13 _ _ ?_
    refine Wc.seq fun K14 hK14 => ?_
    refine Wc.cond (t := (decide (v10_0 < (letters_1.length : Int)))) (rfl) (fun hq15 => ?_) (fun hq15 => ?_)
    · replace hb := (cT hq15).symm.trans hb
      refine Wc.skip ?_
      refine hK14 _ _ ?_
      refine Wc.seq fun K16 hK16 => ?_
      refine Wc.block ?_
      refine Wc.seq fun K17 hK17 => ?_
      refine Wc.region (by decide +kernel) ?_
      obtain ⟨x18, h19, hb⟩ := bd hb
      obtain ⟨ad20, cs21, hA, hc22, hr23⟩ := hC.elr (i := 1) rfl (get_some h19).2
      subst hA
      refine lex.pure (v := .pointer (some (ad20.add (v10_0.toNat * 1)))) (pu_index (a := v10_0) Try.underlying22 Try.sizeOf3 e8 e10 (get_some h19).1) ?_
      obtain ⟨rfl, hr23'⟩ := hr23
      refine lex.val (v := .int .i64 x18) (ld_one Try.isAgg3 rfl (hc22 0 _ rfl)) ?_
      refine lex.pure (v := .int .i64 x18) (pu_assign rfl) ?_
      refine lex.nil ?_
      refine hK17 _ _ ?_
      refine Wc.seq fun K24 hK24 => ?_
      refine Wc.region (by decide +kernel) ?_
      refine lex.pure (v := .slice Al0_0 l0_0.length cl0_0) (pu_move e0) ?_
      refine lex.pure (v := .int .i64 (l0_0.length : Int)) (pu_len (A := Al0_0) (n := l0_0.length) (m := cl0_0) Try.underlying27 rfl) ?_
      obtain ⟨z25, h26, hb⟩ := bd hb
      refine lex.pure (v := .int .i64 z25) (pu_subc (a := (l0_0.length : Int)) (b := 1) rfl rfl h26) ?_
      refine lex.pure (v := .int .i64 z25) (pu_assign rfl) ?_
      refine lex.nil ?_
      refine hK24 _ _ ?_
      refine Wc.seq fun K27 hK27 => ?_
      refine Wc.region (by decide +kernel) ?_
      refine lex.pure (v := .int .i64 z25) (pu_move rfl) ?_
      refine lex.pure (v := .bool (decide (0 ≤ z25))) (pu_geq (k := .i64) (a := z25) (b := 0) rfl rfl) ?_
      refine lex.pure (v := .bool (decide (0 ≤ z25))) (pu_move rfl) ?_
      rcases bS (decide (0 ≤ z25)) with hq28 | hq28
      · replace hb := (cT hq28).symm.trans hb
        refine lex.gpure (want_t rfl rfl (show _ = Value.bool (decide (0 ≤ z25)) from rfl) hq28) (v := .slice Al0_0 l0_0.length cl0_0) (pu_move e0) ?_
        refine lex.gpure (want_t rfl rfl (show _ = Value.bool (decide (0 ≤ z25)) from rfl) hq28) (v := .int .i64 z25) (pu_move rfl) ?_
        obtain ⟨x29, h30, hb⟩ := bd hb
        obtain ⟨ad31, cs32, hA, hc33, hr34⟩ := hC.elo (i := 0) rfl (get_some h30).2
        subst hA
        refine lex.gpure (want_t rfl rfl (show _ = Value.bool (decide (0 ≤ z25)) from rfl) hq28) (v := .pointer (some (ad31.add (z25.toNat * 1)))) (pu_index (a := z25) Try.underlying27 Try.sizeOf3 rfl rfl (get_some h30).1) ?_
        obtain ⟨rfl, hr34'⟩ := hr34
        refine lex.gval (want_t rfl rfl (show _ = Value.bool (decide (0 ≤ z25)) from rfl) hq28) (v := .int .i64 x29) (ld_one Try.isAgg3 rfl (hc33 0 _ rfl)) ?_
        refine lex.gpure (want_t rfl rfl (show _ = Value.bool (decide (0 ≤ z25)) from rfl) hq28) (v := .int .i64 x18) (pu_move rfl) ?_
        obtain ⟨z35, h36, hb⟩ := bd hb
        refine lex.gpure (want_t rfl rfl (show _ = Value.bool (decide (0 ≤ z25)) from rfl) hq28) (v := .int .i64 z35) (pu_negc (a := x18) rfl h36) ?_
        refine lex.gpure (want_t rfl rfl (show _ = Value.bool (decide (0 ≤ z25)) from rfl) hq28) (v := .bool (decide (x29 = z35))) (pu_eql (k := .i64) (a := x29) (b := z35) rfl rfl) ?_
        refine lex.pure (v := .bool (decide (x29 = z35))) (pu_pickT (q := (decide (0 ≤ z25))) rfl hq28 rfl) ?_
        refine lex.nil ?_
        refine hK27 _ _ ?_
        refine Wc.fresh fun E37 hE => ?_
        have e0 : E37 0 = .slice (some ad31) l0_0.length cl0_0 := (congrFun hE 0).trans e0
        have e4 : E37 4 = .slice none 0 0 := (congrFun hE 4).trans e4
        have e6 : E37 6 = .int .i64 x18 := (congrFun hE 6).trans rfl
        have e7 : E37 7 = .int .i64 z25 := (congrFun hE 7).trans rfl
        have e8 : E37 8 = .slice (some ad20) letters_1.length cletters_1 := (congrFun hE 8).trans e8
        have e9 : E37 9 = .int .i64 (letters_1.length : Int) := (congrFun hE 9).trans e9
        have e10 : E37 10 = .int .i64 v10_0 := (congrFun hE 10).trans e10
        have e11 : E37 11 = .bool (decide (v10_0 < (letters_1.length : Int))) := (congrFun hE 11).trans rfl
        have e27 : E37 27 = .bool (decide (x29 = z35)) := (congrFun hE 27).trans rfl
        clear hE
        refine Wc.cond (t := (decide (x29 = z35))) (e27) (fun hq38 => ?_) (fun hq38 => ?_)
        · replace hb := (cT hq38).symm.trans hb
          refine Wc.region (by decide +kernel) ?_
          refine lex.pure (v := .slice (some ad31) l0_0.length cl0_0) (pu_move e0) ?_
          refine lex.pure (v := .int .i64 z25) (pu_move e7) ?_
          obtain ⟨u39, h40, hb⟩ := bd hb
          refine lex.pure (v := .slice (some ad31) ((l0_0.take z25.toNat).length) cl0_0) (pu_cuth (b := z25) Try.underlying27 Try.sizeOf3 rfl rfl (hC.ow (i := 0) rfl).sl_len (cut_some h40)) ?_
          replace hC := hC.cuth (i := 0) rfl (k := z25.toNat) (by have := cut_some h40; omega)
          obtain ⟨-, hl41, hc42⟩ := (hC.ow (i := 0) rfl).sl_len
          refine lex.pure (v := .slice (some ad31) ((l0_0.take z25.toNat).length) cl0_0) (pu_assign rfl) ?_
          refine lex.nil ?_
          refine hK16 _ _ ?_
          refine Wc.region (by decide +kernel) ?_
          obtain ⟨z43, h44, hb⟩ := bd hb
          refine lex.pure (v := .int .i64 z43) (pu_addc (a := v10_0) (b := 1) e10 rfl h44) ?_
          refine lex.pure (v := .int .i64 z43) (pu_move rfl) ?_
          refine lex.nil ?_
          obtain rfl := Option.some.inj hb
          exact hK8 m9' _ _ (Nat.lt_succ_self _) ⟨(l0_0.take z25.toNat), z43, (some ad31), (l0_0.take z25.toNat).length, cl0_0, rfl, e4, e8, e9, rfl, (chk_rng h44), hC.sel [0, 1] (by decide), lN hl0⟩
        · replace hb := (cF hq38).symm.trans hb
          refine Wc.region (by decide +kernel) ?_
          refine lex.pure (v := .slice (some ad31) l0_0.length cl0_0) (pu_move e0) ?_
          refine lex.pure (v := .int .i64 x18) (pu_move e6) ?_
          refine lex.op (hC.lit (s := (.int .i64)) (vs := [.int .i64 x18]) (xs := [x18]) Try.underlying27 Try.type3 rfl rfl (Nat.le_of_ble_eq_true rfl) rfl rfl (by simp [Value.cells, Sh.n]) rfl (show Elems _ _ (.int .i64) ([.int .i64 x18] ++ ([])) ([x18] : List Int) from Elems.cons (⟨rfl, I64.wr (wrap_I64 hr23')⟩) (Elems.nil _ _ _))) ?_
          rintro _ w49 ⟨A45, c46, rfl, hl47, hc48, hC, hF, hN⟩
          clear hF hN
          obtain ⟨u51, h52, hb⟩ := bd hb
          refine lex.op (hC.app (i := 1) (s := (.int .i64)) (xs := l0_0) (ys := ([x18] : List Int)) (m := ((([x18] : List Int)).length)) rfl Try.underlying27 Try.underlying27 Try.type3 rfl rfl rfl (hC.srco (i := 0) rfl) rfl rfl (by have := lim_some h52; simp at this ⊢ <;> omega) (by decide)) ?_
          rintro _ w57 ⟨A53, c54, rfl, hl55, hc56, hC, hF, hN⟩
          clear hF hN
          refine lex.pure (v := .slice A53 ((l0_0 ++ ([x18] : List Int)).length) c54) (pu_assign rfl) ?_
          refine lex.nil ?_
          refine hK16 _ _ ?_
          refine Wc.region (by decide +kernel) ?_
          obtain ⟨z58, h59, hb⟩ := bd hb
          refine lex.pure (v := .int .i64 z58) (pu_addc (a := v10_0) (b := 1) e10 rfl h59) ?_
          refine lex.pure (v := .int .i64 z58) (pu_move rfl) ?_
          refine lex.nil ?_
          obtain rfl := Option.some.inj hb
          exact hK8 m9' _ _ (Nat.lt_succ_self _) ⟨(l0_0 ++ ([x18] : List Int)), z58, A53, (l0_0 ++ ([x18] : List Int)).length, c54, rfl, e4, e8, e9, rfl, (chk_rng h59), hC.sel [1, 2] (by decide), lN hl0⟩
      · replace hb := (cF hq28).symm.trans hb
        refine lex.gskip (want_f rfl rfl (show _ = Value.bool (decide (0 ≤ z25)) from rfl) hq28) ?_
        refine lex.gskip (want_f rfl rfl (show _ = Value.bool (decide (0 ≤ z25)) from rfl) hq28) ?_
        refine lex.gskip (want_f rfl rfl (show _ = Value.bool (decide (0 ≤ z25)) from rfl) hq28) ?_
        refine lex.gskip (want_f rfl rfl (show _ = Value.bool (decide (0 ≤ z25)) from rfl) hq28) ?_
        refine lex.gskip (want_f rfl rfl (show _ = Value.bool (decide (0 ≤ z25)) from rfl) hq28) ?_
        refine lex.gskip (want_f rfl rfl (show _ = Value.bool (decide (0 ≤ z25)) from rfl) hq28) ?_
        refine lex.gskip (want_f rfl rfl (show _ = Value.bool (decide (0 ≤ z25)) from rfl) hq28) ?_
        refine lex.pure (v := .bool false) (pu_pickF (q := (decide (0 ≤ z25))) rfl hq28 rfl) ?_
        refine lex.nil ?_
        refine hK27 _ _ ?_
        refine Wc.fresh fun E60 hE => ?_
        have e0 : E60 0 = .slice Al0_0 l0_0.length cl0_0 := (congrFun hE 0).trans e0
        have e4 : E60 4 = .slice none 0 0 := (congrFun hE 4).trans e4
        have e6 : E60 6 = .int .i64 x18 := (congrFun hE 6).trans rfl
        have e7 : E60 7 = .int .i64 z25 := (congrFun hE 7).trans rfl
        have e8 : E60 8 = .slice (some ad20) letters_1.length cletters_1 := (congrFun hE 8).trans e8
        have e9 : E60 9 = .int .i64 (letters_1.length : Int) := (congrFun hE 9).trans e9
        have e10 : E60 10 = .int .i64 v10_0 := (congrFun hE 10).trans e10
        have e11 : E60 11 = .bool (decide (v10_0 < (letters_1.length : Int))) := (congrFun hE 11).trans rfl
        have e27 : E60 27 = .bool false := (congrFun hE 27).trans rfl
        clear hE
        refine Wc.cond_false (e27) ?_
        refine Wc.region (by decide +kernel) ?_
        refine lex.pure (v := .slice Al0_0 l0_0.length cl0_0) (pu_move e0) ?_
        refine lex.pure (v := .int .i64 x18) (pu_move e6) ?_
        refine lex.op (hC.lit (s := (.int .i64)) (vs := [.int .i64 x18]) (xs := [x18]) Try.underlying27 Try.type3 rfl rfl (Nat.le_of_ble_eq_true rfl) rfl rfl (by simp [Value.cells, Sh.n]) rfl (show Elems _ _ (.int .i64) ([.int .i64 x18] ++ ([])) ([x18] : List Int) from Elems.cons (⟨rfl, I64.wr (wrap_I64 hr23')⟩) (Elems.nil _ _ _))) ?_
        rintro _ w65 ⟨A61, c62, rfl, hl63, hc64, hC, hF, hN⟩
        clear hF hN
        obtain ⟨u67, h68, hb⟩ := bd hb
        refine lex.op (hC.app (i := 1) (s := (.int .i64)) (xs := l0_0) (ys := ([x18] : List Int)) (m := ((([x18] : List Int)).length)) rfl Try.underlying27 Try.underlying27 Try.type3 rfl rfl rfl (hC.srco (i := 0) rfl) rfl rfl (by have := lim_some h68; simp at this ⊢ <;> omega) (by decide)) ?_
        rintro _ w73 ⟨A69, c70, rfl, hl71, hc72, hC, hF, hN⟩
        clear hF hN
        refine lex.pure (v := .slice A69 ((l0_0 ++ ([x18] : List Int)).length) c70) (pu_assign rfl) ?_
        refine lex.nil ?_
        refine hK16 _ _ ?_
        refine Wc.region (by decide +kernel) ?_
        obtain ⟨z74, h75, hb⟩ := bd hb
        refine lex.pure (v := .int .i64 z74) (pu_addc (a := v10_0) (b := 1) e10 rfl h75) ?_
        refine lex.pure (v := .int .i64 z74) (pu_move rfl) ?_
        refine lex.nil ?_
        obtain rfl := Option.some.inj hb
        exact hK8 m9' _ _ (Nat.lt_succ_self _) ⟨(l0_0 ++ ([x18] : List Int)), z74, A69, (l0_0 ++ ([x18] : List Int)).length, c70, rfl, e4, e8, e9, rfl, (chk_rng h75), hC.sel [1, 2] (by decide), lN hl0⟩
    · replace hb := (cF hq15).symm.trans hb
      refine Wc.exit rfl ?_
      obtain rfl := Option.some.inj hb
      obtain rfl := (lX hl0).symm
      exact hK7 _ _ ⟨l0_0, v10_0, Al0_0, l0_0.length, cl0_0, e0, e4, hrv10_0, hC.sel [0] (by decide), hbK0⟩
  · clear hb hC hl0
    rintro E77 w76 ⟨l0_0, v10_0, Al0_0, ml0_0, cl0_0, e0, e4, hrv10_0, hC, hb⟩
    obtain ⟨rfl, hll0_0, hcl0_0⟩ := (hC.ow (i := 0) rfl).sl_len
    refine hK4 _ _ ?_
    refine Wc.seq fun K78 hK78 => ?_
    refine Wc.region (by decide +kernel) ?_
    refine lex.pure (v := .slice Al0_0 l0_0.length cl0_0) (pu_move e0) ?_
    refine lex.pure (v := .slice Al0_0 l0_0.length cl0_0) (pu_assign rfl) ?_
    refine lex.nil ?_
    refine hK78 _ _ ?_
    obtain rfl := Option.some.inj hb
    subst hI
    refine Wc.ret ?_
    refine hKR _ _ ?_
    refine ⟨_, res1 Try.results56 (show RV _ _ _ (.tmp _) (.slice Al0_0 l0_0.length cl0_0) from rfl), _, rfl, Al0_0, l0_0.length, cl0_0, rfl, hC.sel [0] (by decide)⟩

set_option maxRecDepth 100000 in
set_option maxHeartbeats 4000000 in
theorem word_Reduce_ok (n : Nat) {w : World} {O0 : List Nat} (hO : ∀ k ∈ O0, k < w.heap.size) {Awx_0 : Option Addr} {mwx_0 cwx_0 : Nat} {wx_0 : List Int} (hwx_0 : Rep O0 w (.sl (.int .i64)) [.slice Awx_0 mwx_0 cwx_0] wx_0) {r : (List Int)} (hb : F.word_Reduce n wx_0 = some r) :
    Calls Try.prog 34 #[.slice Awx_0 mwx_0 cwx_0] w fun e w' => ∃ v, e = .returned v ∧ ∃ (A0 : Option Addr) (m0 c0 : Nat), v = .slice A0 m0 c0 ∧ Cx (fun _ => False) O0 w w' [.own 3 (.int .i64) (.slice A0 m0 c0) r] := by
  unfold F.word_Reduce at hb
  have hC := Cx.start hO
  replace hC := hC.arg rfl hwx_0
  clear hO
  obtain ⟨rfl, hlwx_0, hcwx_0⟩ := hwx_0.sl_len
  refine calls_of_Wc Try.func34 rfl (by rw [Try.ntmps34]; exact Nat.le_of_ble_eq_true rfl) fun KR hKR => ?_
  refine Wc.seq fun K2 hK2 => ?_
  refine Wc.region (by decide +kernel) ?_
  refine lex.pure (v := .slice none 0 0) (pu_assign rfl) ?_
  refine lex.nil ?_
  refine hK2 _ _ ?_
  refine Wc.seq fun K3 hK3 => ?_
  refine Wc.region (by decide +kernel) ?_
  refine lex.pure (v := .slice Awx_0 wx_0.length cwx_0) (pu_move rfl) ?_
  refine lex.pure (v := .int .i64 (wx_0.length : Int)) (pu_len (A := Awx_0) (n := wx_0.length) (m := cwx_0) Try.underlying27 rfl) ?_
  obtain ⟨u4, h5, hb⟩ := bd hb
  refine lex.op (hC.make0 (s := (.int .i64)) (n := (wx_0.length : Int)) Try.underlying27 Try.type3 rfl rfl rfl rfl (pos_some h5).1 (pos_some h5).2 (by decide)) ?_
  rintro _ w10 ⟨A6, c7, rfl, hl8, hc9, hC, hF, hN⟩
  clear hF hN
  refine lex.pure (v := .slice Awx_0 wx_0.length cwx_0) (pu_move rfl) ?_
  replace hC : Cx (fun _ => False) O0 w w10 ([.own 3 (.int .i64) (.slice A6 ((([] : List Int)).length) c7) ([] : List Int)] ++ [.ro (.sl (.int .i64)) [.slice Awx_0 wx_0.length cwx_0] wx_0]) := hC.sel [0, 1] (by decide)
  obtain ⟨y12, h13, hb⟩ := bd hb
  refine lex.cl (⟨_, _, op_call (vs := [.slice A6 ((([] : List Int)).length) c7, .slice Awx_0 wx_0.length cwx_0]) Try.call56 rfl rfl rfl, word_push_ok n hC.lt (hC.rd (i := 1) rfl) hC.give h13⟩) ?_
  rintro _ w18 ⟨A14, m15, c16, rfl, hK⟩
  replace hC := hC.back hK
  clear hK
  obtain ⟨rfl, hl19, hc20⟩ := (hC.ow (i := 0) rfl).sl_len
  refine lex.pure (v := .slice A14 y12.length c16) (pu_assign rfl) ?_
  refine lex.nil ?_
  refine hK3 _ _ ?_
  obtain rfl := Option.some.inj hb
  refine Wc.ret ?_
  refine hKR _ _ ?_
  refine ⟨_, res1 Try.results34 (show RV _ _ _ (.tmp _) (.slice A14 y12.length c16) from rfl), _, rfl, A14, y12.length, c16, rfl, hC.sel [0] (by decide)⟩

set_option maxRecDepth 100000 in
set_option maxHeartbeats 4000000 in
theorem artin_Act_c1_ok (n : Nat) {w : World} {O0 : List Nat} (hO : ∀ k ∈ O0, k < w.heap.size) {letter_0 : Int} (hletter_0 : I64 letter_0) {gu_1 : Nat} {u_1_0 : Int} (hu_1_0 : I64 u_1_0) {Au_1_1 : Option Addr} {mu_1_1 cu_1_1 : Nat} {u_1_1 : List Int} (hu_1_1 : Rep O0 w (.sl (.int .i64)) [.slice Au_1_1 mu_1_1 cu_1_1] u_1_1) (hio : Tk O0 w [.box gu_1 24 [.int .i64 u_1_0, .slice Au_1_1 mu_1_1 cu_1_1]]) {r : (List (List Int))} (hb : F.artin_Act_c1 n letter_0 u_1_0 u_1_1 = some r) :
    Calls Try.prog 33 #[.int .i64 letter_0, .pointer (some ⟨gu_1, 0, none⟩)] w fun e w' => ∃ v, e = .returned v ∧ ∃ (A0 : Option Addr) (m0 c0 : Nat), v = .slice A0 m0 c0 ∧ Cx (fun k => k ∈ blocks [.box gu_1 24 [.int .i64 u_1_0, .slice Au_1_1 mu_1_1 cu_1_1]]) O0 w w' [.own 27 (.sl (.int .i64)) (.slice A0 m0 c0) r, .box gu_1 24 [.int .i64 u_1_0, .slice Au_1_1 mu_1_1 cu_1_1]] := by
  unfold F.artin_Act_c1 at hb
  have hC := Cx.startTk hO hio
  have hsub := hio.2.2
  replace hC := hC.argTk (by first | exact hsub | exact fun k hk => hsub k (by simpa [blocks, Fact.blk] using hk)) hu_1_1
  clear hO
  obtain ⟨rfl, hlu_1_1, hcu_1_1⟩ := hu_1_1.sl_len
  clear hio hsub
  obtain ⟨I, hI, hC⟩ : ∃ I : Nat → Prop, I = (fun k => k ∈ blocks [.box gu_1 24 [.int .i64 u_1_0, .slice Au_1_1 u_1_1.length cu_1_1]]) ∧ Cx I O0 w w ([.ro (.sl (.int .i64)) [.slice Au_1_1 u_1_1.length cu_1_1] u_1_1, .box gu_1 24 [.int .i64 u_1_0, .slice Au_1_1 u_1_1.length cu_1_1]]) := ⟨_, rfl, hC⟩
  refine calls_of_Wc Try.func33 rfl (by rw [Try.ntmps33]; exact Nat.le_of_ble_eq_true rfl) fun KR hKR => ?_
  refine Wc.seq fun K3 hK3 => ?_
  refine Wc.region (by decide +kernel) ?_
  refine lex.pure (v := .slice none 0 0) (pu_assign rfl) ?_
  refine lex.nil ?_
  refine hK3 _ _ ?_
  refine Wc.seq fun K4 hK4 => ?_
  refine Wc.region (by decide +kernel) ?_
  refine lex.pure (v := .pointer (some ((⟨gu_1, 0, none⟩ : Addr).add 0))) (pu_field (sz := 1) Try.underlying24 rfl Try.sizeOf3 (by decide) rfl rfl) ?_
  refine lex.val (v := .int .i64 u_1_0) (ld_fld (hC.bx (i := 1) rfl) Try.isAgg3 rfl rfl) ?_
  obtain ⟨u5, h6, hb⟩ := bd hb
  refine lex.op (hC.make (s := (.sl (.int .i64))) (n := u_1_0) Try.underlying37 Try.type27 rfl rfl rfl rfl rfl (pos_some h6).1 (pos_some h6).2 (by decide)) ?_
  rintro _ w11 ⟨A7, c8, rfl, hl9, hc10, hC, hF, hN⟩
  clear hF hN
  refine lex.pure (v := .slice A7 (((List.replicate u_1_0.toNat ([] : List Int))).length) c8) (pu_assign rfl) ?_
  refine lex.nil ?_
  refine hK4 _ _ ?_
  refine Wc.seq fun K13 hK13 => ?_
  refine Wc.seq fun K14 hK14 => ?_
  refine Wc.region (by decide +kernel) ?_
  refine lex.pure (v := .slice A7 (((List.replicate u_1_0.toNat ([] : List Int))).length) c8) (pu_move rfl) ?_
  refine lex.pure (v := .int .i64 (((List.replicate u_1_0.toNat ([] : List Int))).length : Int)) (pu_len (A := A7) (n := ((List.replicate u_1_0.toNat ([] : List Int))).length) (m := c8) Try.underlying37 rfl) ?_
  refine lex.pure (v := .int .i64 0) (pu_move rfl) ?_
  refine lex.nil ?_
  refine hK14 _ _ ?_
  obtain ⟨o15, hl0, hb⟩ := bd hb
  refine Wc.cut (fun E wv => ∃ (v12_0 : Int) (qf12_0 : List (List Int)), E 0 = .int .i64 letter_0 ∧ E 3 = .slice none 0 0 ∧ E 4 = .slice A7 (((List.replicate u_1_0.toNat ([] : List Int))).length) c8 ∧ I64 v12_0 ∧ Cx I O0 w wv [.own 27 (.sl (.int .i64)) (.slice A7 (((List.replicate u_1_0.toNat ([] : List Int))).length) c8) qf12_0, .box gu_1 24 [.int .i64 u_1_0, .slice Au_1_1 u_1_1.length cu_1_1], .ro (.sl (.int .i64)) [.slice Au_1_1 u_1_1.length cu_1_1] u_1_1] ∧ (cond (decide (0 < letter_0)) ((chk (letter_0 - 1)).bind fun z50 => (chk (letter_0 + 1)).bind fun z52 => (chk (-letter_0)).bind fun z54 => (get qf12_0 z50).bind fun x68 => (get (qf12_0.set z50.toNat ([letter_0, z52, z54] : List Int)) letter_0).bind fun x75 => some ((qf12_0.set z50.toNat ([letter_0, z52, z54] : List Int)).set letter_0.toNat ([letter_0] : List Int))) ((chk (-letter_0)).bind fun z84 => (chk (z84 - 1)).bind fun z86 => (chk (z84 + 1)).bind fun z88 => (chk (z84 + 1)).bind fun z96 => (chk (-z96)).bind fun z98 => (chk (z84 + 1)).bind fun z100 => (get qf12_0 z86).bind fun x108 => (get (qf12_0.set z86.toNat ([z88] : List Int)) z84).bind fun x115 => some ((qf12_0.set z86.toNat ([z88] : List Int)).set z84.toNat ([z98, z84, z100] : List Int))) : Option ((List (List Int)))) = some r) (fun K16 hK16 => ?_) ?_
  · refine Wc.block ?_
    refine Wc.loop (fun m E wv => ∃ (v12_0 : Int) (qf12_0 : List (List Int)), E 0 = .int .i64 letter_0 ∧ E 3 = .slice none 0 0 ∧ E 4 = .slice A7 (((List.replicate u_1_0.toNat ([] : List Int))).length) c8 ∧ E 11 = .int .i64 (((List.replicate u_1_0.toNat ([] : List Int))).length : Int) ∧ E 12 = .int .i64 v12_0 ∧ I64 v12_0 ∧ Cx I O0 w wv [.own 27 (.sl (.int .i64)) (.slice A7 (((List.replicate u_1_0.toNat ([] : List Int))).length) c8) qf12_0, .box gu_1 24 [.int .i64 u_1_0, .slice Au_1_1 u_1_1.length cu_1_1], .ro (.sl (.int .i64)) [.slice Au_1_1 u_1_1.length cu_1_1] u_1_1] ∧ loopN m (F.artin_Act_c1_b0 n u_1_0) (v12_0, qf12_0) = some o15) n ⟨0, (List.replicate u_1_0.toNat ([] : List Int)), rfl, rfl, rfl, rfl, rfl, (show I64 0 from by unfold I64; omega), hC.sel [0, 2, 1] (by decide), hl0⟩ ?_
    have hbK0 := hb
    clear hb hC hl0
    rintro m18 E20 w19 ⟨v12_0, qf12_0, e0, e3, e4, e11, e12, hrv12_0, hC, hl0⟩ K17 hK17
    obtain ⟨m18', o21, rfl, hb, hl0⟩ := loopN_some hl0
    unfold F.artin_Act_c1_b0 at hb
    refine Wc.seq fun K22 hK22 => ?_
    refine Wc.region (by decide +kernel) ?_
    refine lex.pure (v := .bool (decide (v12_0 < (((List.replicate u_1_0.toNat ([] : List Int))).length : Int)))) (pu_lss (k := .i64) (a := v12_0) (b := (((List.replicate u_1_0.toNat ([] : List Int))).length : Int)) e12 e11) ?_
    refine lex.nil ?_
    refine hK22 _ _ ?_
    refine Wc.seq fun K23 hK23 => ?_
    refine Wc.cond (t := (decide (v12_0 < (((List.replicate u_1_0.toNat ([] : List Int))).length : Int)))) (rfl) (fun hq24 => ?_) (fun hq24 => ?_)
    · replace hb := (cT hq24).symm.trans hb
      refine Wc.skip ?_
      refine hK23 _ _ ?_
      refine Wc.seq fun K25 hK25 => ?_
      refine Wc.block ?_
      refine Wc.seq fun K26 hK26 => ?_
      refine Wc.region (by decide +kernel) ?_
      refine lex.pure (v := .int .i64 v12_0) (pu_move e12) ?_
      refine lex.pure (v := .int .i64 v12_0) (pu_assign rfl) ?_
      refine lex.nil ?_
      refine hK26 _ _ ?_
      refine Wc.region (by decide +kernel) ?_
      refine lex.pure (v := .slice A7 (((List.replicate u_1_0.toNat ([] : List Int))).length) c8) (pu_move e4) ?_
      refine lex.pure (v := .int .i64 v12_0) (pu_move rfl) ?_
      refine lex.pure (v := .int .i64 v12_0) (pu_move rfl) ?_
      obtain ⟨z27, h28, hb⟩ := bd hb
      refine lex.pure (v := .int .i64 z27) (pu_addc (a := v12_0) (b := 1) rfl rfl h28) ?_
      refine lex.op (hC.lit (s := (.int .i64)) (vs := [.int .i64 z27]) (xs := [z27]) Try.underlying27 Try.type3 rfl rfl (Nat.le_of_ble_eq_true rfl) rfl rfl (by simp [Value.cells, Sh.n]) rfl (show Elems _ _ (.int .i64) ([.int .i64 z27] ++ ([])) ([z27] : List Int) from Elems.cons (⟨rfl, I64.wr (chk_rng h28)⟩) (Elems.nil _ _ _))) ?_
      rintro _ w33 ⟨A29, c30, rfl, hl31, hc32, hC, hF, hN⟩
      clear hF hN
      obtain ⟨x35, h36, hb⟩ := bd hb
      obtain ⟨ad37, cs38, hA, hc39, hr40⟩ := hC.elo (i := 1) rfl (get_some h36).2
      subst hA
      refine lex.pure (v := .pointer (some (ad37.add (v12_0.toNat * 1)))) (pu_index (a := v12_0) Try.underlying37 Try.sizeOf27 rfl rfl (by rw [(hC.ow (i := 1) rfl).sl_len.1]; exact (get_some h36).1)) ?_
      replace hC := hC.freeze (i := 0) rfl (hC.own_newI hI (i := 0) rfl (List.forall_mem_cons.2 ⟨fun g hg => ⟨2, _, rfl, by decide, hg⟩, fun _ h => absurd h List.not_mem_nil⟩))
      refine lex.sk (hC.put (i := 1) rfl rfl Try.sizeOf27 (k := v12_0.toNat) (a := ([z27] : List Int)) (by have := (get_some h36).1; simp at this ⊢; omega) (hC.rd (i := 0) rfl) rfl rfl rfl) ?_
      rintro w41 ⟨hC, hF⟩
      refine lex.nil ?_
      refine hK25 _ _ ?_
      refine Wc.region (by decide +kernel) ?_
      obtain ⟨z42, h43, hb⟩ := bd hb
      refine lex.pure (v := .int .i64 z42) (pu_addc (a := v12_0) (b := 1) e12 rfl h43) ?_
      refine lex.pure (v := .int .i64 z42) (pu_move rfl) ?_
      refine lex.nil ?_
      obtain rfl := Option.some.inj hb
      exact hK17 m18' _ _ (Nat.lt_succ_self _) ⟨z42, (qf12_0.set v12_0.toNat ([z27] : List Int)), e0, e3, e4, e11, rfl, (chk_rng h43), hC.sel [1, 2, 3] (by decide), lN hl0⟩
    · replace hb := (cF hq24).symm.trans hb
      refine Wc.exit rfl ?_
      obtain rfl := Option.some.inj hb
      obtain rfl := (lX hl0).symm
      exact hK16 _ _ ⟨v12_0, qf12_0, e0, e3, e4, hrv12_0, hC.sel [0, 1, 2] (by decide), hbK0⟩
  · clear hb hC hl0
    rintro E45 w44 ⟨v12_0, qf12_0, e0, e3, e4, hrv12_0, hC, hb⟩
    refine hK13 _ _ ?_
    refine Wc.seq fun K46 hK46 => ?_
    refine Wc.seq fun K47 hK47 => ?_
    refine Wc.region (by decide +kernel) ?_
    refine lex.pure (v := .int .i64 letter_0) (pu_move e0) ?_
    refine lex.pure (v := .int .i64 letter_0) (pu_assign rfl) ?_
    refine lex.nil ?_
    refine hK47 _ _ ?_
    refine Wc.seq fun K48 hK48 => ?_
    refine Wc.region (by decide +kernel) ?_
    refine lex.pure (v := .int .i64 letter_0) (pu_move rfl) ?_
    refine lex.pure (v := .bool (decide (0 < letter_0))) (pu_gtr (k := .i64) (a := letter_0) (b := 0) rfl rfl) ?_
    refine lex.nil ?_
    refine hK48 _ _ ?_
    refine Wc.cond (t := (decide (0 < letter_0))) (rfl) (fun hq49 => ?_) (fun hq49 => ?_)
    · replace hb := (cT hq49).symm.trans hb
      refine Wc.region (by decide +kernel) ?_
      refine lex.pure (v := .slice A7 (((List.replicate u_1_0.toNat ([] : List Int))).length) c8) (pu_move e4) ?_
      refine lex.pure (v := .int .i64 letter_0) (pu_move rfl) ?_
      obtain ⟨z50, h51, hb⟩ := bd hb
      refine lex.pure (v := .int .i64 z50) (pu_subc (a := letter_0) (b := 1) rfl rfl h51) ?_
      refine lex.pure (v := .slice A7 (((List.replicate u_1_0.toNat ([] : List Int))).length) c8) (pu_move e4) ?_
      refine lex.pure (v := .int .i64 letter_0) (pu_move rfl) ?_
      refine lex.pure (v := .int .i64 letter_0) (pu_move rfl) ?_
      refine lex.pure (v := .int .i64 letter_0) (pu_move rfl) ?_
      obtain ⟨z52, h53, hb⟩ := bd hb
      refine lex.pure (v := .int .i64 z52) (pu_addc (a := letter_0) (b := 1) rfl rfl h53) ?_
      refine lex.pure (v := .int .i64 letter_0) (pu_move rfl) ?_
      obtain ⟨z54, h55, hb⟩ := bd hb
      refine lex.pure (v := .int .i64 z54) (pu_negc (a := letter_0) rfl h55) ?_
      refine lex.op (hC.lit (s := (.int .i64)) (vs := [.int .i64 letter_0, .int .i64 z52, .int .i64 z54]) (xs := [letter_0, z52, z54]) Try.underlying27 Try.type3 rfl rfl (Nat.le_of_ble_eq_true rfl) rfl rfl (by simp [Value.cells, Sh.n]) rfl (show Elems _ _ (.int .i64) ([.int .i64 letter_0] ++ ([.int .i64 z52] ++ ([.int .i64 z54] ++ ([])))) ([letter_0, z52, z54] : List Int) from Elems.cons (⟨rfl, I64.wr hletter_0⟩) (Elems.cons (⟨rfl, I64.wr (chk_rng h53)⟩) (Elems.cons (⟨rfl, I64.wr (chk_rng h55)⟩) (Elems.nil _ _ _))))) ?_
      rintro _ w60 ⟨A56, c57, rfl, hl58, hc59, hC, hF, hN⟩
      clear hF hN
      refine lex.pure (v := .int .i64 letter_0) (pu_move rfl) ?_
      refine lex.op (hC.lit (s := (.int .i64)) (vs := [.int .i64 letter_0]) (xs := [letter_0]) Try.underlying27 Try.type3 rfl rfl (Nat.le_of_ble_eq_true rfl) rfl rfl (by simp [Value.cells, Sh.n]) rfl (show Elems _ _ (.int .i64) ([.int .i64 letter_0] ++ ([])) ([letter_0] : List Int) from Elems.cons (⟨rfl, I64.wr hletter_0⟩) (Elems.nil _ _ _))) ?_
      rintro _ w66 ⟨A62, c63, rfl, hl64, hc65, hC, hF, hN⟩
      clear hF hN
      obtain ⟨x68, h69, hb⟩ := bd hb
      obtain ⟨ad70, cs71, hA, hc72, hr73⟩ := hC.elo (i := 2) rfl (get_some h69).2
      subst hA
      refine lex.pure (v := .pointer (some (ad70.add (z50.toNat * 1)))) (pu_index (a := z50) Try.underlying37 Try.sizeOf27 rfl rfl (by rw [(hC.ow (i := 2) rfl).sl_len.1]; exact (get_some h69).1)) ?_
      replace hC := hC.freeze (i := 1) rfl (hC.own_newI hI (i := 1) rfl (List.forall_mem_cons.2 ⟨fun g hg => ⟨3, _, rfl, by decide, hg⟩, fun _ h => absurd h List.not_mem_nil⟩))
      refine lex.sk (hC.put (i := 2) rfl rfl Try.sizeOf27 (k := z50.toNat) (a := ([letter_0, z52, z54] : List Int)) (by have := (get_some h69).1; simp at this ⊢; omega) (hC.rd (i := 1) rfl) rfl rfl rfl) ?_
      rintro w74 ⟨hC, hF⟩
      obtain ⟨x75, h76, hb⟩ := bd hb
      obtain ⟨ad77, cs78, hA, hc79, hr80⟩ := hC.elo (i := 2) rfl (get_some h76).2
      obtain rfl := Option.some.inj hA
      refine lex.pure (v := .pointer (some (ad70.add (letter_0.toNat * 1)))) (pu_index (a := letter_0) Try.underlying37 Try.sizeOf27 rfl rfl (by rw [(hC.ow (i := 2) rfl).sl_len.1]; exact (get_some h76).1)) ?_
      replace hC := hC.freeze (i := 0) rfl (hC.own_newI hI (i := 0) rfl (List.forall_mem_cons.2 ⟨fun g hg => ⟨3, _, rfl, by decide, hg⟩, fun _ h => absurd h List.not_mem_nil⟩))
      refine lex.sk (hC.put (i := 2) rfl rfl Try.sizeOf27 (k := letter_0.toNat) (a := ([letter_0] : List Int)) (by have := (get_some h76).1; simp at this ⊢; omega) (hC.rd (i := 0) rfl) rfl rfl rfl) ?_
      rintro w81 ⟨hC, hF⟩
      refine lex.nil ?_
      refine hK46 _ _ ?_
      refine Wc.seq fun K82 hK82 => ?_
      refine Wc.region (by decide +kernel) ?_
      refine lex.pure (v := .slice (some ad70) (((List.replicate u_1_0.toNat ([] : List Int))).length) c8) (pu_move e4) ?_
      refine lex.pure (v := .slice (some ad70) (((List.replicate u_1_0.toNat ([] : List Int))).length) c8) (pu_assign rfl) ?_
      refine lex.nil ?_
      refine hK82 _ _ ?_
      obtain rfl := Option.some.inj hb
      subst hI
      refine Wc.ret ?_
      refine hKR _ _ ?_
      refine ⟨_, res1 Try.results33 (show RV _ _ _ (.tmp _) (.slice (some ad70) (((List.replicate u_1_0.toNat ([] : List Int))).length) c8) from rfl), _, rfl, (some ad70), ((List.replicate u_1_0.toNat ([] : List Int))).length, c8, rfl, hC.sel [2, 3] (by decide)⟩
    · replace hb := (cF hq49).symm.trans hb
      refine Wc.seq fun K83 hK83 => ?_
      refine Wc.region (by decide +kernel) ?_
      refine lex.pure (v := .int .i64 letter_0) (pu_move e0) ?_
      obtain ⟨z84, h85, hb⟩ := bd hb
      refine lex.pure (v := .int .i64 z84) (pu_negc (a := letter_0) rfl h85) ?_
      refine lex.pure (v := .int .i64 z84) (pu_assign rfl) ?_
      refine lex.nil ?_
      refine hK83 _ _ ?_
      refine Wc.region (by decide +kernel) ?_
      refine lex.pure (v := .slice A7 (((List.replicate u_1_0.toNat ([] : List Int))).length) c8) (pu_move e4) ?_
      refine lex.pure (v := .int .i64 z84) (pu_move rfl) ?_
      obtain ⟨z86, h87, hb⟩ := bd hb
      refine lex.pure (v := .int .i64 z86) (pu_subc (a := z84) (b := 1) rfl rfl h87) ?_
      refine lex.pure (v := .slice A7 (((List.replicate u_1_0.toNat ([] : List Int))).length) c8) (pu_move e4) ?_
      refine lex.pure (v := .int .i64 z84) (pu_move rfl) ?_
      refine lex.pure (v := .int .i64 z84) (pu_move rfl) ?_
      obtain ⟨z88, h89, hb⟩ := bd hb
      refine lex.pure (v := .int .i64 z88) (pu_addc (a := z84) (b := 1) rfl rfl h89) ?_
      refine lex.op (hC.lit (s := (.int .i64)) (vs := [.int .i64 z88]) (xs := [z88]) Try.underlying27 Try.type3 rfl rfl (Nat.le_of_ble_eq_true rfl) rfl rfl (by simp [Value.cells, Sh.n]) rfl (show Elems _ _ (.int .i64) ([.int .i64 z88] ++ ([])) ([z88] : List Int) from Elems.cons (⟨rfl, I64.wr (chk_rng h89)⟩) (Elems.nil _ _ _))) ?_
      rintro _ w94 ⟨A90, c91, rfl, hl92, hc93, hC, hF, hN⟩
      clear hF hN
      refine lex.pure (v := .int .i64 z84) (pu_move rfl) ?_
      obtain ⟨z96, h97, hb⟩ := bd hb
      refine lex.pure (v := .int .i64 z96) (pu_addc (a := z84) (b := 1) rfl rfl h97) ?_
      obtain ⟨z98, h99, hb⟩ := bd hb
      refine lex.pure (v := .int .i64 z98) (pu_negc (a := z96) rfl h99) ?_
      refine lex.pure (v := .int .i64 z84) (pu_move rfl) ?_
      refine lex.pure (v := .int .i64 z84) (pu_move rfl) ?_
      obtain ⟨z100, h101, hb⟩ := bd hb
      refine lex.pure (v := .int .i64 z100) (pu_addc (a := z84) (b := 1) rfl rfl h101) ?_
      refine lex.op (hC.lit (s := (.int .i64)) (vs := [.int .i64 z98, .int .i64 z84, .int .i64 z100]) (xs := [z98, z84, z100]) Try.underlying27 Try.type3 rfl rfl (Nat.le_of_ble_eq_true rfl) rfl rfl (by simp [Value.cells, Sh.n]) rfl (show Elems _ _ (.int .i64) ([.int .i64 z98] ++ ([.int .i64 z84] ++ ([.int .i64 z100] ++ ([])))) ([z98, z84, z100] : List Int) from Elems.cons (⟨rfl, I64.wr (chk_rng h99)⟩) (Elems.cons (⟨rfl, I64.wr (chk_rng h85)⟩) (Elems.cons (⟨rfl, I64.wr (chk_rng h101)⟩) (Elems.nil _ _ _))))) ?_
      rintro _ w106 ⟨A102, c103, rfl, hl104, hc105, hC, hF, hN⟩
      clear hF hN
      obtain ⟨x108, h109, hb⟩ := bd hb
      obtain ⟨ad110, cs111, hA, hc112, hr113⟩ := hC.elo (i := 2) rfl (get_some h109).2
      subst hA
      refine lex.pure (v := .pointer (some (ad110.add (z86.toNat * 1)))) (pu_index (a := z86) Try.underlying37 Try.sizeOf27 rfl rfl (by rw [(hC.ow (i := 2) rfl).sl_len.1]; exact (get_some h109).1)) ?_
      replace hC := hC.freeze (i := 1) rfl (hC.own_newI hI (i := 1) rfl (List.forall_mem_cons.2 ⟨fun g hg => ⟨3, _, rfl, by decide, hg⟩, fun _ h => absurd h List.not_mem_nil⟩))
      refine lex.sk (hC.put (i := 2) rfl rfl Try.sizeOf27 (k := z86.toNat) (a := ([z88] : List Int)) (by have := (get_some h109).1; simp at this ⊢; omega) (hC.rd (i := 1) rfl) rfl rfl rfl) ?_
      rintro w114 ⟨hC, hF⟩
      obtain ⟨x115, h116, hb⟩ := bd hb
      obtain ⟨ad117, cs118, hA, hc119, hr120⟩ := hC.elo (i := 2) rfl (get_some h116).2
      obtain rfl := Option.some.inj hA
      refine lex.pure (v := .pointer (some (ad110.add (z84.toNat * 1)))) (pu_index (a := z84) Try.underlying37 Try.sizeOf27 rfl rfl (by rw [(hC.ow (i := 2) rfl).sl_len.1]; exact (get_some h116).1)) ?_
      replace hC := hC.freeze (i := 0) rfl (hC.own_newI hI (i := 0) rfl (List.forall_mem_cons.2 ⟨fun g hg => ⟨3, _, rfl, by decide, hg⟩, fun _ h => absurd h List.not_mem_nil⟩))
      refine lex.sk (hC.put (i := 2) rfl rfl Try.sizeOf27 (k := z84.toNat) (a := ([z98, z84, z100] : List Int)) (by have := (get_some h116).1; simp at this ⊢; omega) (hC.rd (i := 0) rfl) rfl rfl rfl) ?_
      rintro w121 ⟨hC, hF⟩
      refine lex.nil ?_
      refine hK46 _ _ ?_
      refine Wc.seq fun K122 hK122 => ?_
      refine Wc.region (by decide +kernel) ?_
      refine lex.pure (v := .slice (some ad110) (((List.replicate u_1_0.toNat ([] : List Int))).length) c8) (pu_move e4) ?_
      refine lex.pure (v := .slice (some ad110) (((List.replicate u_1_0.toNat ([] : List Int))).length) c8) (pu_assign rfl) ?_
      refine lex.nil ?_
      refine hK122 _ _ ?_
      obtain rfl := Option.some.inj hb
      subst hI
      refine Wc.ret ?_
      refine hKR _ _ ?_
      refine ⟨_, res1 Try.results33 (show RV _ _ _ (.tmp _) (.slice (some ad110) (((List.replicate u_1_0.toNat ([] : List Int))).length) c8) from rfl), _, rfl, (some ad110), ((List.replicate u_1_0.toNat ([] : List Int))).length, c8, rfl, hC.sel [2, 3] (by decide)⟩
end Go.Proofs.Ytlkmcbgkohpmiaa
