/- The walks: part 7. -/
import Derived.Test.YtlkmcbgkohpmiaaS
set_option linter.unusedVariables false
set_option linter.unusedSimpArgs false
namespace Go.Proofs.Ytlkmcbgkohpmiaa
open Ev
set_option maxRecDepth 100000 in
set_option maxHeartbeats 4000000 in
theorem ref33_Valid_ok (n : Nat) {w : World} {O0 : List Nat} (hO : ∀ k ∈ O0, k < w.heap.size) {strands_0 : Int} (hstrands_0 : I64 strands_0) {Aword_1 : Option Addr} {mword_1 cword_1 : Nat} {word_1 : List Int} (hword_1 : Rep O0 w (.sl (.int .i64)) [.slice Aword_1 mword_1 cword_1] word_1) {r : Bool} (hb : F.ref33_Valid n strands_0 word_1 = some r) :
    Calls Try.prog 12 #[.int .i64 strands_0, .slice Aword_1 mword_1 cword_1] w fun e w' => ∃ v, e = .returned v ∧ v = .bool r ∧ Cx (fun _ => False) O0 w w' [] := by
  unfold F.ref33_Valid at hb
  have hC := Cx.start hO
  replace hC := hC.arg rfl hword_1
  clear hO
  obtain ⟨rfl, hlword_1, hcword_1⟩ := hword_1.sl_len
  refine calls_of_Wc Try.func12 rfl (by rw [Try.ntmps12]; exact Nat.le_of_ble_eq_true rfl) fun KR hKR => ?_
  refine Wc.seq fun K2 hK2 => ?_
  refine Wc.region (by decide +kernel) ?_
  refine lex.pure (v := .bool false) (pu_assign rfl) ?_
  refine lex.nil ?_
  refine hK2 _ _ ?_
  refine Wc.seq fun K3 hK3 => ?_
  refine Wc.seq fun K4 hK4 => ?_
  refine Wc.region (by decide +kernel) ?_
  refine lex.pure (v := .int .i64 strands_0) (pu_move rfl) ?_
  refine lex.pure (v := .bool (decide (strands_0 < 1))) (pu_lss (k := .i64) (a := strands_0) (b := 1) rfl rfl) ?_
  refine lex.pure (v := .bool (decide (strands_0 < 1))) (pu_move rfl) ?_
  rcases bS (decide (strands_0 < 1)) with hq5 | hq5
  · replace hb := (cT hq5).symm.trans hb
    refine lex.gskip (want_f rfl rfl (show _ = Value.bool (decide (strands_0 < 1)) from rfl) hq5) ?_
    refine lex.gskip (want_f rfl rfl (show _ = Value.bool (decide (strands_0 < 1)) from rfl) hq5) ?_
    refine lex.pure (v := .bool true) (pu_pickT (q := (decide (strands_0 < 1))) rfl hq5 rfl) ?_
    refine lex.pure (v := .bool true) (pu_move rfl) ?_
    refine lex.gskip (want_f rfl rfl (show _ = Value.bool true from rfl) rfl) ?_
    refine lex.gskip (want_f rfl rfl (show _ = Value.bool true from rfl) rfl) ?_
    refine lex.gskip (want_f rfl rfl (show _ = Value.bool true from rfl) rfl) ?_
    refine lex.pure (v := .bool true) (pu_pickT (q := true) rfl rfl rfl) ?_
    refine lex.nil ?_
    refine hK4 _ _ ?_
    refine Wc.cond_true (rfl) ?_
    refine Wc.seq fun K6 hK6 => ?_
    refine Wc.region (by decide +kernel) ?_
    refine lex.pure (v := .bool false) (pu_assign rfl) ?_
    refine lex.nil ?_
    refine hK6 _ _ ?_
    obtain rfl := Option.some.inj hb
    refine Wc.ret ?_
    refine hKR _ _ ?_
    refine ⟨_, res1 Try.results12 (show RV _ _ _ (.tmp _) (.bool false) from rfl), _, rfl, rfl, hC.sel [] (by decide)⟩
  · replace hb := (cF hq5).symm.trans hb
    refine lex.gpure (want_t rfl rfl (show _ = Value.bool (decide (strands_0 < 1)) from rfl) hq5) (v := .int .i64 strands_0) (pu_move rfl) ?_
    refine lex.gpure (want_t rfl rfl (show _ = Value.bool (decide (strands_0 < 1)) from rfl) hq5) (v := .bool (decide (10 < strands_0))) (pu_gtr (k := .i64) (a := strands_0) (b := 10) rfl rfl) ?_
    refine lex.pure (v := .bool (decide (10 < strands_0))) (pu_pickF (q := (decide (strands_0 < 1))) rfl hq5 rfl) ?_
    refine lex.pure (v := .bool (decide (10 < strands_0))) (pu_move rfl) ?_
    rcases bS (decide (10 < strands_0)) with hq7 | hq7
    · replace hb := (cT hq7).symm.trans hb
      refine lex.gskip (want_f rfl rfl (show _ = Value.bool (decide (10 < strands_0)) from rfl) hq7) ?_
      refine lex.gskip (want_f rfl rfl (show _ = Value.bool (decide (10 < strands_0)) from rfl) hq7) ?_
      refine lex.gskip (want_f rfl rfl (show _ = Value.bool (decide (10 < strands_0)) from rfl) hq7) ?_
      refine lex.pure (v := .bool true) (pu_pickT (q := (decide (10 < strands_0))) rfl hq7 rfl) ?_
      refine lex.nil ?_
      refine hK4 _ _ ?_
      refine Wc.cond_true (rfl) ?_
      refine Wc.seq fun K8 hK8 => ?_
      refine Wc.region (by decide +kernel) ?_
      refine lex.pure (v := .bool false) (pu_assign rfl) ?_
      refine lex.nil ?_
      refine hK8 _ _ ?_
      obtain rfl := Option.some.inj hb
      refine Wc.ret ?_
      refine hKR _ _ ?_
      refine ⟨_, res1 Try.results12 (show RV _ _ _ (.tmp _) (.bool false) from rfl), _, rfl, rfl, hC.sel [] (by decide)⟩
    · replace hb := (cF hq7).symm.trans hb
      refine lex.gpure (want_t rfl rfl (show _ = Value.bool (decide (10 < strands_0)) from rfl) hq7) (v := .slice Aword_1 word_1.length cword_1) (pu_move rfl) ?_
      refine lex.gpure (want_t rfl rfl (show _ = Value.bool (decide (10 < strands_0)) from rfl) hq7) (v := .int .i64 (word_1.length : Int)) (pu_len (A := Aword_1) (n := word_1.length) (m := cword_1) Try.underlying22 rfl) ?_
      refine lex.gpure (want_t rfl rfl (show _ = Value.bool (decide (10 < strands_0)) from rfl) hq7) (v := .bool (decide (200 < (word_1.length : Int)))) (pu_gtr (k := .i64) (a := (word_1.length : Int)) (b := 200) rfl rfl) ?_
      refine lex.pure (v := .bool (decide (200 < (word_1.length : Int)))) (pu_pickF (q := (decide (10 < strands_0))) rfl hq7 rfl) ?_
      refine lex.nil ?_
      refine hK4 _ _ ?_
      refine Wc.cond (t := (decide (200 < (word_1.length : Int)))) (rfl) (fun hq9 => ?_) (fun hq9 => ?_)
      · replace hb := (cT hq9).symm.trans hb
        refine Wc.seq fun K10 hK10 => ?_
        refine Wc.region (by decide +kernel) ?_
        refine lex.pure (v := .bool false) (pu_assign rfl) ?_
        refine lex.nil ?_
        refine hK10 _ _ ?_
        obtain rfl := Option.some.inj hb
        refine Wc.ret ?_
        refine hKR _ _ ?_
        refine ⟨_, res1 Try.results12 (show RV _ _ _ (.tmp _) (.bool false) from rfl), _, rfl, rfl, hC.sel [] (by decide)⟩
      · replace hb := (cF hq9).symm.trans hb
        refine Wc.skip ?_
        refine hK3 _ _ ?_
        refine Wc.fresh fun E11 hE => ?_
        have e0 : E11 0 = .int .i64 strands_0 := (congrFun hE 0).trans rfl
        have e1 : E11 1 = .slice Aword_1 word_1.length cword_1 := (congrFun hE 1).trans rfl
        have e4 : E11 4 = .bool false := (congrFun hE 4).trans rfl
        clear hE
        refine Wc.seq fun K12 hK12 => ?_
        refine Wc.seq fun K13 hK13 => ?_
        refine Wc.region (by decide +kernel) ?_
        refine lex.pure (v := .int .i64 0) (pu_assign rfl) ?_
        refine lex.nil ?_
        refine hK13 _ _ ?_
        obtain ⟨o14, hl0, hb⟩ := bd hb
        refine Wc.cut (fun E wv => ∃ (v5_0 : Int), E 4 = .bool false ∧ I64 v5_0 ∧ Cx (fun _ => False) O0 w wv [] ∧ (some true : Option (Bool)) = some r) (fun K15 hK15 => ?_) ?_
        · refine Wc.block ?_
          refine Wc.loop (fun m E wv => ∃ (v5_0 : Int), E 0 = .int .i64 strands_0 ∧ E 1 = .slice Aword_1 word_1.length cword_1 ∧ E 4 = .bool false ∧ E 5 = .int .i64 v5_0 ∧ I64 v5_0 ∧ Cx (fun _ => False) O0 w wv [.ro (.sl (.int .i64)) [.slice Aword_1 word_1.length cword_1] word_1] ∧ loopN m (F.ref33_Valid_b0 n strands_0 word_1) v5_0 = some o14) n ⟨0, e0, e1, e4, rfl, (show I64 0 from by unfold I64; omega), hC.sel [0] (by decide), hl0⟩ ?_
          have hbK0 := hb
          clear hb hC hl0
          rintro m17 E19 w18 ⟨v5_0, e0, e1, e4, e5, hrv5_0, hC, hl0⟩ K16 hK16
          obtain ⟨m17', o20, rfl, hb, hl0⟩ := loopN_some hl0
          unfold F.ref33_Valid_b0 at hb
          refine Wc.seq fun K21 hK21 => ?_
          refine Wc.seq fun K22 hK22 => ?_
          refine Wc.region (by decide +kernel) ?_
          refine lex.pure (v := .int .i64 v5_0) (pu_move e5) ?_
          refine lex.pure (v := .slice Aword_1 word_1.length cword_1) (pu_move e1) ?_
          refine lex.pure (v := .int .i64 (word_1.length : Int)) (pu_len (A := Aword_1) (n := word_1.length) (m := cword_1) Try.underlying22 rfl) ?_
          refine lex.pure (v := .bool (decide (v5_0 < (word_1.length : Int)))) (pu_lss (k := .i64) (a := v5_0) (b := (word_1.length : Int)) rfl rfl) ?_
          refine lex.nil ?_
          refine hK22 _ _ ?_
          refine Wc.cond (t := (decide (v5_0 < (word_1.length : Int)))) (rfl) (fun hq23 => ?_) (fun hq23 => ?_)
          · replace hb := (cT hq23).symm.trans hb
            refine Wc.skip ?_
            refine hK21 _ _ ?_
            refine Wc.seq fun K24 hK24 => ?_
            refine Wc.block ?_
            refine Wc.seq fun K25 hK25 => ?_
            refine Wc.region (by decide +kernel) ?_
            refine lex.pure (v := .slice Aword_1 word_1.length cword_1) (pu_move e1) ?_
            refine lex.pure (v := .int .i64 v5_0) (pu_move e5) ?_
            obtain ⟨x26, h27, hb⟩ := bd hb
            obtain ⟨ad28, cs29, hA, hc30, hr31⟩ := hC.elr (i := 0) rfl (get_some h27).2
            subst hA
            refine lex.pure (v := .pointer (some (ad28.add (v5_0.toNat * 1)))) (pu_index (a := v5_0) Try.underlying22 Try.sizeOf3 rfl rfl (get_some h27).1) ?_
            obtain ⟨rfl, hr31'⟩ := hr31
            refine lex.val (v := .int .i64 x26) (ld_one Try.isAgg3 rfl (hc30 0 _ rfl)) ?_
            refine lex.pure (v := .bool (decide (x26 = 0))) (pu_eql (k := .i64) (a := x26) (b := 0) rfl rfl) ?_
            refine lex.pure (v := .bool (decide (x26 = 0))) (pu_move rfl) ?_
            rcases bS (decide (x26 = 0)) with hq32 | hq32
            · replace hb := (cT hq32).symm.trans hb
              refine lex.gskip (want_f rfl rfl (show _ = Value.bool (decide (x26 = 0)) from rfl) hq32) ?_
              refine lex.gskip (want_f rfl rfl (show _ = Value.bool (decide (x26 = 0)) from rfl) hq32) ?_
              refine lex.gskip (want_f rfl rfl (show _ = Value.bool (decide (x26 = 0)) from rfl) hq32) ?_
              refine lex.gskip (want_f rfl rfl (show _ = Value.bool (decide (x26 = 0)) from rfl) hq32) ?_
              refine lex.gskip (want_f rfl rfl (show _ = Value.bool (decide (x26 = 0)) from rfl) hq32) ?_
              refine lex.gskip (want_f rfl rfl (show _ = Value.bool (decide (x26 = 0)) from rfl) hq32) ?_
              refine lex.pure (v := .bool true) (pu_pickT (q := (decide (x26 = 0))) rfl hq32 rfl) ?_
              refine lex.pure (v := .bool true) (pu_move rfl) ?_
              refine lex.gskip (want_f rfl rfl (show _ = Value.bool true from rfl) rfl) ?_
              refine lex.gskip (want_f rfl rfl (show _ = Value.bool true from rfl) rfl) ?_
              refine lex.gskip (want_f rfl rfl (show _ = Value.bool true from rfl) rfl) ?_
              refine lex.gskip (want_f rfl rfl (show _ = Value.bool true from rfl) rfl) ?_
              refine lex.gskip (want_f rfl rfl (show _ = Value.bool true from rfl) rfl) ?_
              refine lex.gskip (want_f rfl rfl (show _ = Value.bool true from rfl) rfl) ?_
              refine lex.gskip (want_f rfl rfl (show _ = Value.bool true from rfl) rfl) ?_
              refine lex.pure (v := .bool true) (pu_pickT (q := true) rfl rfl rfl) ?_
              refine lex.nil ?_
              refine hK25 _ _ ?_
              refine Wc.cond_true (rfl) ?_
              refine Wc.seq fun K33 hK33 => ?_
              refine Wc.region (by decide +kernel) ?_
              refine lex.pure (v := .bool false) (pu_assign rfl) ?_
              refine lex.nil ?_
              refine hK33 _ _ ?_
              obtain rfl := Option.some.inj hb
              obtain rfl := (lX hl0).symm
              replace hb := hbK0
              obtain rfl := Option.some.inj hb
              refine Wc.ret ?_
              refine hKR _ _ ?_
              refine ⟨_, res1 Try.results12 (show RV _ _ _ (.tmp _) (.bool false) from rfl), _, rfl, rfl, hC.sel [] (by decide)⟩
            · replace hb := (cF hq32).symm.trans hb
              refine lex.gpure (want_t rfl rfl (show _ = Value.bool (decide (x26 = 0)) from rfl) hq32) (v := .slice (some ad28) word_1.length cword_1) (pu_move e1) ?_
              refine lex.gpure (want_t rfl rfl (show _ = Value.bool (decide (x26 = 0)) from rfl) hq32) (v := .int .i64 v5_0) (pu_move e5) ?_
              obtain ⟨x34, h35, hb⟩ := bd hb
              obtain ⟨ad36, cs37, hA, hc38, hr39⟩ := hC.elr (i := 0) rfl (get_some h35).2
              obtain rfl := Option.some.inj hA
              refine lex.gpure (want_t rfl rfl (show _ = Value.bool (decide (x26 = 0)) from rfl) hq32) (v := .pointer (some (ad28.add (v5_0.toNat * 1)))) (pu_index (a := v5_0) Try.underlying22 Try.sizeOf3 rfl rfl (get_some h35).1) ?_
              obtain ⟨rfl, hr39'⟩ := hr39
              refine lex.gval (want_t rfl rfl (show _ = Value.bool (decide (x26 = 0)) from rfl) hq32) (v := .int .i64 x34) (ld_one Try.isAgg3 rfl (hc38 0 _ rfl)) ?_
              refine lex.gpure (want_t rfl rfl (show _ = Value.bool (decide (x26 = 0)) from rfl) hq32) (v := .int .i64 strands_0) (pu_move e0) ?_
              refine lex.gpure (want_t rfl rfl (show _ = Value.bool (decide (x26 = 0)) from rfl) hq32) (v := .bool (decide (strands_0 ≤ x34))) (pu_geq (k := .i64) (a := x34) (b := strands_0) rfl rfl) ?_
              refine lex.pure (v := .bool (decide (strands_0 ≤ x34))) (pu_pickF (q := (decide (x26 = 0))) rfl hq32 rfl) ?_
              refine lex.pure (v := .bool (decide (strands_0 ≤ x34))) (pu_move rfl) ?_
              rcases bS (decide (strands_0 ≤ x34)) with hq40 | hq40
              · replace hb := (cT hq40).symm.trans hb
                refine lex.gskip (want_f rfl rfl (show _ = Value.bool (decide (strands_0 ≤ x34)) from rfl) hq40) ?_
                refine lex.gskip (want_f rfl rfl (show _ = Value.bool (decide (strands_0 ≤ x34)) from rfl) hq40) ?_
                refine lex.gskip (want_f rfl rfl (show _ = Value.bool (decide (strands_0 ≤ x34)) from rfl) hq40) ?_
                refine lex.gskip (want_f rfl rfl (show _ = Value.bool (decide (strands_0 ≤ x34)) from rfl) hq40) ?_
                refine lex.gskip (want_f rfl rfl (show _ = Value.bool (decide (strands_0 ≤ x34)) from rfl) hq40) ?_
                refine lex.gskip (want_f rfl rfl (show _ = Value.bool (decide (strands_0 ≤ x34)) from rfl) hq40) ?_
                refine lex.gskip (want_f rfl rfl (show _ = Value.bool (decide (strands_0 ≤ x34)) from rfl) hq40) ?_
                refine lex.pure (v := .bool true) (pu_pickT (q := (decide (strands_0 ≤ x34))) rfl hq40 rfl) ?_
                refine lex.nil ?_
                refine hK25 _ _ ?_
                refine Wc.cond_true (rfl) ?_
                refine Wc.seq fun K41 hK41 => ?_
                refine Wc.region (by decide +kernel) ?_
                refine lex.pure (v := .bool false) (pu_assign rfl) ?_
                refine lex.nil ?_
                refine hK41 _ _ ?_
                obtain rfl := Option.some.inj hb
                obtain rfl := (lX hl0).symm
                replace hb := hbK0
                obtain rfl := Option.some.inj hb
                refine Wc.ret ?_
                refine hKR _ _ ?_
                refine ⟨_, res1 Try.results12 (show RV _ _ _ (.tmp _) (.bool false) from rfl), _, rfl, rfl, hC.sel [] (by decide)⟩
              · replace hb := (cF hq40).symm.trans hb
                refine lex.gpure (want_t rfl rfl (show _ = Value.bool (decide (strands_0 ≤ x34)) from rfl) hq40) (v := .slice (some ad28) word_1.length cword_1) (pu_move e1) ?_
                refine lex.gpure (want_t rfl rfl (show _ = Value.bool (decide (strands_0 ≤ x34)) from rfl) hq40) (v := .int .i64 v5_0) (pu_move e5) ?_
                obtain ⟨x42, h43, hb⟩ := bd hb
                obtain ⟨ad44, cs45, hA, hc46, hr47⟩ := hC.elr (i := 0) rfl (get_some h43).2
                obtain rfl := Option.some.inj hA
                refine lex.gpure (want_t rfl rfl (show _ = Value.bool (decide (strands_0 ≤ x34)) from rfl) hq40) (v := .pointer (some (ad28.add (v5_0.toNat * 1)))) (pu_index (a := v5_0) Try.underlying22 Try.sizeOf3 rfl rfl (get_some h43).1) ?_
                obtain ⟨rfl, hr47'⟩ := hr47
                refine lex.gval (want_t rfl rfl (show _ = Value.bool (decide (strands_0 ≤ x34)) from rfl) hq40) (v := .int .i64 x42) (ld_one Try.isAgg3 rfl (hc46 0 _ rfl)) ?_
                refine lex.gpure (want_t rfl rfl (show _ = Value.bool (decide (strands_0 ≤ x34)) from rfl) hq40) (v := .int .i64 strands_0) (pu_move e0) ?_
                obtain ⟨z48, h49, hb⟩ := bd hb
                refine lex.gpure (want_t rfl rfl (show _ = Value.bool (decide (strands_0 ≤ x34)) from rfl) hq40) (v := .int .i64 z48) (pu_negc (a := strands_0) rfl h49) ?_
                refine lex.gpure (want_t rfl rfl (show _ = Value.bool (decide (strands_0 ≤ x34)) from rfl) hq40) (v := .bool (decide (x42 ≤ z48))) (pu_leq (k := .i64) (a := x42) (b := z48) rfl rfl) ?_
                refine lex.pure (v := .bool (decide (x42 ≤ z48))) (pu_pickF (q := (decide (strands_0 ≤ x34))) rfl hq40 rfl) ?_
                refine lex.nil ?_
                refine hK25 _ _ ?_
                refine Wc.cond (t := (decide (x42 ≤ z48))) (rfl) (fun hq50 => ?_) (fun hq50 => ?_)
                · replace hb := (cT hq50).symm.trans hb
                  refine Wc.seq fun K51 hK51 => ?_
                  refine Wc.region (by decide +kernel) ?_
                  refine lex.pure (v := .bool false) (pu_assign rfl) ?_
                  refine lex.nil ?_
                  refine hK51 _ _ ?_
                  obtain rfl := Option.some.inj hb
                  obtain rfl := (lX hl0).symm
                  replace hb := hbK0
                  obtain rfl := Option.some.inj hb
                  refine Wc.ret ?_
                  refine hKR _ _ ?_
                  refine ⟨_, res1 Try.results12 (show RV _ _ _ (.tmp _) (.bool false) from rfl), _, rfl, rfl, hC.sel [] (by decide)⟩
                · replace hb := (cF hq50).symm.trans hb
                  refine Wc.skip ?_
                  refine hK24 _ _ ?_
                  refine Wc.region (by decide +kernel) ?_
                  refine lex.pure (v := .int .i64 v5_0) (pu_move e5) ?_
                  obtain ⟨z52, h53, hb⟩ := bd hb
                  refine lex.pure (v := .int .i64 z52) (pu_addc (a := v5_0) (b := 1) rfl rfl h53) ?_
                  refine lex.pure (v := .int .i64 z52) (pu_assign rfl) ?_
                  refine lex.nil ?_
                  obtain rfl := Option.some.inj hb
                  exact hK16 m17' _ _ (Nat.lt_succ_self _) ⟨z52, e0, e1, e4, rfl, (chk_rng h53), hC.sel [0] (by decide), lN hl0⟩
          · replace hb := (cF hq23).symm.trans hb
            refine Wc.exit rfl ?_
            obtain rfl := Option.some.inj hb
            obtain rfl := (lX hl0).symm
            exact hK15 _ _ ⟨v5_0, e4, hrv5_0, hC.sel [] (by decide), hbK0⟩
        · clear hb hC hl0
          rintro E55 w54 ⟨v5_0, e4, hrv5_0, hC, hb⟩
          refine hK12 _ _ ?_
          refine Wc.seq fun K56 hK56 => ?_
          refine Wc.region (by decide +kernel) ?_
          refine lex.pure (v := .bool true) (pu_assign rfl) ?_
          refine lex.nil ?_
          refine hK56 _ _ ?_
          obtain rfl := Option.some.inj hb
          refine Wc.ret ?_
          refine hKR _ _ ?_
          refine ⟨_, res1 Try.results12 (show RV _ _ _ (.tmp _) (.bool true) from rfl), _, rfl, rfl, hC.sel [] (by decide)⟩

set_option maxRecDepth 100000 in
set_option maxHeartbeats 4000000 in
theorem ref21_Valid_ok (n : Nat) {w : World} {O0 : List Nat} (hO : ∀ k ∈ O0, k < w.heap.size) {Awx_0 : Option Addr} {mwx_0 cwx_0 : Nat} {wx_0 : List Int} (hwx_0 : Rep O0 w (.sl (.int .i64)) [.slice Awx_0 mwx_0 cwx_0] wx_0) {rank_1 : Int} (hrank_1 : I64 rank_1) {r : Bool} (hb : F.ref21_Valid n wx_0 rank_1 = some r) :
    Calls Try.prog 13 #[.slice Awx_0 mwx_0 cwx_0, .int .i64 rank_1] w fun e w' => ∃ v, e = .returned v ∧ v = .bool r ∧ Cx (fun _ => False) O0 w w' [] := by
  unfold F.ref21_Valid at hb
  have hC := Cx.start hO
  replace hC := hC.arg rfl hwx_0
  clear hO
  obtain ⟨rfl, hlwx_0, hcwx_0⟩ := hwx_0.sl_len
  refine calls_of_Wc Try.func13 rfl (by rw [Try.ntmps13]; exact Nat.le_of_ble_eq_true rfl) fun KR hKR => ?_
  refine Wc.seq fun K2 hK2 => ?_
  refine Wc.region (by decide +kernel) ?_
  refine lex.pure (v := .bool false) (pu_assign rfl) ?_
  refine lex.nil ?_
  refine hK2 _ _ ?_
  refine Wc.seq fun K3 hK3 => ?_
  refine Wc.seq fun K4 hK4 => ?_
  refine Wc.region (by decide +kernel) ?_
  refine lex.pure (v := .int .i64 0) (pu_assign rfl) ?_
  refine lex.nil ?_
  refine hK4 _ _ ?_
  obtain ⟨o5, hl0, hb⟩ := bd hb
  refine Wc.cut (fun E wv => ∃ (v5_0 : Int), E 4 = .bool false ∧ I64 v5_0 ∧ Cx (fun _ => False) O0 w wv [] ∧ (some true : Option (Bool)) = some r) (fun K6 hK6 => ?_) ?_
  · refine Wc.block ?_
    refine Wc.loop (fun m E wv => ∃ (v5_0 : Int), E 0 = .slice Awx_0 wx_0.length cwx_0 ∧ E 1 = .int .i64 rank_1 ∧ E 4 = .bool false ∧ E 5 = .int .i64 v5_0 ∧ I64 v5_0 ∧ Cx (fun _ => False) O0 w wv [.ro (.sl (.int .i64)) [.slice Awx_0 wx_0.length cwx_0] wx_0] ∧ loopN m (F.ref21_Valid_b0 n wx_0 rank_1) v5_0 = some o5) n ⟨0, rfl, rfl, rfl, rfl, (show I64 0 from by unfold I64; omega), hC.sel [0] (by decide), hl0⟩ ?_
    have hbK0 := hb
    clear hb hC hl0
    rintro m8 E10 w9 ⟨v5_0, e0, e1, e4, e5, hrv5_0, hC, hl0⟩ K7 hK7
    obtain ⟨m8', o11, rfl, hb, hl0⟩ := loopN_some hl0
    unfold F.ref21_Valid_b0 at hb
    refine Wc.seq fun K12 hK12 => ?_
    refine Wc.seq fun K13 hK13 => ?_
    refine Wc.region (by decide +kernel) ?_
    refine lex.pure (v := .int .i64 v5_0) (pu_move e5) ?_
    refine lex.pure (v := .slice Awx_0 wx_0.length cwx_0) (pu_move e0) ?_
    refine lex.pure (v := .int .i64 (wx_0.length : Int)) (pu_len (A := Awx_0) (n := wx_0.length) (m := cwx_0) Try.underlying22 rfl) ?_
    refine lex.pure (v := .bool (decide (v5_0 < (wx_0.length : Int)))) (pu_lss (k := .i64) (a := v5_0) (b := (wx_0.length : Int)) rfl rfl) ?_
    refine lex.nil ?_
    refine hK13 _ _ ?_
    refine Wc.cond (t := (decide (v5_0 < (wx_0.length : Int)))) (rfl) (fun hq14 => ?_) (fun hq14 => ?_)
    · replace hb := (cT hq14).symm.trans hb
      refine Wc.skip ?_
      refine hK12 _ _ ?_
      refine Wc.seq fun K15 hK15 => ?_
      refine Wc.block ?_
      refine Wc.seq fun K16 hK16 => ?_
      refine Wc.region (by decide +kernel) ?_
      refine lex.pure (v := .slice Awx_0 wx_0.length cwx_0) (pu_move e0) ?_
      refine lex.pure (v := .int .i64 v5_0) (pu_move e5) ?_
      obtain ⟨x17, h18, hb⟩ := bd hb
      obtain ⟨ad19, cs20, hA, hc21, hr22⟩ := hC.elr (i := 0) rfl (get_some h18).2
      subst hA
      refine lex.pure (v := .pointer (some (ad19.add (v5_0.toNat * 1)))) (pu_index (a := v5_0) Try.underlying22 Try.sizeOf3 rfl rfl (get_some h18).1) ?_
      obtain ⟨rfl, hr22'⟩ := hr22
      refine lex.val (v := .int .i64 x17) (ld_one Try.isAgg3 rfl (hc21 0 _ rfl)) ?_
      refine lex.pure (v := .bool (decide (x17 = 0))) (pu_eql (k := .i64) (a := x17) (b := 0) rfl rfl) ?_
      refine lex.pure (v := .bool (decide (x17 = 0))) (pu_move rfl) ?_
      rcases bS (decide (x17 = 0)) with hq23 | hq23
      · replace hb := (cT hq23).symm.trans hb
        refine lex.gskip (want_f rfl rfl (show _ = Value.bool (decide (x17 = 0)) from rfl) hq23) ?_
        refine lex.gskip (want_f rfl rfl (show _ = Value.bool (decide (x17 = 0)) from rfl) hq23) ?_
        refine lex.gskip (want_f rfl rfl (show _ = Value.bool (decide (x17 = 0)) from rfl) hq23) ?_
        refine lex.gskip (want_f rfl rfl (show _ = Value.bool (decide (x17 = 0)) from rfl) hq23) ?_
        refine lex.gskip (want_f rfl rfl (show _ = Value.bool (decide (x17 = 0)) from rfl) hq23) ?_
        refine lex.gskip (want_f rfl rfl (show _ = Value.bool (decide (x17 = 0)) from rfl) hq23) ?_
        refine lex.pure (v := .bool true) (pu_pickT (q := (decide (x17 = 0))) rfl hq23 rfl) ?_
        refine lex.pure (v := .bool true) (pu_move rfl) ?_
        refine lex.gskip (want_f rfl rfl (show _ = Value.bool true from rfl) rfl) ?_
        refine lex.gskip (want_f rfl rfl (show _ = Value.bool true from rfl) rfl) ?_
        refine lex.gskip (want_f rfl rfl (show _ = Value.bool true from rfl) rfl) ?_
        refine lex.gskip (want_f rfl rfl (show _ = Value.bool true from rfl) rfl) ?_
        refine lex.gskip (want_f rfl rfl (show _ = Value.bool true from rfl) rfl) ?_
        refine lex.gskip (want_f rfl rfl (show _ = Value.bool true from rfl) rfl) ?_
        refine lex.gskip (want_f rfl rfl (show _ = Value.bool true from rfl) rfl) ?_
        refine lex.pure (v := .bool true) (pu_pickT (q := true) rfl rfl rfl) ?_
        refine lex.nil ?_
        refine hK16 _ _ ?_
        refine Wc.cond_true (rfl) ?_
        refine Wc.seq fun K24 hK24 => ?_
        refine Wc.region (by decide +kernel) ?_
        refine lex.pure (v := .bool false) (pu_assign rfl) ?_
        refine lex.nil ?_
        refine hK24 _ _ ?_
        obtain rfl := Option.some.inj hb
        obtain rfl := (lX hl0).symm
        replace hb := hbK0
        obtain rfl := Option.some.inj hb
        refine Wc.ret ?_
        refine hKR _ _ ?_
        refine ⟨_, res1 Try.results13 (show RV _ _ _ (.tmp _) (.bool false) from rfl), _, rfl, rfl, hC.sel [] (by decide)⟩
      · replace hb := (cF hq23).symm.trans hb
        refine lex.gpure (want_t rfl rfl (show _ = Value.bool (decide (x17 = 0)) from rfl) hq23) (v := .slice (some ad19) wx_0.length cwx_0) (pu_move e0) ?_
        refine lex.gpure (want_t rfl rfl (show _ = Value.bool (decide (x17 = 0)) from rfl) hq23) (v := .int .i64 v5_0) (pu_move e5) ?_
        obtain ⟨x25, h26, hb⟩ := bd hb
        obtain ⟨ad27, cs28, hA, hc29, hr30⟩ := hC.elr (i := 0) rfl (get_some h26).2
        obtain rfl := Option.some.inj hA
        refine lex.gpure (want_t rfl rfl (show _ = Value.bool (decide (x17 = 0)) from rfl) hq23) (v := .pointer (some (ad19.add (v5_0.toNat * 1)))) (pu_index (a := v5_0) Try.underlying22 Try.sizeOf3 rfl rfl (get_some h26).1) ?_
        obtain ⟨rfl, hr30'⟩ := hr30
        refine lex.gval (want_t rfl rfl (show _ = Value.bool (decide (x17 = 0)) from rfl) hq23) (v := .int .i64 x25) (ld_one Try.isAgg3 rfl (hc29 0 _ rfl)) ?_
        refine lex.gpure (want_t rfl rfl (show _ = Value.bool (decide (x17 = 0)) from rfl) hq23) (v := .int .i64 rank_1) (pu_move e1) ?_
        refine lex.gpure (want_t rfl rfl (show _ = Value.bool (decide (x17 = 0)) from rfl) hq23) (v := .bool (decide (rank_1 < x25))) (pu_gtr (k := .i64) (a := x25) (b := rank_1) rfl rfl) ?_
        refine lex.pure (v := .bool (decide (rank_1 < x25))) (pu_pickF (q := (decide (x17 = 0))) rfl hq23 rfl) ?_
        refine lex.pure (v := .bool (decide (rank_1 < x25))) (pu_move rfl) ?_
        rcases bS (decide (rank_1 < x25)) with hq31 | hq31
        · replace hb := (cT hq31).symm.trans hb
          refine lex.gskip (want_f rfl rfl (show _ = Value.bool (decide (rank_1 < x25)) from rfl) hq31) ?_
          refine lex.gskip (want_f rfl rfl (show _ = Value.bool (decide (rank_1 < x25)) from rfl) hq31) ?_
          refine lex.gskip (want_f rfl rfl (show _ = Value.bool (decide (rank_1 < x25)) from rfl) hq31) ?_
          refine lex.gskip (want_f rfl rfl (show _ = Value.bool (decide (rank_1 < x25)) from rfl) hq31) ?_
          refine lex.gskip (want_f rfl rfl (show _ = Value.bool (decide (rank_1 < x25)) from rfl) hq31) ?_
          refine lex.gskip (want_f rfl rfl (show _ = Value.bool (decide (rank_1 < x25)) from rfl) hq31) ?_
          refine lex.gskip (want_f rfl rfl (show _ = Value.bool (decide (rank_1 < x25)) from rfl) hq31) ?_
          refine lex.pure (v := .bool true) (pu_pickT (q := (decide (rank_1 < x25))) rfl hq31 rfl) ?_
          refine lex.nil ?_
          refine hK16 _ _ ?_
          refine Wc.cond_true (rfl) ?_
          refine Wc.seq fun K32 hK32 => ?_
          refine Wc.region (by decide +kernel) ?_
          refine lex.pure (v := .bool false) (pu_assign rfl) ?_
          refine lex.nil ?_
          refine hK32 _ _ ?_
          obtain rfl := Option.some.inj hb
          obtain rfl := (lX hl0).symm
          replace hb := hbK0
          obtain rfl := Option.some.inj hb
          refine Wc.ret ?_
          refine hKR _ _ ?_
          refine ⟨_, res1 Try.results13 (show RV _ _ _ (.tmp _) (.bool false) from rfl), _, rfl, rfl, hC.sel [] (by decide)⟩
        · replace hb := (cF hq31).symm.trans hb
          refine lex.gpure (want_t rfl rfl (show _ = Value.bool (decide (rank_1 < x25)) from rfl) hq31) (v := .slice (some ad19) wx_0.length cwx_0) (pu_move e0) ?_
          refine lex.gpure (want_t rfl rfl (show _ = Value.bool (decide (rank_1 < x25)) from rfl) hq31) (v := .int .i64 v5_0) (pu_move e5) ?_
          obtain ⟨x33, h34, hb⟩ := bd hb
          obtain ⟨ad35, cs36, hA, hc37, hr38⟩ := hC.elr (i := 0) rfl (get_some h34).2
          obtain rfl := Option.some.inj hA
          refine lex.gpure (want_t rfl rfl (show _ = Value.bool (decide (rank_1 < x25)) from rfl) hq31) (v := .pointer (some (ad19.add (v5_0.toNat * 1)))) (pu_index (a := v5_0) Try.underlying22 Try.sizeOf3 rfl rfl (get_some h34).1) ?_
          obtain ⟨rfl, hr38'⟩ := hr38
          refine lex.gval (want_t rfl rfl (show _ = Value.bool (decide (rank_1 < x25)) from rfl) hq31) (v := .int .i64 x33) (ld_one Try.isAgg3 rfl (hc37 0 _ rfl)) ?_
          refine lex.gpure (want_t rfl rfl (show _ = Value.bool (decide (rank_1 < x25)) from rfl) hq31) (v := .int .i64 rank_1) (pu_move e1) ?_
          obtain ⟨z39, h40, hb⟩ := bd hb
          refine lex.gpure (want_t rfl rfl (show _ = Value.bool (decide (rank_1 < x25)) from rfl) hq31) (v := .int .i64 z39) (pu_negc (a := rank_1) rfl h40) ?_
          refine lex.gpure (want_t rfl rfl (show _ = Value.bool (decide (rank_1 < x25)) from rfl) hq31) (v := .bool (decide (x33 < z39))) (pu_lss (k := .i64) (a := x33) (b := z39) rfl rfl) ?_
          refine lex.pure (v := .bool (decide (x33 < z39))) (pu_pickF (q := (decide (rank_1 < x25))) rfl hq31 rfl) ?_
          refine lex.nil ?_
          refine hK16 _ _ ?_
          refine Wc.cond (t := (decide (x33 < z39))) (rfl) (fun hq41 => ?_) (fun hq41 => ?_)
          · replace hb := (cT hq41).symm.trans hb
            refine Wc.seq fun K42 hK42 => ?_
            refine Wc.region (by decide +kernel) ?_
            refine lex.pure (v := .bool false) (pu_assign rfl) ?_
            refine lex.nil ?_
            refine hK42 _ _ ?_
            obtain rfl := Option.some.inj hb
            obtain rfl := (lX hl0).symm
            replace hb := hbK0
            obtain rfl := Option.some.inj hb
            refine Wc.ret ?_
            refine hKR _ _ ?_
            refine ⟨_, res1 Try.results13 (show RV _ _ _ (.tmp _) (.bool false) from rfl), _, rfl, rfl, hC.sel [] (by decide)⟩
          · replace hb := (cF hq41).symm.trans hb
            refine Wc.skip ?_
            refine hK15 _ _ ?_
            refine Wc.region (by decide +kernel) ?_
            refine lex.pure (v := .int .i64 v5_0) (pu_move e5) ?_
            obtain ⟨z43, h44, hb⟩ := bd hb
            refine lex.pure (v := .int .i64 z43) (pu_addc (a := v5_0) (b := 1) rfl rfl h44) ?_
            refine lex.pure (v := .int .i64 z43) (pu_assign rfl) ?_
            refine lex.nil ?_
            obtain rfl := Option.some.inj hb
            exact hK7 m8' _ _ (Nat.lt_succ_self _) ⟨z43, e0, e1, e4, rfl, (chk_rng h44), hC.sel [0] (by decide), lN hl0⟩
    · replace hb := (cF hq14).symm.trans hb
      refine Wc.exit rfl ?_
      obtain rfl := Option.some.inj hb
      obtain rfl := (lX hl0).symm
      exact hK6 _ _ ⟨v5_0, e4, hrv5_0, hC.sel [] (by decide), hbK0⟩
  · clear hb hC hl0
    rintro E46 w45 ⟨v5_0, e4, hrv5_0, hC, hb⟩
    refine hK3 _ _ ?_
    refine Wc.seq fun K47 hK47 => ?_
    refine Wc.region (by decide +kernel) ?_
    refine lex.pure (v := .bool true) (pu_assign rfl) ?_
    refine lex.nil ?_
    refine hK47 _ _ ?_
    obtain rfl := Option.some.inj hb
    refine Wc.ret ?_
    refine hKR _ _ ?_
    refine ⟨_, res1 Try.results13 (show RV _ _ _ (.tmp _) (.bool true) from rfl), _, rfl, rfl, hC.sel [] (by decide)⟩
end Go.Proofs.Ytlkmcbgkohpmiaa
