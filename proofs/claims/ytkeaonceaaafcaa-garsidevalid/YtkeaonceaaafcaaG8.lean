/- The walks: part 8. -/
import Derived.Test.YtkeaonceaaafcaaS
import Derived.Test.YtkeaonceaaafcaaG6
import Derived.Test.YtkeaonceaaafcaaG7
set_option linter.unusedVariables false
set_option linter.unusedSimpArgs false
namespace Go.Proofs.Ytkeaonceaaafcaa
open Ev
set_option maxRecDepth 100000 in
set_option maxHeartbeats 4000000 in
theorem ref34_Valid_ok (n : Nat) {w : World} {O0 : List Nat} (hO : ∀ k ∈ O0, k < w.heap.size) {strands_0 : Int} (hstrands_0 : I64 strands_0) {power_1 : Int} (hpower_1 : I64 power_1) {Afactors_2 : Option Addr} {mfactors_2 cfactors_2 : Nat} {factors_2 : List (List Int)} (hfactors_2 : Rep O0 w (.sl (.sl (.int .i64))) [.slice Afactors_2 mfactors_2 cfactors_2] factors_2) {r : Bool} (hb : F.ref34_Valid n strands_0 power_1 factors_2 = some r) :
    Calls Try.prog 16 #[.int .i64 strands_0, .int .i64 power_1, .slice Afactors_2 mfactors_2 cfactors_2] w fun e w' => ∃ v, e = .returned v ∧ v = .bool r ∧ Cx (fun _ => False) O0 w w' [] := by
  unfold F.ref34_Valid at hb
  have hC := Cx.start hO
  replace hC := hC.arg rfl hfactors_2
  clear hO
  obtain ⟨rfl, hlfactors_2, hcfactors_2⟩ := hfactors_2.sl_len
  refine calls_of_Wc Try.func16 rfl (by rw [Try.ntmps16]; exact Nat.le_of_ble_eq_true rfl) fun KR hKR => ?_
  refine Wc.seq fun K2 hK2 => ?_
  refine Wc.region (by decide +kernel) ?_
  refine lex.pure (v := .bool false) (pu_assign rfl) ?_
  refine lex.nil ?_
  refine hK2 _ _ ?_
  refine Wc.seqJ (fun E wv => E 0 = .int .i64 strands_0 ∧ E 2 = .slice Afactors_2 factors_2.length cfactors_2 ∧ E 6 = .bool false ∧ Cx (fun _ => False) O0 w wv [.ro (.sl (.sl (.int .i64))) [.slice Afactors_2 factors_2.length cfactors_2] factors_2] ∧ F.ref34_Valid_j0 n strands_0 factors_2 = some r) (fun K3 hK3 => ?_) ?_
  ·
    skip
    refine Wc.seq fun K4 hK4 => ?_
    refine Wc.region (by decide +kernel) ?_
    refine lex.pure (v := .int .i64 strands_0) (pu_move rfl) ?_
    refine lex.pure (v := .bool (decide (strands_0 < 1))) (pu_lss (k := .i64) (a := strands_0) (b := 1) rfl rfl) ?_
    refine lex.pure (v := .bool (decide (strands_0 < 1))) (pu_move rfl) ?_
    rcases bS (decide (strands_0 < 1)) with hq5 | hq5
    · replace hb := (cT hq5).symm.trans hb
      refine lex.gskip (want_f rfl rfl (show _ = Value.bool (decide (strands_0 < 1)) from rfl) hq5) ?_
      refine lex.gskip (want_f rfl rfl (show _ = Value.bool (decide (strands_0 < 1)) from rfl) hq5) ?_
      refine lex.pure (v := .bool true) (pu_pickT (q := (decide (strands_0 < 1))) rfl hq5 rfl) ?_
      refine lex.pure (v := .bool true) (pu_move rfl) ?_
      refine lex.gskip (want_f rfl rfl (show _ = Value.bool true from rfl) rfl) ?_
      refine lex.gskip (want_f rfl rfl (show _ = Value.bool true from rfl) rfl) ?_
      refine lex.pure (v := .bool true) (pu_pickT (q := true) rfl rfl rfl) ?_
      refine lex.pure (v := .bool true) (pu_move rfl) ?_
      refine lex.gskip (want_f rfl rfl (show _ = Value.bool true from rfl) rfl) ?_
      refine lex.gskip (want_f rfl rfl (show _ = Value.bool true from rfl) rfl) ?_
      refine lex.pure (v := .bool true) (pu_pickT (q := true) rfl rfl rfl) ?_
      refine lex.pure (v := .bool true) (pu_move rfl) ?_
      refine lex.gskip (want_f rfl rfl (show _ = Value.bool true from rfl) rfl) ?_
      refine lex.gskip (want_f rfl rfl (show _ = Value.bool true from rfl) rfl) ?_
      refine lex.gskip (want_f rfl rfl (show _ = Value.bool true from rfl) rfl) ?_
      refine lex.gskip (want_n rfl rfl rfl) ?_
      refine lex.gskip (want_n rfl rfl rfl) ?_
      refine lex.gskip (want_f rfl rfl (show _ = Value.bool true from rfl) rfl) ?_
      refine lex.pure (v := .bool true) (pu_pickT (q := true) rfl rfl rfl) ?_
      refine lex.pure (v := .bool true) (pu_move rfl) ?_
      refine lex.gskip (want_f rfl rfl (show _ = Value.bool true from rfl) rfl) ?_
      refine lex.gskip (want_f rfl rfl (show _ = Value.bool true from rfl) rfl) ?_
      refine lex.gskip (want_f rfl rfl (show _ = Value.bool true from rfl) rfl) ?_
      refine lex.pure (v := .bool true) (pu_pickT (q := true) rfl rfl rfl) ?_
      refine lex.nil ?_
      refine hK4 _ _ ?_
      refine Wc.cond_true (rfl) ?_
      refine Wc.seq fun K6 hK6 => ?_
      refine Wc.region (by decide +kernel) ?_
      refine lex.pure (v := .bool false) (pu_assign rfl) ?_
      refine lex.nil ?_
      refine hK6 _ _ ?_
      obtain rfl := Option.some.inj hb
      refine Wc.ret ?_
      refine hKR _ _ ?_
      refine ⟨_, res1 Try.results16 (show RV _ _ _ (.tmp _) (.bool false) from rfl), _, rfl, rfl, hC.sel [] (by decide)⟩
    · replace hb := (cF hq5).symm.trans hb
      refine lex.gpure (want_t rfl rfl (show _ = Value.bool (decide (strands_0 < 1)) from rfl) hq5) (v := .int .i64 strands_0) (pu_move rfl) ?_
      refine lex.gpure (want_t rfl rfl (show _ = Value.bool (decide (strands_0 < 1)) from rfl) hq5) (v := .bool (decide (10 < strands_0))) (pu_gtr (k := .i64) (a := strands_0) (b := 10) rfl rfl) ?_
      refine lex.pure (v := .bool (decide (10 < strands_0))) (pu_pickF (q := (decide (strands_0 < 1))) rfl hq5 rfl) ?_
      refine lex.pure (v := .bool (decide (10 < strands_0))) (pu_move rfl) ?_
      rcases bS (decide (10 < strands_0)) with hq7 | hq7
      · replace hb := (cT hq7).symm.trans hb
        refine lex.gskip (want_f rfl rfl (show _ = Value.bool (decide (10 < strands_0)) from rfl) hq7) ?_
        refine lex.gskip (want_f rfl rfl (show _ = Value.bool (decide (10 < strands_0)) from rfl) hq7) ?_
        refine lex.pure (v := .bool true) (pu_pickT (q := (decide (10 < strands_0))) rfl hq7 rfl) ?_
        refine lex.pure (v := .bool true) (pu_move rfl) ?_
        refine lex.gskip (want_f rfl rfl (show _ = Value.bool true from rfl) rfl) ?_
        refine lex.gskip (want_f rfl rfl (show _ = Value.bool true from rfl) rfl) ?_
        refine lex.pure (v := .bool true) (pu_pickT (q := true) rfl rfl rfl) ?_
        refine lex.pure (v := .bool true) (pu_move rfl) ?_
        refine lex.gskip (want_f rfl rfl (show _ = Value.bool true from rfl) rfl) ?_
        refine lex.gskip (want_f rfl rfl (show _ = Value.bool true from rfl) rfl) ?_
        refine lex.gskip (want_f rfl rfl (show _ = Value.bool true from rfl) rfl) ?_
        refine lex.gskip (want_n rfl rfl rfl) ?_
        refine lex.gskip (want_n rfl rfl rfl) ?_
        refine lex.gskip (want_f rfl rfl (show _ = Value.bool true from rfl) rfl) ?_
        refine lex.pure (v := .bool true) (pu_pickT (q := true) rfl rfl rfl) ?_
        refine lex.pure (v := .bool true) (pu_move rfl) ?_
        refine lex.gskip (want_f rfl rfl (show _ = Value.bool true from rfl) rfl) ?_
        refine lex.gskip (want_f rfl rfl (show _ = Value.bool true from rfl) rfl) ?_
        refine lex.gskip (want_f rfl rfl (show _ = Value.bool true from rfl) rfl) ?_
        refine lex.pure (v := .bool true) (pu_pickT (q := true) rfl rfl rfl) ?_
        refine lex.nil ?_
        refine hK4 _ _ ?_
        refine Wc.cond_true (rfl) ?_
        refine Wc.seq fun K8 hK8 => ?_
        refine Wc.region (by decide +kernel) ?_
        refine lex.pure (v := .bool false) (pu_assign rfl) ?_
        refine lex.nil ?_
        refine hK8 _ _ ?_
        obtain rfl := Option.some.inj hb
        refine Wc.ret ?_
        refine hKR _ _ ?_
        refine ⟨_, res1 Try.results16 (show RV _ _ _ (.tmp _) (.bool false) from rfl), _, rfl, rfl, hC.sel [] (by decide)⟩
      · replace hb := (cF hq7).symm.trans hb
        refine lex.gpure (want_t rfl rfl (show _ = Value.bool (decide (10 < strands_0)) from rfl) hq7) (v := .int .i64 power_1) (pu_move rfl) ?_
        refine lex.gpure (want_t rfl rfl (show _ = Value.bool (decide (10 < strands_0)) from rfl) hq7) (v := .bool (decide (power_1 < (-200)))) (pu_lss (k := .i64) (a := power_1) (b := (-200)) rfl rfl) ?_
        refine lex.pure (v := .bool (decide (power_1 < (-200)))) (pu_pickF (q := (decide (10 < strands_0))) rfl hq7 rfl) ?_
        refine lex.pure (v := .bool (decide (power_1 < (-200)))) (pu_move rfl) ?_
        rcases bS (decide (power_1 < (-200))) with hq9 | hq9
        · replace hb := (cT hq9).symm.trans hb
          refine lex.gskip (want_f rfl rfl (show _ = Value.bool (decide (power_1 < (-200))) from rfl) hq9) ?_
          refine lex.gskip (want_f rfl rfl (show _ = Value.bool (decide (power_1 < (-200))) from rfl) hq9) ?_
          refine lex.pure (v := .bool true) (pu_pickT (q := (decide (power_1 < (-200)))) rfl hq9 rfl) ?_
          refine lex.pure (v := .bool true) (pu_move rfl) ?_
          refine lex.gskip (want_f rfl rfl (show _ = Value.bool true from rfl) rfl) ?_
          refine lex.gskip (want_f rfl rfl (show _ = Value.bool true from rfl) rfl) ?_
          refine lex.gskip (want_f rfl rfl (show _ = Value.bool true from rfl) rfl) ?_
          refine lex.gskip (want_n rfl rfl rfl) ?_
          refine lex.gskip (want_n rfl rfl rfl) ?_
          refine lex.gskip (want_f rfl rfl (show _ = Value.bool true from rfl) rfl) ?_
          refine lex.pure (v := .bool true) (pu_pickT (q := true) rfl rfl rfl) ?_
          refine lex.pure (v := .bool true) (pu_move rfl) ?_
          refine lex.gskip (want_f rfl rfl (show _ = Value.bool true from rfl) rfl) ?_
          refine lex.gskip (want_f rfl rfl (show _ = Value.bool true from rfl) rfl) ?_
          refine lex.gskip (want_f rfl rfl (show _ = Value.bool true from rfl) rfl) ?_
          refine lex.pure (v := .bool true) (pu_pickT (q := true) rfl rfl rfl) ?_
          refine lex.nil ?_
          refine hK4 _ _ ?_
          refine Wc.cond_true (rfl) ?_
          refine Wc.seq fun K10 hK10 => ?_
          refine Wc.region (by decide +kernel) ?_
          refine lex.pure (v := .bool false) (pu_assign rfl) ?_
          refine lex.nil ?_
          refine hK10 _ _ ?_
          obtain rfl := Option.some.inj hb
          refine Wc.ret ?_
          refine hKR _ _ ?_
          refine ⟨_, res1 Try.results16 (show RV _ _ _ (.tmp _) (.bool false) from rfl), _, rfl, rfl, hC.sel [] (by decide)⟩
        · replace hb := (cF hq9).symm.trans hb
          refine lex.gpure (want_t rfl rfl (show _ = Value.bool (decide (power_1 < (-200))) from rfl) hq9) (v := .int .i64 power_1) (pu_move rfl) ?_
          refine lex.gpure (want_t rfl rfl (show _ = Value.bool (decide (power_1 < (-200))) from rfl) hq9) (v := .bool (decide (200 < power_1))) (pu_gtr (k := .i64) (a := power_1) (b := 200) rfl rfl) ?_
          refine lex.pure (v := .bool (decide (200 < power_1))) (pu_pickF (q := (decide (power_1 < (-200)))) rfl hq9 rfl) ?_
          refine lex.pure (v := .bool (decide (200 < power_1))) (pu_move rfl) ?_
          rcases bS (decide (200 < power_1)) with hq11 | hq11
          · replace hb := (cT hq11).symm.trans hb
            refine lex.gskip (want_f rfl rfl (show _ = Value.bool (decide (200 < power_1)) from rfl) hq11) ?_
            refine lex.gskip (want_f rfl rfl (show _ = Value.bool (decide (200 < power_1)) from rfl) hq11) ?_
            refine lex.gskip (want_f rfl rfl (show _ = Value.bool (decide (200 < power_1)) from rfl) hq11) ?_
            refine lex.gskip (want_n rfl rfl rfl) ?_
            refine lex.gskip (want_n rfl rfl rfl) ?_
            refine lex.gskip (want_f rfl rfl (show _ = Value.bool (decide (200 < power_1)) from rfl) hq11) ?_
            refine lex.pure (v := .bool true) (pu_pickT (q := (decide (200 < power_1))) rfl hq11 rfl) ?_
            refine lex.pure (v := .bool true) (pu_move rfl) ?_
            refine lex.gskip (want_f rfl rfl (show _ = Value.bool true from rfl) rfl) ?_
            refine lex.gskip (want_f rfl rfl (show _ = Value.bool true from rfl) rfl) ?_
            refine lex.gskip (want_f rfl rfl (show _ = Value.bool true from rfl) rfl) ?_
            refine lex.pure (v := .bool true) (pu_pickT (q := true) rfl rfl rfl) ?_
            refine lex.nil ?_
            refine hK4 _ _ ?_
            refine Wc.cond_true (rfl) ?_
            refine Wc.seq fun K12 hK12 => ?_
            refine Wc.region (by decide +kernel) ?_
            refine lex.pure (v := .bool false) (pu_assign rfl) ?_
            refine lex.nil ?_
            refine hK12 _ _ ?_
            obtain rfl := Option.some.inj hb
            refine Wc.ret ?_
            refine hKR _ _ ?_
            refine ⟨_, res1 Try.results16 (show RV _ _ _ (.tmp _) (.bool false) from rfl), _, rfl, rfl, hC.sel [] (by decide)⟩
          · replace hb := (cF hq11).symm.trans hb
            refine lex.gpure (want_t rfl rfl (show _ = Value.bool (decide (200 < power_1)) from rfl) hq11) (v := .int .i64 strands_0) (pu_move rfl) ?_
            refine lex.gpure (want_t rfl rfl (show _ = Value.bool (decide (200 < power_1)) from rfl) hq11) (v := .bool (decide (strands_0 = 1))) (pu_eql (k := .i64) (a := strands_0) (b := 1) rfl rfl) ?_
            refine lex.gpure (want_t rfl rfl (show _ = Value.bool (decide (200 < power_1)) from rfl) hq11) (v := .bool (decide (strands_0 = 1))) (pu_move rfl) ?_
            rcases bS (decide (strands_0 = 1)) with hq13 | hq13
            · replace hb := (cT hq13).symm.trans hb
              refine lex.gpure (want_t rfl rfl (show _ = Value.bool (decide (strands_0 = 1)) from rfl) hq13) (v := .int .i64 power_1) (pu_move rfl) ?_
              refine lex.gpure (want_t rfl rfl (show _ = Value.bool (decide (strands_0 = 1)) from rfl) hq13) (v := .bool (!(decide (power_1 = 0)))) (pu_neq (k := .i64) (a := power_1) (b := 0) rfl rfl) ?_
              refine lex.gpure (want_t rfl rfl (show _ = Value.bool (decide (200 < power_1)) from rfl) hq11) (v := .bool (!(decide (power_1 = 0)))) (pu_pickT (q := (decide (strands_0 = 1))) rfl hq13 rfl) ?_
              refine lex.pure (v := .bool (!(decide (power_1 = 0)))) (pu_pickF (q := (decide (200 < power_1))) rfl hq11 rfl) ?_
              refine lex.pure (v := .bool (!(decide (power_1 = 0)))) (pu_move rfl) ?_
              rcases bS (!(decide (power_1 = 0))) with hq14 | hq14
              · replace hb := (cT hq14).symm.trans hb
                refine lex.gskip (want_f rfl rfl (show _ = Value.bool (!(decide (power_1 = 0))) from rfl) hq14) ?_
                refine lex.gskip (want_f rfl rfl (show _ = Value.bool (!(decide (power_1 = 0))) from rfl) hq14) ?_
                refine lex.gskip (want_f rfl rfl (show _ = Value.bool (!(decide (power_1 = 0))) from rfl) hq14) ?_
                refine lex.pure (v := .bool true) (pu_pickT (q := (!(decide (power_1 = 0)))) rfl hq14 rfl) ?_
                refine lex.nil ?_
                refine hK4 _ _ ?_
                refine Wc.cond_true (rfl) ?_
                refine Wc.seq fun K15 hK15 => ?_
                refine Wc.region (by decide +kernel) ?_
                refine lex.pure (v := .bool false) (pu_assign rfl) ?_
                refine lex.nil ?_
                refine hK15 _ _ ?_
                obtain rfl := Option.some.inj hb
                refine Wc.ret ?_
                refine hKR _ _ ?_
                refine ⟨_, res1 Try.results16 (show RV _ _ _ (.tmp _) (.bool false) from rfl), _, rfl, rfl, hC.sel [] (by decide)⟩
              · replace hb := (cF hq14).symm.trans hb
                refine lex.gpure (want_t rfl rfl (show _ = Value.bool (!(decide (power_1 = 0))) from rfl) hq14) (v := .slice Afactors_2 factors_2.length cfactors_2) (pu_move rfl) ?_
                refine lex.gpure (want_t rfl rfl (show _ = Value.bool (!(decide (power_1 = 0))) from rfl) hq14) (v := .int .i64 (factors_2.length : Int)) (pu_len (A := Afactors_2) (n := factors_2.length) (m := cfactors_2) Try.underlying35 rfl) ?_
                refine lex.gpure (want_t rfl rfl (show _ = Value.bool (!(decide (power_1 = 0))) from rfl) hq14) (v := .bool (decide (400 < (factors_2.length : Int)))) (pu_gtr (k := .i64) (a := (factors_2.length : Int)) (b := 400) rfl rfl) ?_
                refine lex.pure (v := .bool (decide (400 < (factors_2.length : Int)))) (pu_pickF (q := (!(decide (power_1 = 0)))) rfl hq14 rfl) ?_
                refine lex.nil ?_
                refine hK4 _ _ ?_
                refine Wc.cond (t := (decide (400 < (factors_2.length : Int)))) (rfl) (fun hq16 => ?_) (fun hq16 => ?_)
                · replace hb := (cT hq16).symm.trans hb
                  refine Wc.seq fun K17 hK17 => ?_
                  refine Wc.region (by decide +kernel) ?_
                  refine lex.pure (v := .bool false) (pu_assign rfl) ?_
                  refine lex.nil ?_
                  refine hK17 _ _ ?_
                  obtain rfl := Option.some.inj hb
                  refine Wc.ret ?_
                  refine hKR _ _ ?_
                  refine ⟨_, res1 Try.results16 (show RV _ _ _ (.tmp _) (.bool false) from rfl), _, rfl, rfl, hC.sel [] (by decide)⟩
                · replace hb := (cF hq16).symm.trans hb
                  refine Wc.skip ?_
                  exact hK3 _ _ ⟨rfl, rfl, rfl, hC.sel [0] (by decide), hb⟩
            · replace hb := (cF hq13).symm.trans hb
              refine lex.gskip (want_f rfl rfl (show _ = Value.bool (decide (strands_0 = 1)) from rfl) hq13) ?_
              refine lex.gskip (want_f rfl rfl (show _ = Value.bool (decide (strands_0 = 1)) from rfl) hq13) ?_
              refine lex.gpure (want_t rfl rfl (show _ = Value.bool (decide (200 < power_1)) from rfl) hq11) (v := .bool false) (pu_pickF (q := (decide (strands_0 = 1))) rfl hq13 rfl) ?_
              refine lex.pure (v := .bool false) (pu_pickF (q := (decide (200 < power_1))) rfl hq11 rfl) ?_
              refine lex.pure (v := .bool false) (pu_move rfl) ?_
              refine lex.gpure (want_t rfl rfl (show _ = Value.bool false from rfl) rfl) (v := .slice Afactors_2 factors_2.length cfactors_2) (pu_move rfl) ?_
              refine lex.gpure (want_t rfl rfl (show _ = Value.bool false from rfl) rfl) (v := .int .i64 (factors_2.length : Int)) (pu_len (A := Afactors_2) (n := factors_2.length) (m := cfactors_2) Try.underlying35 rfl) ?_
              refine lex.gpure (want_t rfl rfl (show _ = Value.bool false from rfl) rfl) (v := .bool (decide (400 < (factors_2.length : Int)))) (pu_gtr (k := .i64) (a := (factors_2.length : Int)) (b := 400) rfl rfl) ?_
              refine lex.pure (v := .bool (decide (400 < (factors_2.length : Int)))) (pu_pickF (q := false) rfl rfl rfl) ?_
              refine lex.nil ?_
              refine hK4 _ _ ?_
              refine Wc.cond (t := (decide (400 < (factors_2.length : Int)))) (rfl) (fun hq18 => ?_) (fun hq18 => ?_)
              · replace hb := (cT hq18).symm.trans hb
                refine Wc.seq fun K19 hK19 => ?_
                refine Wc.region (by decide +kernel) ?_
                refine lex.pure (v := .bool false) (pu_assign rfl) ?_
                refine lex.nil ?_
                refine hK19 _ _ ?_
                obtain rfl := Option.some.inj hb
                refine Wc.ret ?_
                refine hKR _ _ ?_
                refine ⟨_, res1 Try.results16 (show RV _ _ _ (.tmp _) (.bool false) from rfl), _, rfl, rfl, hC.sel [] (by decide)⟩
              · replace hb := (cF hq18).symm.trans hb
                refine Wc.skip ?_
                exact hK3 _ _ ⟨rfl, rfl, rfl, hC.sel [0] (by decide), hb⟩
  · clear hb hC
    rintro E21 w20 ⟨e0, e2, e6, hC, hb⟩
    unfold F.ref34_Valid_j0 at hb
    refine Wc.seq fun K22 hK22 => ?_
    refine Wc.seq fun K23 hK23 => ?_
    refine Wc.region (by decide +kernel) ?_
    refine lex.pure (v := .int .i64 0) (pu_assign rfl) ?_
    refine lex.nil ?_
    refine hK23 _ _ ?_
    obtain ⟨o24, hl1, hb⟩ := bd hb
    refine Wc.cut (fun E wv => ∃ (v7_1 : Int), E 6 = .bool false ∧ I64 v7_1 ∧ Cx (fun _ => False) O0 w wv [] ∧ (some true : Option (Bool)) = some r) (fun K25 hK25 => ?_) ?_
    · refine Wc.block ?_
      refine Wc.loop (fun m E wv => ∃ (v7_1 : Int), E 0 = .int .i64 strands_0 ∧ E 2 = .slice Afactors_2 factors_2.length cfactors_2 ∧ E 6 = .bool false ∧ E 7 = .int .i64 v7_1 ∧ I64 v7_1 ∧ Cx (fun _ => False) O0 w wv [.ro (.sl (.sl (.int .i64))) [.slice Afactors_2 factors_2.length cfactors_2] factors_2] ∧ loopN m (F.ref34_Valid_b1 n strands_0 factors_2) v7_1 = some o24) n ⟨0, e0, e2, e6, rfl, (show I64 0 from by unfold I64; omega), hC.sel [0] (by decide), hl1⟩ ?_
      have hbK1 := hb
      clear hb hC hl1
      rintro m27 E29 w28 ⟨v7_1, e0, e2, e6, e7, hrv7_1, hC, hl1⟩ K26 hK26
      obtain ⟨m27', o30, rfl, hb, hl1⟩ := loopN_some hl1
      unfold F.ref34_Valid_b1 at hb
      refine Wc.seq fun K31 hK31 => ?_
      refine Wc.seq fun K32 hK32 => ?_
      refine Wc.region (by decide +kernel) ?_
      refine lex.pure (v := .int .i64 v7_1) (pu_move e7) ?_
      refine lex.pure (v := .slice Afactors_2 factors_2.length cfactors_2) (pu_move e2) ?_
      refine lex.pure (v := .int .i64 (factors_2.length : Int)) (pu_len (A := Afactors_2) (n := factors_2.length) (m := cfactors_2) Try.underlying35 rfl) ?_
      refine lex.pure (v := .bool (decide (v7_1 < (factors_2.length : Int)))) (pu_lss (k := .i64) (a := v7_1) (b := (factors_2.length : Int)) rfl rfl) ?_
      refine lex.nil ?_
      refine hK32 _ _ ?_
      refine Wc.cond (t := (decide (v7_1 < (factors_2.length : Int)))) (rfl) (fun hq33 => ?_) (fun hq33 => ?_)
      · replace hb := (cT hq33).symm.trans hb
        refine Wc.skip ?_
        refine hK31 _ _ ?_
        refine Wc.seq fun K34 hK34 => ?_
        refine Wc.block ?_
        refine Wc.seq fun K35 hK35 => ?_
        refine Wc.region (by decide +kernel) ?_
        refine lex.pure (v := .slice Afactors_2 factors_2.length cfactors_2) (pu_move e2) ?_
        refine lex.pure (v := .int .i64 v7_1) (pu_move e7) ?_
        obtain ⟨x36, h37, hb⟩ := bd hb
        obtain ⟨ad38, cs39, hA, hc40, hr41⟩ := hC.elr (i := 0) rfl (get_some h37).2
        subst hA
        refine lex.pure (v := .pointer (some (ad38.add (v7_1.toNat * 1)))) (pu_index (a := v7_1) Try.underlying35 Try.sizeOf22 rfl rfl (get_some h37).1) ?_
        have hR := hr41
        obtain ⟨A42, c43, rfl, hl44, hc45, _⟩ := hr41
        replace hC := hC.ro hR
        clear hR
        refine lex.val (v := .slice A42 x36.length c43) (ld_one Try.isAgg22 rfl (hc40 0 _ rfl)) ?_
        refine lex.pure (v := .slice A42 x36.length c43) (pu_assign rfl) ?_
        refine lex.nil ?_
        refine hK35 _ _ ?_
        refine Wc.seq fun K47 hK47 => ?_
        refine Wc.seq fun K48 hK48 => ?_
        refine Wc.region (by decide +kernel) ?_
        refine lex.pure (v := .slice A42 x36.length c43) (pu_move rfl) ?_
        refine lex.pure (v := .int .i64 (x36.length : Int)) (pu_len (A := A42) (n := x36.length) (m := c43) Try.underlying22 rfl) ?_
        refine lex.pure (v := .int .i64 strands_0) (pu_move e0) ?_
        refine lex.pure (v := .bool (!(decide ((x36.length : Int) = strands_0)))) (pu_neq (k := .i64) (a := (x36.length : Int)) (b := strands_0) rfl rfl) ?_
        refine lex.pure (v := .bool (!(decide ((x36.length : Int) = strands_0)))) (pu_move rfl) ?_
        rcases bS (!(decide ((x36.length : Int) = strands_0))) with hq49 | hq49
        · replace hb := (cT hq49).symm.trans hb
          refine lex.gskip (want_f rfl rfl (show _ = Value.bool (!(decide ((x36.length : Int) = strands_0))) from rfl) hq49) ?_
          refine lex.gskip (want_f rfl rfl (show _ = Value.bool (!(decide ((x36.length : Int) = strands_0))) from rfl) hq49) ?_
          refine lex.gskip (want_f rfl rfl (show _ = Value.bool (!(decide ((x36.length : Int) = strands_0))) from rfl) hq49) ?_
          refine lex.pure (v := .bool true) (pu_pickT (q := (!(decide ((x36.length : Int) = strands_0)))) rfl hq49 rfl) ?_
          refine lex.pure (v := .bool true) (pu_move rfl) ?_
          refine lex.gskip (want_f rfl rfl (show _ = Value.bool true from rfl) rfl) ?_
          refine lex.gskip (want_f rfl rfl (show _ = Value.bool true from rfl) rfl) ?_
          refine lex.gskip (want_f rfl rfl (show _ = Value.bool true from rfl) rfl) ?_
          refine lex.gskip (want_f rfl rfl (show _ = Value.bool true from rfl) rfl) ?_
          refine lex.pure (v := .bool true) (pu_pickT (q := true) rfl rfl rfl) ?_
          refine lex.pure (v := .bool true) (pu_move rfl) ?_
          refine lex.gskip (want_f rfl rfl (show _ = Value.bool true from rfl) rfl) ?_
          refine lex.gskip (want_f rfl rfl (show _ = Value.bool true from rfl) rfl) ?_
          refine lex.gskip (want_f rfl rfl (show _ = Value.bool true from rfl) rfl) ?_
          refine lex.gskip (want_f rfl rfl (show _ = Value.bool true from rfl) rfl) ?_
          refine lex.gskip (want_f rfl rfl (show _ = Value.bool true from rfl) rfl) ?_
          refine lex.gskip (want_f rfl rfl (show _ = Value.bool true from rfl) rfl) ?_
          refine lex.pure (v := .bool true) (pu_pickT (q := true) rfl rfl rfl) ?_
          refine lex.nil ?_
          refine hK48 _ _ ?_
          refine Wc.cond_true (rfl) ?_
          refine Wc.seq fun K50 hK50 => ?_
          refine Wc.region (by decide +kernel) ?_
          refine lex.pure (v := .bool false) (pu_assign rfl) ?_
          refine lex.nil ?_
          refine hK50 _ _ ?_
          obtain rfl := Option.some.inj hb
          obtain rfl := (lX hl1).symm
          replace hb := hbK1
          obtain rfl := Option.some.inj hb
          refine Wc.ret ?_
          refine hKR _ _ ?_
          refine ⟨_, res1 Try.results16 (show RV _ _ _ (.tmp _) (.bool false) from rfl), _, rfl, rfl, hC.sel [] (by decide)⟩
        · replace hb := (cF hq49).symm.trans hb
          refine lex.gpure (want_t rfl rfl (show _ = Value.bool (!(decide ((x36.length : Int) = strands_0))) from rfl) hq49) (v := .slice A42 x36.length c43) (pu_move rfl) ?_
          obtain ⟨y51, h52, hb⟩ := bd hb
          refine lex.gcl (want_t rfl rfl (show _ = Value.bool (!(decide ((x36.length : Int) = strands_0))) from rfl) hq49) (⟨_, _, op_call (vs := [.slice A42 x36.length c43]) Try.call44 rfl rfl rfl, ref30_Valid_ok n hC.lt (hC.rd (i := 0) rfl) h52⟩) ?_
          rintro _ w53 ⟨rfl, hK⟩
          replace hC := hC.merge hK
          clear hK
          refine lex.gpure (want_t rfl rfl (show _ = Value.bool (!(decide ((x36.length : Int) = strands_0))) from rfl) hq49) (v := .bool (!y51)) (pu_not (q := y51) rfl) ?_
          refine lex.pure (v := .bool (!y51)) (pu_pickF (q := (!(decide ((x36.length : Int) = strands_0)))) rfl hq49 rfl) ?_
          refine lex.pure (v := .bool (!y51)) (pu_move rfl) ?_
          rcases bS (!y51) with hq54 | hq54
          · replace hb := (cT hq54).symm.trans hb
            refine lex.gskip (want_f rfl rfl (show _ = Value.bool (!y51) from rfl) hq54) ?_
            refine lex.gskip (want_f rfl rfl (show _ = Value.bool (!y51) from rfl) hq54) ?_
            refine lex.gskip (want_f rfl rfl (show _ = Value.bool (!y51) from rfl) hq54) ?_
            refine lex.gskip (want_f rfl rfl (show _ = Value.bool (!y51) from rfl) hq54) ?_
            refine lex.pure (v := .bool true) (pu_pickT (q := (!y51)) rfl hq54 rfl) ?_
            refine lex.pure (v := .bool true) (pu_move rfl) ?_
            refine lex.gskip (want_f rfl rfl (show _ = Value.bool true from rfl) rfl) ?_
            refine lex.gskip (want_f rfl rfl (show _ = Value.bool true from rfl) rfl) ?_
            refine lex.gskip (want_f rfl rfl (show _ = Value.bool true from rfl) rfl) ?_
            refine lex.gskip (want_f rfl rfl (show _ = Value.bool true from rfl) rfl) ?_
            refine lex.gskip (want_f rfl rfl (show _ = Value.bool true from rfl) rfl) ?_
            refine lex.gskip (want_f rfl rfl (show _ = Value.bool true from rfl) rfl) ?_
            refine lex.pure (v := .bool true) (pu_pickT (q := true) rfl rfl rfl) ?_
            refine lex.nil ?_
            refine hK48 _ _ ?_
            refine Wc.cond_true (rfl) ?_
            refine Wc.seq fun K55 hK55 => ?_
            refine Wc.region (by decide +kernel) ?_
            refine lex.pure (v := .bool false) (pu_assign rfl) ?_
            refine lex.nil ?_
            refine hK55 _ _ ?_
            obtain rfl := Option.some.inj hb
            obtain rfl := (lX hl1).symm
            replace hb := hbK1
            obtain rfl := Option.some.inj hb
            refine Wc.ret ?_
            refine hKR _ _ ?_
            refine ⟨_, res1 Try.results16 (show RV _ _ _ (.tmp _) (.bool false) from rfl), _, rfl, rfl, hC.sel [] (by decide)⟩
          · replace hb := (cF hq54).symm.trans hb
            refine lex.gpure (want_t rfl rfl (show _ = Value.bool (!y51) from rfl) hq54) (v := .slice A42 x36.length c43) (pu_move rfl) ?_
            obtain ⟨y56, h57, hb⟩ := bd hb
            refine lex.gcl (want_t rfl rfl (show _ = Value.bool (!y51) from rfl) hq54) (⟨_, _, op_call (vs := [.slice A42 x36.length c43]) Try.call45 rfl rfl rfl, ref34_Letters_ok n hC.lt (hC.rd (i := 0) rfl) h57⟩) ?_
            rintro _ w62 ⟨A58, m59, c60, rfl, hK⟩
            replace hC := hC.merge hK
            clear hK
            obtain ⟨rfl, hl63, hc64⟩ := (hC.ow (i := 0) rfl).sl_len
            refine lex.gpure (want_t rfl rfl (show _ = Value.bool (!y51) from rfl) hq54) (v := .int .i64 (y56.length : Int)) (pu_len (A := A58) (n := y56.length) (m := c60) Try.underlying22 rfl) ?_
            refine lex.gpure (want_t rfl rfl (show _ = Value.bool (!y51) from rfl) hq54) (v := .bool (decide ((y56.length : Int) = 0))) (pu_eql (k := .i64) (a := (y56.length : Int)) (b := 0) rfl rfl) ?_
            refine lex.pure (v := .bool (decide ((y56.length : Int) = 0))) (pu_pickF (q := (!y51)) rfl hq54 rfl) ?_
            refine lex.pure (v := .bool (decide ((y56.length : Int) = 0))) (pu_move rfl) ?_
            rcases bS (decide ((y56.length : Int) = 0)) with hq65 | hq65
            · replace hb := (cT hq65).symm.trans hb
              refine lex.gskip (want_f rfl rfl (show _ = Value.bool (decide ((y56.length : Int) = 0)) from rfl) hq65) ?_
              refine lex.gskip (want_f rfl rfl (show _ = Value.bool (decide ((y56.length : Int) = 0)) from rfl) hq65) ?_
              refine lex.gskip (want_f rfl rfl (show _ = Value.bool (decide ((y56.length : Int) = 0)) from rfl) hq65) ?_
              refine lex.gskip (want_f rfl rfl (show _ = Value.bool (decide ((y56.length : Int) = 0)) from rfl) hq65) ?_
              refine lex.gskip (want_f rfl rfl (show _ = Value.bool (decide ((y56.length : Int) = 0)) from rfl) hq65) ?_
              refine lex.gskip (want_f rfl rfl (show _ = Value.bool (decide ((y56.length : Int) = 0)) from rfl) hq65) ?_
              refine lex.pure (v := .bool true) (pu_pickT (q := (decide ((y56.length : Int) = 0))) rfl hq65 rfl) ?_
              refine lex.nil ?_
              refine hK48 _ _ ?_
              refine Wc.cond_true (rfl) ?_
              refine Wc.seq fun K66 hK66 => ?_
              refine Wc.region (by decide +kernel) ?_
              refine lex.pure (v := .bool false) (pu_assign rfl) ?_
              refine lex.nil ?_
              refine hK66 _ _ ?_
              obtain rfl := Option.some.inj hb
              obtain rfl := (lX hl1).symm
              replace hb := hbK1
              obtain rfl := Option.some.inj hb
              refine Wc.ret ?_
              refine hKR _ _ ?_
              refine ⟨_, res1 Try.results16 (show RV _ _ _ (.tmp _) (.bool false) from rfl), _, rfl, rfl, hC.sel [] (by decide)⟩
            · replace hb := (cF hq65).symm.trans hb
              refine lex.gpure (want_t rfl rfl (show _ = Value.bool (decide ((y56.length : Int) = 0)) from rfl) hq65) (v := .slice A42 x36.length c43) (pu_move rfl) ?_
              obtain ⟨y67, h68, hb⟩ := bd hb
              refine lex.gcl (want_t rfl rfl (show _ = Value.bool (decide ((y56.length : Int) = 0)) from rfl) hq65) (⟨_, _, op_call (vs := [.slice A42 x36.length c43]) Try.call45 rfl rfl rfl, ref34_Letters_ok n hC.lt (hC.rd (i := 1) rfl) h68⟩) ?_
              rintro _ w73 ⟨A69, m70, c71, rfl, hK⟩
              replace hC := hC.merge hK
              clear hK
              obtain ⟨rfl, hl74, hc75⟩ := (hC.ow (i := 0) rfl).sl_len
              refine lex.gpure (want_t rfl rfl (show _ = Value.bool (decide ((y56.length : Int) = 0)) from rfl) hq65) (v := .int .i64 (y67.length : Int)) (pu_len (A := A69) (n := y67.length) (m := c71) Try.underlying22 rfl) ?_
              refine lex.gpure (want_t rfl rfl (show _ = Value.bool (decide ((y56.length : Int) = 0)) from rfl) hq65) (v := .int .i64 strands_0) (pu_move e0) ?_
              obtain ⟨z76, h77, hb⟩ := bd hb
              refine lex.gpure (want_t rfl rfl (show _ = Value.bool (decide ((y56.length : Int) = 0)) from rfl) hq65) (v := .int .i64 z76) (pu_subc (a := strands_0) (b := 1) rfl rfl h77) ?_
              refine lex.gpure (want_t rfl rfl (show _ = Value.bool (decide ((y56.length : Int) = 0)) from rfl) hq65) (v := .bool (decide ((y67.length : Int) = z76))) (pu_eql (k := .i64) (a := (y67.length : Int)) (b := z76) rfl rfl) ?_
              refine lex.pure (v := .bool (decide ((y67.length : Int) = z76))) (pu_pickF (q := (decide ((y56.length : Int) = 0))) rfl hq65 rfl) ?_
              refine lex.nil ?_
              refine hK48 _ _ ?_
              refine Wc.cond (t := (decide ((y67.length : Int) = z76))) (rfl) (fun hq78 => ?_) (fun hq78 => ?_)
              · replace hb := (cT hq78).symm.trans hb
                refine Wc.seq fun K79 hK79 => ?_
                refine Wc.region (by decide +kernel) ?_
                refine lex.pure (v := .bool false) (pu_assign rfl) ?_
                refine lex.nil ?_
                refine hK79 _ _ ?_
                obtain rfl := Option.some.inj hb
                obtain rfl := (lX hl1).symm
                replace hb := hbK1
                obtain rfl := Option.some.inj hb
                refine Wc.ret ?_
                refine hKR _ _ ?_
                refine ⟨_, res1 Try.results16 (show RV _ _ _ (.tmp _) (.bool false) from rfl), _, rfl, rfl, hC.sel [] (by decide)⟩
              · replace hb := (cF hq78).symm.trans hb
                refine Wc.skip ?_
                refine hK47 _ _ ?_
                refine Wc.fresh fun E80 hE => ?_
                have e0 : E80 0 = .int .i64 strands_0 := (congrFun hE 0).trans e0
                have e2 : E80 2 = .slice (some ad38) factors_2.length cfactors_2 := (congrFun hE 2).trans e2
                have e6 : E80 6 = .bool false := (congrFun hE 6).trans e6
                have e7 : E80 7 = .int .i64 v7_1 := (congrFun hE 7).trans e7
                have e8 : E80 8 = .slice A42 x36.length c43 := (congrFun hE 8).trans rfl
                have e42 : E80 42 = .bool (decide (v7_1 < (factors_2.length : Int))) := (congrFun hE 42).trans rfl
                have e71 : E80 71 = .bool (decide ((y67.length : Int) = z76)) := (congrFun hE 71).trans rfl
                clear hE
                refine Wc.seq fun K81 hK81 => ?_
                refine Wc.seq fun K82 hK82 => ?_
                refine Wc.region (by decide +kernel) ?_
                refine lex.pure (v := .int .i64 v7_1) (pu_move e7) ?_
                refine lex.pure (v := .bool (decide (v7_1 = 0))) (pu_eql (k := .i64) (a := v7_1) (b := 0) rfl rfl) ?_
                refine lex.nil ?_
                refine hK82 _ _ ?_
                refine Wc.cond (t := (decide (v7_1 = 0))) (rfl) (fun hq83 => ?_) (fun hq83 => ?_)
                · replace hb := (cT hq83).symm.trans hb
                  refine Wc.exit rfl ?_
                  refine hK34 _ _ ?_
                  refine Wc.region (by decide +kernel) ?_
                  refine lex.pure (v := .int .i64 v7_1) (pu_move e7) ?_
                  obtain ⟨z84, h85, hb⟩ := bd hb
                  refine lex.pure (v := .int .i64 z84) (pu_addc (a := v7_1) (b := 1) rfl rfl h85) ?_
                  refine lex.pure (v := .int .i64 z84) (pu_assign rfl) ?_
                  refine lex.nil ?_
                  obtain rfl := Option.some.inj hb
                  exact hK26 m27' _ _ (Nat.lt_succ_self _) ⟨z84, e0, e2, e6, rfl, (chk_rng h85), hC.sel [3] (by decide), lN hl1⟩
                · replace hb := (cF hq83).symm.trans hb
                  refine Wc.skip ?_
                  refine hK81 _ _ ?_
                  refine Wc.seq fun K86 hK86 => ?_
                  refine Wc.region (by decide +kernel) ?_
                  refine lex.pure (v := .slice A42 x36.length c43) (pu_move e8) ?_
                  obtain ⟨y87, h88, hb⟩ := bd hb
                  refine lex.cl (⟨_, _, op_call (vs := [.slice A42 x36.length c43]) Try.call45 rfl rfl rfl, ref34_Letters_ok n hC.lt (hC.rd (i := 2) rfl) h88⟩) ?_
                  rintro _ w93 ⟨A89, m90, c91, rfl, hK⟩
                  replace hC := hC.merge hK
                  clear hK
                  obtain ⟨rfl, hl94, hc95⟩ := (hC.ow (i := 0) rfl).sl_len
                  refine lex.pure (v := .slice A89 y87.length c91) (pu_assign rfl) ?_
                  refine lex.nil ?_
                  refine hK86 _ _ ?_
                  refine Wc.seq fun K96 hK96 => ?_
                  refine Wc.region (by decide +kernel) ?_
                  refine lex.pure (v := .slice (some ad38) factors_2.length cfactors_2) (pu_move e2) ?_
                  refine lex.pure (v := .int .i64 v7_1) (pu_move e7) ?_
                  obtain ⟨z97, h98, hb⟩ := bd hb
                  refine lex.pure (v := .int .i64 z97) (pu_subc (a := v7_1) (b := 1) rfl rfl h98) ?_
                  obtain ⟨x99, h100, hb⟩ := bd hb
                  obtain ⟨ad101, cs102, hA, hc103, hr104⟩ := hC.elr (i := 4) rfl (get_some h100).2
                  obtain rfl := Option.some.inj hA
                  refine lex.pure (v := .pointer (some (ad38.add (z97.toNat * 1)))) (pu_index (a := z97) Try.underlying35 Try.sizeOf22 rfl rfl (get_some h100).1) ?_
                  have hR := hr104
                  obtain ⟨A105, c106, rfl, hl107, hc108, _⟩ := hr104
                  replace hC := hC.ro hR
                  clear hR
                  refine lex.val (v := .slice A105 x99.length c106) (ld_one Try.isAgg22 rfl (hc103 0 _ rfl)) ?_
                  obtain ⟨y110, h111, hb⟩ := bd hb
                  refine lex.cl (⟨_, _, op_call (vs := [.slice A105 x99.length c106]) Try.call46 rfl rfl rfl, ref30_Inverse_ok n hC.lt (hC.rd (i := 0) rfl) h111⟩) ?_
                  rintro _ w116 ⟨A112, m113, c114, rfl, hK⟩
                  replace hC := hC.merge hK
                  clear hK
                  obtain ⟨rfl, hl117, hc118⟩ := (hC.ow (i := 0) rfl).sl_len
                  obtain ⟨y119, h120, hb⟩ := bd hb
                  refine lex.cl (⟨_, _, op_call (vs := [.slice A112 y110.length c114]) Try.call45 rfl rfl rfl, ref34_Letters_ok n (hC.lentLt [.slice A112 y110.length c114]) ((hC.ow (i := 0) rfl).lend (vs := [.slice A112 y110.length c114]) (by simp)) h120⟩) ?_
                  rintro _ w125 ⟨A121, m122, c123, rfl, hK⟩
                  replace hC := hC.mergeF hK rfl
                  clear hK
                  obtain ⟨rfl, hl126, hc127⟩ := (hC.ow (i := 0) rfl).sl_len
                  refine lex.pure (v := .slice A121 y119.length c123) (pu_assign rfl) ?_
                  refine lex.nil ?_
                  refine hK96 _ _ ?_
                  refine Wc.fresh fun E128 hE => ?_
                  have e0 : E128 0 = .int .i64 strands_0 := (congrFun hE 0).trans e0
                  have e2 : E128 2 = .slice (some ad38) factors_2.length cfactors_2 := (congrFun hE 2).trans e2
                  have e6 : E128 6 = .bool false := (congrFun hE 6).trans e6
                  have e7 : E128 7 = .int .i64 v7_1 := (congrFun hE 7).trans e7
                  have e8 : E128 8 = .slice A42 x36.length c43 := (congrFun hE 8).trans e8
                  have e9 : E128 9 = .slice A89 y87.length c91 := (congrFun hE 9).trans rfl
                  have e10 : E128 10 = .slice A121 y119.length c123 := (congrFun hE 10).trans rfl
                  have e42 : E128 42 = .bool (decide (v7_1 < (factors_2.length : Int))) := (congrFun hE 42).trans e42
                  have e71 : E128 71 = .bool (decide ((y67.length : Int) = z76)) := (congrFun hE 71).trans e71
                  have e73 : E128 73 = .bool (decide (v7_1 = 0)) := (congrFun hE 73).trans rfl
                  clear hE
                  refine Wc.seq fun K129 hK129 => ?_
                  refine Wc.region (by decide +kernel) ?_
                  refine lex.pure (v := .int .i64 0) (pu_assign rfl) ?_
                  refine lex.nil ?_
                  refine hK129 _ _ ?_
                  obtain ⟨o130, hl2, hb⟩ := bd hb
                  refine Wc.cut (fun E wv => ∃ (v11_2 : Int), E 0 = .int .i64 strands_0 ∧ E 2 = .slice (some ad38) factors_2.length cfactors_2 ∧ E 6 = .bool false ∧ E 7 = .int .i64 v7_1 ∧ E 8 = .slice A42 x36.length c43 ∧ E 9 = .slice A89 y87.length c91 ∧ E 10 = .slice A121 y119.length c123 ∧ E 11 = .int .i64 v11_2 ∧ E 42 = .bool (decide (v7_1 < (factors_2.length : Int))) ∧ E 71 = .bool (decide ((y67.length : Int) = z76)) ∧ E 73 = .bool (decide (v7_1 = 0)) ∧ I64 v11_2 ∧ Cx (fun _ => False) O0 w wv [.ro (.sl (.sl (.int .i64))) [.slice (some ad38) factors_2.length cfactors_2] factors_2, .ro (.sl (.int .i64)) [.slice A42 x36.length c43] x36, .own 3 (.int .i64) (.slice A89 y87.length c91) y87, .own 3 (.int .i64) (.slice A121 y119.length c123) y119] ∧ ((chk (v7_1 + 1)).bind fun z157 => some (.inl z157) : Option ((Int) ⊕ ((Int) ⊕ (Bool)))) = some o30) (fun K131 hK131 => ?_) ?_
                  · refine Wc.block ?_
                    refine Wc.loop (fun m E wv => ∃ (v11_2 : Int), E 0 = .int .i64 strands_0 ∧ E 2 = .slice (some ad38) factors_2.length cfactors_2 ∧ E 6 = .bool false ∧ E 7 = .int .i64 v7_1 ∧ E 8 = .slice A42 x36.length c43 ∧ E 9 = .slice A89 y87.length c91 ∧ E 10 = .slice A121 y119.length c123 ∧ E 11 = .int .i64 v11_2 ∧ E 42 = .bool (decide (v7_1 < (factors_2.length : Int))) ∧ E 71 = .bool (decide ((y67.length : Int) = z76)) ∧ E 73 = .bool (decide (v7_1 = 0)) ∧ I64 v11_2 ∧ Cx (fun _ => False) O0 w wv [.ro (.sl (.sl (.int .i64))) [.slice (some ad38) factors_2.length cfactors_2] factors_2, .ro (.sl (.int .i64)) [.slice A42 x36.length c43] x36, .own 3 (.int .i64) (.slice A89 y87.length c91) y87, .own 3 (.int .i64) (.slice A121 y119.length c123) y119] ∧ loopN m (F.ref34_Valid_b2 n y87 y119) v11_2 = some o130) n ⟨0, e0, e2, e6, e7, e8, e9, e10, rfl, e42, e71, e73, (show I64 0 from by unfold I64; omega), hC.sel [7, 6, 3, 0] (by decide), hl2⟩ ?_
                    have hbK2 := hb
                    clear hb hC hl2
                    rintro m133 E135 w134 ⟨v11_2, e0, e2, e6, e7, e8, e9, e10, e11, e42, e71, e73, hrv11_2, hC, hl2⟩ K132 hK132
                    obtain ⟨m133', o136, rfl, hb, hl2⟩ := loopN_some hl2
                    unfold F.ref34_Valid_b2 at hb
                    refine Wc.seq fun K137 hK137 => ?_
                    refine Wc.seq fun K138 hK138 => ?_
                    refine Wc.region (by decide +kernel) ?_
                    refine lex.pure (v := .int .i64 v11_2) (pu_move e11) ?_
                    refine lex.pure (v := .slice A89 y87.length c91) (pu_move e9) ?_
                    refine lex.pure (v := .int .i64 (y87.length : Int)) (pu_len (A := A89) (n := y87.length) (m := c91) Try.underlying22 rfl) ?_
                    refine lex.pure (v := .bool (decide (v11_2 < (y87.length : Int)))) (pu_lss (k := .i64) (a := v11_2) (b := (y87.length : Int)) rfl rfl) ?_
                    refine lex.nil ?_
                    refine hK138 _ _ ?_
                    refine Wc.cond (t := (decide (v11_2 < (y87.length : Int)))) (rfl) (fun hq139 => ?_) (fun hq139 => ?_)
                    · replace hb := (cT hq139).symm.trans hb
                      refine Wc.skip ?_
                      refine hK137 _ _ ?_
                      refine Wc.seq fun K140 hK140 => ?_
                      refine Wc.block ?_
                      refine Wc.seq fun K141 hK141 => ?_
                      refine Wc.region (by decide +kernel) ?_
                      refine lex.pure (v := .slice A121 y119.length c123) (pu_move e10) ?_
                      refine lex.pure (v := .slice A89 y87.length c91) (pu_move e9) ?_
                      refine lex.pure (v := .int .i64 v11_2) (pu_move e11) ?_
                      obtain ⟨x142, h143, hb⟩ := bd hb
                      obtain ⟨ad144, cs145, hA, hc146, hr147⟩ := hC.elo (i := 2) rfl (get_some h143).2
                      subst hA
                      refine lex.pure (v := .pointer (some (ad144.add (v11_2.toNat * 1)))) (pu_index (a := v11_2) Try.underlying22 Try.sizeOf3 rfl rfl (get_some h143).1) ?_
                      obtain ⟨rfl, hr147'⟩ := hr147
                      refine lex.val (v := .int .i64 x142) (ld_one Try.isAgg3 rfl (hc146 0 _ rfl)) ?_
                      obtain ⟨y148, h149, hb⟩ := bd hb
                      refine lex.cl (⟨_, _, op_call (vs := [.slice A121 y119.length c123, .int .i64 x142]) Try.call47 rfl rfl rfl, ref34_contains_ok n (hC.lentLt [.slice A121 y119.length c123]) ((hC.ow (i := 3) rfl).lend (vs := [.slice A121 y119.length c123]) (by simp)) (wrap_I64 hr147') h149⟩) ?_
                      rintro _ w150 ⟨rfl, hK⟩
                      replace hC := hC.mergeF hK rfl
                      clear hK
                      refine lex.pure (v := .bool (!y148)) (pu_not (q := y148) rfl) ?_
                      refine lex.nil ?_
                      refine hK141 _ _ ?_
                      refine Wc.cond (t := (!y148)) (rfl) (fun hq151 => ?_) (fun hq151 => ?_)
                      · replace hb := (cT hq151).symm.trans hb
                        refine Wc.seq fun K152 hK152 => ?_
                        refine Wc.region (by decide +kernel) ?_
                        refine lex.pure (v := .bool false) (pu_assign rfl) ?_
                        refine lex.nil ?_
                        refine hK152 _ _ ?_
                        obtain rfl := Option.some.inj hb
                        obtain rfl := (lX hl2).symm
                        replace hb := hbK2
                        obtain rfl := Option.some.inj hb
                        obtain rfl := (lX hl1).symm
                        replace hb := hbK1
                        obtain rfl := Option.some.inj hb
                        refine Wc.ret ?_
                        refine hKR _ _ ?_
                        refine ⟨_, res1 Try.results16 (show RV _ _ _ (.tmp _) (.bool false) from rfl), _, rfl, rfl, hC.sel [] (by decide)⟩
                      · replace hb := (cF hq151).symm.trans hb
                        refine Wc.skip ?_
                        refine hK140 _ _ ?_
                        refine Wc.region (by decide +kernel) ?_
                        refine lex.pure (v := .int .i64 v11_2) (pu_move e11) ?_
                        obtain ⟨z153, h154, hb⟩ := bd hb
                        refine lex.pure (v := .int .i64 z153) (pu_addc (a := v11_2) (b := 1) rfl rfl h154) ?_
                        refine lex.pure (v := .int .i64 z153) (pu_assign rfl) ?_
                        refine lex.nil ?_
                        obtain rfl := Option.some.inj hb
                        exact hK132 m133' _ _ (Nat.lt_succ_self _) ⟨z153, e0, e2, e6, e7, e8, e9, e10, rfl, e42, e71, e73, (chk_rng h154), hC.sel [0, 1, 2, 3] (by decide), lN hl2⟩
                    · replace hb := (cF hq139).symm.trans hb
                      refine Wc.exit rfl ?_
                      obtain rfl := Option.some.inj hb
                      obtain rfl := (lX hl2).symm
                      exact hK131 _ _ ⟨v11_2, e0, e2, e6, e7, e8, e9, e10, e11, e42, e71, e73, hrv11_2, hC.sel [0, 1, 2, 3] (by decide), hbK2⟩
                  · clear hb hC hl2
                    rintro E156 w155 ⟨v11_2, e0, e2, e6, e7, e8, e9, e10, e11, e42, e71, e73, hrv11_2, hC, hb⟩
                    refine hK34 _ _ ?_
                    refine Wc.region (by decide +kernel) ?_
                    refine lex.pure (v := .int .i64 v7_1) (pu_move e7) ?_
                    obtain ⟨z157, h158, hb⟩ := bd hb
                    refine lex.pure (v := .int .i64 z157) (pu_addc (a := v7_1) (b := 1) rfl rfl h158) ?_
                    refine lex.pure (v := .int .i64 z157) (pu_assign rfl) ?_
                    refine lex.nil ?_
                    obtain rfl := Option.some.inj hb
                    exact hK26 m27' _ _ (Nat.lt_succ_self _) ⟨z157, e0, e2, e6, rfl, (chk_rng h158), hC.sel [0] (by decide), lN hl1⟩
      · replace hb := (cF hq33).symm.trans hb
        refine Wc.exit rfl ?_
        obtain rfl := Option.some.inj hb
        obtain rfl := (lX hl1).symm
        exact hK25 _ _ ⟨v7_1, e6, hrv7_1, hC.sel [] (by decide), hbK1⟩
    · clear hb hC hl1
      rintro E160 w159 ⟨v7_1, e6, hrv7_1, hC, hb⟩
      refine hK22 _ _ ?_
      refine Wc.seq fun K161 hK161 => ?_
      refine Wc.region (by decide +kernel) ?_
      refine lex.pure (v := .bool true) (pu_assign rfl) ?_
      refine lex.nil ?_
      refine hK161 _ _ ?_
      obtain rfl := Option.some.inj hb
      refine Wc.ret ?_
      refine hKR _ _ ?_
      refine ⟨_, res1 Try.results16 (show RV _ _ _ (.tmp _) (.bool true) from rfl), _, rfl, rfl, hC.sel [] (by decide)⟩
end Go.Proofs.Ytkeaonceaaafcaa
