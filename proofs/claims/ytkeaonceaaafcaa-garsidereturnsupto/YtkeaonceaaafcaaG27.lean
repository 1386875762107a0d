/- The walks: part 27. -/
import Derived.Test.YtkeaonceaaafcaaS
import Derived.Test.YtkeaonceaaafcaaG0
import Derived.Test.YtkeaonceaaafcaaG1
import Derived.Test.YtkeaonceaaafcaaG2
set_option linter.unusedVariables false
set_option linter.unusedSimpArgs false
namespace Go.Proofs.Ytkeaonceaaafcaa
open Ev
set_option maxRecDepth 100000 in
set_option maxHeartbeats 4000000 in
theorem garside_Valid_ok (n : Nat) {w : World} {O0 : List Nat} (hO : ∀ k ∈ O0, k < w.heap.size) {nx_0_0 : Int} (hnx_0_0 : I64 nx_0_0) {nx_0_1 : Int} (hnx_0_1 : I64 nx_0_1) {Anx_0_2 : Option Addr} {mnx_0_2 cnx_0_2 : Nat} {nx_0_2 : List (List Int)} (hnx_0_2 : Rep O0 w (.sl (.sl (.int .i64))) [.slice Anx_0_2 mnx_0_2 cnx_0_2] nx_0_2) {r : Bool} (hb : F.garside_Valid n nx_0_0 nx_0_1 nx_0_2 = some r) :
    Calls Try.prog 36 #[.agg #[.int .i64 nx_0_0, .int .i64 nx_0_1, .slice Anx_0_2 mnx_0_2 cnx_0_2]] w fun e w' => ∃ v, e = .returned v ∧ v = .bool r ∧ Cx (fun _ => False) O0 w w' [] := by
  unfold F.garside_Valid at hb
  have hC := Cx.start hO
  replace hC := hC.arg rfl hnx_0_2
  clear hO
  obtain ⟨rfl, hlnx_0_2, hcnx_0_2⟩ := hnx_0_2.sl_len
  refine calls_of_Wc Try.func36 rfl (by rw [Try.ntmps36]; exact Nat.le_of_ble_eq_true rfl) fun KR hKR => ?_
  refine Wc.seq fun K2 hK2 => ?_
  refine Wc.region (by decide +kernel) ?_
  refine lex.op (hC.box (cs := [.int .i64 nx_0_0, .int .i64 nx_0_1, .slice Anx_0_2 nx_0_2.length cnx_0_2]) rfl rfl) ?_
  rintro _ w4 ⟨g3, rfl, hC, hF, hG⟩
  clear hG
  refine lex.pure (v := .bool false) (pu_assign rfl) ?_
  refine lex.nil ?_
  refine hK2 _ _ ?_
  refine Wc.seq fun K6 hK6 => ?_
  refine Wc.seq fun K7 hK7 => ?_
  refine Wc.region (by decide +kernel) ?_
  refine lex.pure (v := .pointer (some ((⟨g3, 0, none⟩ : Addr).add 0))) (pu_field (sz := 1) Try.underlying28 rfl Try.sizeOf3 (by decide) rfl rfl) ?_
  refine lex.val (v := .int .i64 nx_0_0) (ld_fld (hC.bx (i := 0) rfl) Try.isAgg3 rfl rfl) ?_
  refine lex.pure (v := .bool (decide (nx_0_0 < 1))) (pu_lss (k := .i64) (a := nx_0_0) (b := 1) rfl rfl) ?_
  refine lex.pure (v := .bool (decide (nx_0_0 < 1))) (pu_move rfl) ?_
  rcases bS (decide (nx_0_0 < 1)) with hq8 | hq8
  · replace hb := (cT hq8).symm.trans hb
    refine lex.gskip (want_f rfl rfl (show _ = Value.bool (decide (nx_0_0 < 1)) from rfl) hq8) ?_
    refine lex.gskip (want_f rfl rfl (show _ = Value.bool (decide (nx_0_0 < 1)) from rfl) hq8) ?_
    refine lex.gskip (want_f rfl rfl (show _ = Value.bool (decide (nx_0_0 < 1)) from rfl) hq8) ?_
    refine lex.pure (v := .bool true) (pu_pickT (q := (decide (nx_0_0 < 1))) rfl hq8 rfl) ?_
    refine lex.pure (v := .bool true) (pu_move rfl) ?_
    refine lex.gskip (want_f rfl rfl (show _ = Value.bool true from rfl) rfl) ?_
    refine lex.gskip (want_f rfl rfl (show _ = Value.bool true from rfl) rfl) ?_
    refine lex.gskip (want_f rfl rfl (show _ = Value.bool true from rfl) rfl) ?_
    refine lex.pure (v := .bool true) (pu_pickT (q := true) rfl rfl rfl) ?_
    refine lex.pure (v := .bool true) (pu_move rfl) ?_
    refine lex.gskip (want_f rfl rfl (show _ = Value.bool true from rfl) rfl) ?_
    refine lex.gskip (want_f rfl rfl (show _ = Value.bool true from rfl) rfl) ?_
    refine lex.gskip (want_f rfl rfl (show _ = Value.bool true from rfl) rfl) ?_
    refine lex.pure (v := .bool true) (pu_pickT (q := true) rfl rfl rfl) ?_
    refine lex.nil ?_
    refine hK7 _ _ ?_
    refine Wc.cond_true (rfl) ?_
    refine Wc.seq fun K9 hK9 => ?_
    refine Wc.region (by decide +kernel) ?_
    refine lex.pure (v := .bool false) (pu_assign rfl) ?_
    refine lex.nil ?_
    refine hK9 _ _ ?_
    obtain rfl := Option.some.inj hb
    refine Wc.ret ?_
    refine hKR _ _ ?_
    refine ⟨_, res1 Try.results36 (show RV _ _ _ (.tmp _) (.bool false) from rfl), _, rfl, rfl, hC.sel [] (by decide)⟩
  · replace hb := (cF hq8).symm.trans hb
    refine lex.gpure (want_t rfl rfl (show _ = Value.bool (decide (nx_0_0 < 1)) from rfl) hq8) (v := .pointer (some ((⟨g3, 0, none⟩ : Addr).add 0))) (pu_field (sz := 1) Try.underlying28 rfl Try.sizeOf3 (by decide) rfl rfl) ?_
    refine lex.gval (want_t rfl rfl (show _ = Value.bool (decide (nx_0_0 < 1)) from rfl) hq8) (v := .int .i64 nx_0_0) (ld_fld (hC.bx (i := 0) rfl) Try.isAgg3 rfl rfl) ?_
    refine lex.gpure (want_t rfl rfl (show _ = Value.bool (decide (nx_0_0 < 1)) from rfl) hq8) (v := .bool (decide (10 < nx_0_0))) (pu_gtr (k := .i64) (a := nx_0_0) (b := 10) rfl rfl) ?_
    refine lex.pure (v := .bool (decide (10 < nx_0_0))) (pu_pickF (q := (decide (nx_0_0 < 1))) rfl hq8 rfl) ?_
    refine lex.pure (v := .bool (decide (10 < nx_0_0))) (pu_move rfl) ?_
    rcases bS (decide (10 < nx_0_0)) with hq10 | hq10
    · replace hb := (cT hq10).symm.trans hb
      refine lex.gskip (want_f rfl rfl (show _ = Value.bool (decide (10 < nx_0_0)) from rfl) hq10) ?_
      refine lex.gskip (want_f rfl rfl (show _ = Value.bool (decide (10 < nx_0_0)) from rfl) hq10) ?_
      refine lex.gskip (want_f rfl rfl (show _ = Value.bool (decide (10 < nx_0_0)) from rfl) hq10) ?_
      refine lex.pure (v := .bool true) (pu_pickT (q := (decide (10 < nx_0_0))) rfl hq10 rfl) ?_
      refine lex.pure (v := .bool true) (pu_move rfl) ?_
      refine lex.gskip (want_f rfl rfl (show _ = Value.bool true from rfl) rfl) ?_
      refine lex.gskip (want_f rfl rfl (show _ = Value.bool true from rfl) rfl) ?_
      refine lex.gskip (want_f rfl rfl (show _ = Value.bool true from rfl) rfl) ?_
      refine lex.pure (v := .bool true) (pu_pickT (q := true) rfl rfl rfl) ?_
      refine lex.nil ?_
      refine hK7 _ _ ?_
      refine Wc.cond_true (rfl) ?_
      refine Wc.seq fun K11 hK11 => ?_
      refine Wc.region (by decide +kernel) ?_
      refine lex.pure (v := .bool false) (pu_assign rfl) ?_
      refine lex.nil ?_
      refine hK11 _ _ ?_
      obtain rfl := Option.some.inj hb
      refine Wc.ret ?_
      refine hKR _ _ ?_
      refine ⟨_, res1 Try.results36 (show RV _ _ _ (.tmp _) (.bool false) from rfl), _, rfl, rfl, hC.sel [] (by decide)⟩
    · replace hb := (cF hq10).symm.trans hb
      refine lex.gpure (want_t rfl rfl (show _ = Value.bool (decide (10 < nx_0_0)) from rfl) hq10) (v := .pointer (some ((⟨g3, 0, none⟩ : Addr).add 1))) (pu_field (sz := 1) Try.underlying28 rfl Try.sizeOf3 (by decide) rfl rfl) ?_
      refine lex.gval (want_t rfl rfl (show _ = Value.bool (decide (10 < nx_0_0)) from rfl) hq10) (v := .int .i64 nx_0_1) (ld_fld (hC.bx (i := 0) rfl) Try.isAgg3 rfl rfl) ?_
      refine lex.gpure (want_t rfl rfl (show _ = Value.bool (decide (10 < nx_0_0)) from rfl) hq10) (v := .bool (decide (nx_0_1 < (-200)))) (pu_lss (k := .i64) (a := nx_0_1) (b := (-200)) rfl rfl) ?_
      refine lex.pure (v := .bool (decide (nx_0_1 < (-200)))) (pu_pickF (q := (decide (10 < nx_0_0))) rfl hq10 rfl) ?_
      refine lex.pure (v := .bool (decide (nx_0_1 < (-200)))) (pu_move rfl) ?_
      rcases bS (decide (nx_0_1 < (-200))) with hq12 | hq12
      · replace hb := (cT hq12).symm.trans hb
        refine lex.gskip (want_f rfl rfl (show _ = Value.bool (decide (nx_0_1 < (-200))) from rfl) hq12) ?_
        refine lex.gskip (want_f rfl rfl (show _ = Value.bool (decide (nx_0_1 < (-200))) from rfl) hq12) ?_
        refine lex.gskip (want_f rfl rfl (show _ = Value.bool (decide (nx_0_1 < (-200))) from rfl) hq12) ?_
        refine lex.pure (v := .bool true) (pu_pickT (q := (decide (nx_0_1 < (-200)))) rfl hq12 rfl) ?_
        refine lex.nil ?_
        refine hK7 _ _ ?_
        refine Wc.cond_true (rfl) ?_
        refine Wc.seq fun K13 hK13 => ?_
        refine Wc.region (by decide +kernel) ?_
        refine lex.pure (v := .bool false) (pu_assign rfl) ?_
        refine lex.nil ?_
        refine hK13 _ _ ?_
        obtain rfl := Option.some.inj hb
        refine Wc.ret ?_
        refine hKR _ _ ?_
        refine ⟨_, res1 Try.results36 (show RV _ _ _ (.tmp _) (.bool false) from rfl), _, rfl, rfl, hC.sel [] (by decide)⟩
      · replace hb := (cF hq12).symm.trans hb
        refine lex.gpure (want_t rfl rfl (show _ = Value.bool (decide (nx_0_1 < (-200))) from rfl) hq12) (v := .pointer (some ((⟨g3, 0, none⟩ : Addr).add 1))) (pu_field (sz := 1) Try.underlying28 rfl Try.sizeOf3 (by decide) rfl rfl) ?_
        refine lex.gval (want_t rfl rfl (show _ = Value.bool (decide (nx_0_1 < (-200))) from rfl) hq12) (v := .int .i64 nx_0_1) (ld_fld (hC.bx (i := 0) rfl) Try.isAgg3 rfl rfl) ?_
        refine lex.gpure (want_t rfl rfl (show _ = Value.bool (decide (nx_0_1 < (-200))) from rfl) hq12) (v := .bool (decide (200 < nx_0_1))) (pu_gtr (k := .i64) (a := nx_0_1) (b := 200) rfl rfl) ?_
        refine lex.pure (v := .bool (decide (200 < nx_0_1))) (pu_pickF (q := (decide (nx_0_1 < (-200)))) rfl hq12 rfl) ?_
        refine lex.nil ?_
        refine hK7 _ _ ?_
        refine Wc.cond (t := (decide (200 < nx_0_1))) (rfl) (fun hq14 => ?_) (fun hq14 => ?_)
        · replace hb := (cT hq14).symm.trans hb
          refine Wc.seq fun K15 hK15 => ?_
          refine Wc.region (by decide +kernel) ?_
          refine lex.pure (v := .bool false) (pu_assign rfl) ?_
          refine lex.nil ?_
          refine hK15 _ _ ?_
          obtain rfl := Option.some.inj hb
          refine Wc.ret ?_
          refine hKR _ _ ?_
          refine ⟨_, res1 Try.results36 (show RV _ _ _ (.tmp _) (.bool false) from rfl), _, rfl, rfl, hC.sel [] (by decide)⟩
        · replace hb := (cF hq14).symm.trans hb
          refine Wc.skip ?_
          refine hK6 _ _ ?_
          refine Wc.fresh fun E16 hE => ?_
          have e1 : E16 1 = .pointer (some ⟨g3, 0, none⟩) := (congrFun hE 1).trans rfl
          have e2 : E16 2 = .bool false := (congrFun hE 2).trans rfl
          clear hE
          refine Wc.seqJ (fun E wv => E 1 = .pointer (some ⟨g3, 0, none⟩) ∧ E 2 = .bool false ∧ Cx (fun _ => False) O0 w wv [.box g3 28 [.int .i64 nx_0_0, .int .i64 nx_0_1, .slice Anx_0_2 nx_0_2.length cnx_0_2], .ro (.sl (.sl (.int .i64))) [.slice Anx_0_2 nx_0_2.length cnx_0_2] nx_0_2] ∧ F.garside_Valid_j0 n nx_0_0 nx_0_2 = some r) (fun K17 hK17 => ?_) ?_
          ·
            skip
            refine Wc.seq fun K18 hK18 => ?_
            refine Wc.region (by decide +kernel) ?_
            refine lex.pure (v := .pointer (some ((⟨g3, 0, none⟩ : Addr).add 0))) (pu_field (sz := 1) Try.underlying28 rfl Try.sizeOf3 (by decide) rfl e1) ?_
            refine lex.val (v := .int .i64 nx_0_0) (ld_fld (hC.bx (i := 0) rfl) Try.isAgg3 rfl rfl) ?_
            refine lex.pure (v := .bool (decide (nx_0_0 = 1))) (pu_eql (k := .i64) (a := nx_0_0) (b := 1) rfl rfl) ?_
            refine lex.pure (v := .bool (decide (nx_0_0 = 1))) (pu_move rfl) ?_
            rcases bS (decide (nx_0_0 = 1)) with hq19 | hq19
            · replace hb := (cT hq19).symm.trans hb
              refine lex.gpure (want_t rfl rfl (show _ = Value.bool (decide (nx_0_0 = 1)) from rfl) hq19) (v := .pointer (some ((⟨g3, 0, none⟩ : Addr).add 1))) (pu_field (sz := 1) Try.underlying28 rfl Try.sizeOf3 (by decide) rfl e1) ?_
              refine lex.gval (want_t rfl rfl (show _ = Value.bool (decide (nx_0_0 = 1)) from rfl) hq19) (v := .int .i64 nx_0_1) (ld_fld (hC.bx (i := 0) rfl) Try.isAgg3 rfl rfl) ?_
              refine lex.gpure (want_t rfl rfl (show _ = Value.bool (decide (nx_0_0 = 1)) from rfl) hq19) (v := .bool (!(decide (nx_0_1 = 0)))) (pu_neq (k := .i64) (a := nx_0_1) (b := 0) rfl rfl) ?_
              refine lex.pure (v := .bool (!(decide (nx_0_1 = 0)))) (pu_pickT (q := (decide (nx_0_0 = 1))) rfl hq19 rfl) ?_
              refine lex.pure (v := .bool (!(decide (nx_0_1 = 0)))) (pu_move rfl) ?_
              rcases bS (!(decide (nx_0_1 = 0))) with hq20 | hq20
              · replace hb := (cT hq20).symm.trans hb
                refine lex.gskip (want_f rfl rfl (show _ = Value.bool (!(decide (nx_0_1 = 0))) from rfl) hq20) ?_
                refine lex.gskip (want_f rfl rfl (show _ = Value.bool (!(decide (nx_0_1 = 0))) from rfl) hq20) ?_
                refine lex.gskip (want_f rfl rfl (show _ = Value.bool (!(decide (nx_0_1 = 0))) from rfl) hq20) ?_
                refine lex.gskip (want_f rfl rfl (show _ = Value.bool (!(decide (nx_0_1 = 0))) from rfl) hq20) ?_
                refine lex.pure (v := .bool true) (pu_pickT (q := (!(decide (nx_0_1 = 0)))) rfl hq20 rfl) ?_
                refine lex.nil ?_
                refine hK18 _ _ ?_
                refine Wc.cond_true (rfl) ?_
                refine Wc.seq fun K21 hK21 => ?_
                refine Wc.region (by decide +kernel) ?_
                refine lex.pure (v := .bool false) (pu_assign rfl) ?_
                refine lex.nil ?_
                refine hK21 _ _ ?_
                obtain rfl := Option.some.inj hb
                refine Wc.ret ?_
                refine hKR _ _ ?_
                refine ⟨_, res1 Try.results36 (show RV _ _ _ (.tmp _) (.bool false) from rfl), _, rfl, rfl, hC.sel [] (by decide)⟩
              · replace hb := (cF hq20).symm.trans hb
                refine lex.gpure (want_t rfl rfl (show _ = Value.bool (!(decide (nx_0_1 = 0))) from rfl) hq20) (v := .pointer (some ((⟨g3, 0, none⟩ : Addr).add 2))) (pu_field (sz := 1) Try.underlying28 rfl Try.sizeOf26 (by decide) rfl e1) ?_
                refine lex.gval (want_t rfl rfl (show _ = Value.bool (!(decide (nx_0_1 = 0))) from rfl) hq20) (v := .slice Anx_0_2 nx_0_2.length cnx_0_2) (ld_fld (hC.bx (i := 0) rfl) Try.isAgg26 rfl rfl) ?_
                refine lex.gpure (want_t rfl rfl (show _ = Value.bool (!(decide (nx_0_1 = 0))) from rfl) hq20) (v := .int .i64 (nx_0_2.length : Int)) (pu_len (A := Anx_0_2) (n := nx_0_2.length) (m := cnx_0_2) Try.underlying26 rfl) ?_
                refine lex.gpure (want_t rfl rfl (show _ = Value.bool (!(decide (nx_0_1 = 0))) from rfl) hq20) (v := .bool (decide (400 < (nx_0_2.length : Int)))) (pu_gtr (k := .i64) (a := (nx_0_2.length : Int)) (b := 400) rfl rfl) ?_
                refine lex.pure (v := .bool (decide (400 < (nx_0_2.length : Int)))) (pu_pickF (q := (!(decide (nx_0_1 = 0)))) rfl hq20 rfl) ?_
                refine lex.nil ?_
                refine hK18 _ _ ?_
                refine Wc.cond (t := (decide (400 < (nx_0_2.length : Int)))) (rfl) (fun hq22 => ?_) (fun hq22 => ?_)
                · replace hb := (cT hq22).symm.trans hb
                  refine Wc.seq fun K23 hK23 => ?_
                  refine Wc.region (by decide +kernel) ?_
                  refine lex.pure (v := .bool false) (pu_assign rfl) ?_
                  refine lex.nil ?_
                  refine hK23 _ _ ?_
                  obtain rfl := Option.some.inj hb
                  refine Wc.ret ?_
                  refine hKR _ _ ?_
                  refine ⟨_, res1 Try.results36 (show RV _ _ _ (.tmp _) (.bool false) from rfl), _, rfl, rfl, hC.sel [] (by decide)⟩
                · replace hb := (cF hq22).symm.trans hb
                  refine Wc.skip ?_
                  exact hK17 _ _ ⟨e1, e2, hC.sel [0, 1] (by decide), hb⟩
            · replace hb := (cF hq19).symm.trans hb
              refine lex.gskip (want_f rfl rfl (show _ = Value.bool (decide (nx_0_0 = 1)) from rfl) hq19) ?_
              refine lex.gskip (want_f rfl rfl (show _ = Value.bool (decide (nx_0_0 = 1)) from rfl) hq19) ?_
              refine lex.gskip (want_f rfl rfl (show _ = Value.bool (decide (nx_0_0 = 1)) from rfl) hq19) ?_
              refine lex.pure (v := .bool false) (pu_pickF (q := (decide (nx_0_0 = 1))) rfl hq19 rfl) ?_
              refine lex.pure (v := .bool false) (pu_move rfl) ?_
              refine lex.gpure (want_t rfl rfl (show _ = Value.bool false from rfl) rfl) (v := .pointer (some ((⟨g3, 0, none⟩ : Addr).add 2))) (pu_field (sz := 1) Try.underlying28 rfl Try.sizeOf26 (by decide) rfl e1) ?_
              refine lex.gval (want_t rfl rfl (show _ = Value.bool false from rfl) rfl) (v := .slice Anx_0_2 nx_0_2.length cnx_0_2) (ld_fld (hC.bx (i := 0) rfl) Try.isAgg26 rfl rfl) ?_
              refine lex.gpure (want_t rfl rfl (show _ = Value.bool false from rfl) rfl) (v := .int .i64 (nx_0_2.length : Int)) (pu_len (A := Anx_0_2) (n := nx_0_2.length) (m := cnx_0_2) Try.underlying26 rfl) ?_
              refine lex.gpure (want_t rfl rfl (show _ = Value.bool false from rfl) rfl) (v := .bool (decide (400 < (nx_0_2.length : Int)))) (pu_gtr (k := .i64) (a := (nx_0_2.length : Int)) (b := 400) rfl rfl) ?_
              refine lex.pure (v := .bool (decide (400 < (nx_0_2.length : Int)))) (pu_pickF (q := false) rfl rfl rfl) ?_
              refine lex.nil ?_
              refine hK18 _ _ ?_
              refine Wc.cond (t := (decide (400 < (nx_0_2.length : Int)))) (rfl) (fun hq24 => ?_) (fun hq24 => ?_)
              · replace hb := (cT hq24).symm.trans hb
                refine Wc.seq fun K25 hK25 => ?_
                refine Wc.region (by decide +kernel) ?_
                refine lex.pure (v := .bool false) (pu_assign rfl) ?_
                refine lex.nil ?_
                refine hK25 _ _ ?_
                obtain rfl := Option.some.inj hb
                refine Wc.ret ?_
                refine hKR _ _ ?_
                refine ⟨_, res1 Try.results36 (show RV _ _ _ (.tmp _) (.bool false) from rfl), _, rfl, rfl, hC.sel [] (by decide)⟩
              · replace hb := (cF hq24).symm.trans hb
                refine Wc.skip ?_
                exact hK17 _ _ ⟨e1, e2, hC.sel [0, 1] (by decide), hb⟩
          · clear hb hC
            rintro E27 w26 ⟨e1, e2, hC, hb⟩
            unfold F.garside_Valid_j0 at hb
            refine Wc.seq fun K28 hK28 => ?_
            refine Wc.seq fun K29 hK29 => ?_
            refine Wc.region (by decide +kernel) ?_
            refine lex.pure (v := .pointer (some ((⟨g3, 0, none⟩ : Addr).add 2))) (pu_field (sz := 1) Try.underlying28 rfl Try.sizeOf26 (by decide) rfl e1) ?_
            refine lex.val (v := .slice Anx_0_2 nx_0_2.length cnx_0_2) (ld_fld (hC.bx (i := 0) rfl) Try.isAgg26 rfl rfl) ?_
            refine lex.pure (v := .int .i64 (nx_0_2.length : Int)) (pu_len (A := Anx_0_2) (n := nx_0_2.length) (m := cnx_0_2) Try.underlying26 rfl) ?_
            refine lex.pure (v := .int .i64 0) (pu_move rfl) ?_
            refine lex.nil ?_
            refine hK29 _ _ ?_
            obtain ⟨o30, hl1, hb⟩ := bd hb
            refine Wc.cut (fun E wv => ∃ (v43_1 : Int), E 1 = .pointer (some ⟨g3, 0, none⟩) ∧ E 2 = .bool false ∧ I64 v43_1 ∧ Cx (fun _ => False) O0 w wv [.box g3 28 [.int .i64 nx_0_0, .int .i64 nx_0_1, .slice Anx_0_2 nx_0_2.length cnx_0_2], .ro (.sl (.sl (.int .i64))) [.slice Anx_0_2 nx_0_2.length cnx_0_2] nx_0_2] ∧ (((loopN n (F.garside_Valid_b2 n nx_0_0 nx_0_2) 1).bind fun o86 => match o86 with     | (.inl v5_2) => some true     | (.inr q) => some q) : Option (Bool)) = some r) (fun K31 hK31 => ?_) ?_
            · refine Wc.block ?_
              refine Wc.loop (fun m E wv => ∃ (v43_1 : Int), E 1 = .pointer (some ⟨g3, 0, none⟩) ∧ E 2 = .bool false ∧ E 41 = .slice Anx_0_2 nx_0_2.length cnx_0_2 ∧ E 42 = .int .i64 (nx_0_2.length : Int) ∧ E 43 = .int .i64 v43_1 ∧ I64 v43_1 ∧ Cx (fun _ => False) O0 w wv [.box g3 28 [.int .i64 nx_0_0, .int .i64 nx_0_1, .slice Anx_0_2 nx_0_2.length cnx_0_2], .ro (.sl (.sl (.int .i64))) [.slice Anx_0_2 nx_0_2.length cnx_0_2] nx_0_2] ∧ loopN m (F.garside_Valid_b1 n nx_0_0 nx_0_2) v43_1 = some o30) n ⟨0, e1, e2, rfl, rfl, rfl, (show I64 0 from by unfold I64; omega), hC.sel [0, 1] (by decide), hl1⟩ ?_
              have hbK1 := hb
              clear hb hC hl1
              rintro m33 E35 w34 ⟨v43_1, e1, e2, e41, e42, e43, hrv43_1, hC, hl1⟩ K32 hK32
              obtain ⟨m33', o36, rfl, hb, hl1⟩ := loopN_some hl1
              unfold F.garside_Valid_b1 at hb
              refine Wc.seq fun K37 hK37 => ?_
              refine Wc.region (by decide +kernel) ?_
              refine lex.pure (v := .bool (decide (v43_1 < (nx_0_2.length : Int)))) (pu_lss (k := .i64) (a := v43_1) (b := (nx_0_2.length : Int)) e43 e42) ?_
              refine lex.nil ?_
              refine hK37 _ _ ?_
              refine Wc.seq fun K38 hK38 => ?_
              refine Wc.cond (t := (decide (v43_1 < (nx_0_2.length : Int)))) (rfl) (fun hq39 => ?_) (fun hq39 => ?_)
              · replace hb := (cT hq39).symm.trans hb
                refine Wc.skip ?_
                refine hK38 _ _ ?_
                refine Wc.seq fun K40 hK40 => ?_
                refine Wc.block ?_
                refine Wc.seq fun K41 hK41 => ?_
                refine Wc.region (by decide +kernel) ?_
                obtain ⟨x42, h43, hb⟩ := bd hb
                obtain ⟨ad44, cs45, hA, hc46, hr47⟩ := hC.elr (i := 1) rfl (get_some h43).2
                subst hA
                refine lex.pure (v := .pointer (some (ad44.add (v43_1.toNat * 1)))) (pu_index (a := v43_1) Try.underlying26 Try.sizeOf43 e41 e43 (get_some h43).1) ?_
                have hR := hr47
                obtain ⟨A48, c49, rfl, hl50, hc51, _⟩ := hr47
                replace hC := hC.ro hR
                clear hR
                refine lex.val (v := .slice A48 x42.length c49) (ld_one Try.isAgg43 rfl (hc46 0 _ rfl)) ?_
                refine lex.pure (v := .slice A48 x42.length c49) (pu_assign rfl) ?_
                refine lex.nil ?_
                refine hK41 _ _ ?_
                refine Wc.seq fun K53 hK53 => ?_
                refine Wc.region (by decide +kernel) ?_
                refine lex.pure (v := .slice A48 x42.length c49) (pu_move rfl) ?_
                obtain ⟨y54, h55, hb⟩ := bd hb
                refine lex.cl (⟨_, _, op_call (vs := [.slice A48 x42.length c49]) Try.call31 rfl rfl rfl, perm_Valid_ok n hC.lt (hC.rd (i := 0) rfl) h55⟩) ?_
                rintro _ w56 ⟨rfl, hK⟩
                replace hC := hC.merge hK
                clear hK
                refine lex.pure (v := .bool (!y54)) (pu_not (q := y54) rfl) ?_
                refine lex.pure (v := .bool (!y54)) (pu_move rfl) ?_
                rcases bS (!y54) with hq57 | hq57
                · replace hb := (cT hq57).symm.trans hb
                  refine lex.gskip (want_f rfl rfl (show _ = Value.bool (!y54) from rfl) hq57) ?_
                  refine lex.gskip (want_f rfl rfl (show _ = Value.bool (!y54) from rfl) hq57) ?_
                  refine lex.gskip (want_f rfl rfl (show _ = Value.bool (!y54) from rfl) hq57) ?_
                  refine lex.gskip (want_f rfl rfl (show _ = Value.bool (!y54) from rfl) hq57) ?_
                  refine lex.gskip (want_f rfl rfl (show _ = Value.bool (!y54) from rfl) hq57) ?_
                  refine lex.pure (v := .bool true) (pu_pickT (q := (!y54)) rfl hq57 rfl) ?_
                  refine lex.pure (v := .bool true) (pu_move rfl) ?_
                  refine lex.gskip (want_f rfl rfl (show _ = Value.bool true from rfl) rfl) ?_
                  refine lex.gskip (want_f rfl rfl (show _ = Value.bool true from rfl) rfl) ?_
                  refine lex.pure (v := .bool true) (pu_pickT (q := true) rfl rfl rfl) ?_
                  refine lex.pure (v := .bool true) (pu_move rfl) ?_
                  refine lex.gskip (want_f rfl rfl (show _ = Value.bool true from rfl) rfl) ?_
                  refine lex.gskip (want_f rfl rfl (show _ = Value.bool true from rfl) rfl) ?_
                  refine lex.gskip (want_f rfl rfl (show _ = Value.bool true from rfl) rfl) ?_
                  refine lex.gskip (want_f rfl rfl (show _ = Value.bool true from rfl) rfl) ?_
                  refine lex.gskip (want_f rfl rfl (show _ = Value.bool true from rfl) rfl) ?_
                  refine lex.pure (v := .bool true) (pu_pickT (q := true) rfl rfl rfl) ?_
                  refine lex.nil ?_
                  refine hK53 _ _ ?_
                  refine Wc.cond_true (rfl) ?_
                  refine Wc.seq fun K58 hK58 => ?_
                  refine Wc.region (by decide +kernel) ?_
                  refine lex.pure (v := .bool false) (pu_assign rfl) ?_
                  refine lex.nil ?_
                  refine hK58 _ _ ?_
                  obtain rfl := Option.some.inj hb
                  obtain rfl := (lX hl1).symm
                  replace hb := hbK1
                  obtain rfl := Option.some.inj hb
                  refine Wc.ret ?_
                  refine hKR _ _ ?_
                  refine ⟨_, res1 Try.results36 (show RV _ _ _ (.tmp _) (.bool false) from rfl), _, rfl, rfl, hC.sel [] (by decide)⟩
                · replace hb := (cF hq57).symm.trans hb
                  refine lex.gpure (want_t rfl rfl (show _ = Value.bool (!y54) from rfl) hq57) (v := .slice A48 x42.length c49) (pu_move rfl) ?_
                  refine lex.gpure (want_t rfl rfl (show _ = Value.bool (!y54) from rfl) hq57) (v := .int .i64 (x42.length : Int)) (pu_len (A := A48) (n := x42.length) (m := c49) Try.underlying43 rfl) ?_
                  refine lex.gpure (want_t rfl rfl (show _ = Value.bool (!y54) from rfl) hq57) (v := .pointer (some ((⟨g3, 0, none⟩ : Addr).add 0))) (pu_field (sz := 1) Try.underlying28 rfl Try.sizeOf3 (by decide) rfl e1) ?_
                  refine lex.gval (want_t rfl rfl (show _ = Value.bool (!y54) from rfl) hq57) (v := .int .i64 nx_0_0) (ld_fld (hC.bx (i := 1) rfl) Try.isAgg3 rfl rfl) ?_
                  refine lex.gpure (want_t rfl rfl (show _ = Value.bool (!y54) from rfl) hq57) (v := .bool (!(decide ((x42.length : Int) = nx_0_0)))) (pu_neq (k := .i64) (a := (x42.length : Int)) (b := nx_0_0) rfl rfl) ?_
                  refine lex.pure (v := .bool (!(decide ((x42.length : Int) = nx_0_0)))) (pu_pickF (q := (!y54)) rfl hq57 rfl) ?_
                  refine lex.pure (v := .bool (!(decide ((x42.length : Int) = nx_0_0)))) (pu_move rfl) ?_
                  rcases bS (!(decide ((x42.length : Int) = nx_0_0))) with hq59 | hq59
                  · replace hb := (cT hq59).symm.trans hb
                    refine lex.gskip (want_f rfl rfl (show _ = Value.bool (!(decide ((x42.length : Int) = nx_0_0))) from rfl) hq59) ?_
                    refine lex.gskip (want_f rfl rfl (show _ = Value.bool (!(decide ((x42.length : Int) = nx_0_0))) from rfl) hq59) ?_
                    refine lex.pure (v := .bool true) (pu_pickT (q := (!(decide ((x42.length : Int) = nx_0_0)))) rfl hq59 rfl) ?_
                    refine lex.pure (v := .bool true) (pu_move rfl) ?_
                    refine lex.gskip (want_f rfl rfl (show _ = Value.bool true from rfl) rfl) ?_
                    refine lex.gskip (want_f rfl rfl (show _ = Value.bool true from rfl) rfl) ?_
                    refine lex.gskip (want_f rfl rfl (show _ = Value.bool true from rfl) rfl) ?_
                    refine lex.gskip (want_f rfl rfl (show _ = Value.bool true from rfl) rfl) ?_
                    refine lex.gskip (want_f rfl rfl (show _ = Value.bool true from rfl) rfl) ?_
                    refine lex.pure (v := .bool true) (pu_pickT (q := true) rfl rfl rfl) ?_
                    refine lex.nil ?_
                    refine hK53 _ _ ?_
                    refine Wc.cond_true (rfl) ?_
                    refine Wc.seq fun K60 hK60 => ?_
                    refine Wc.region (by decide +kernel) ?_
                    refine lex.pure (v := .bool false) (pu_assign rfl) ?_
                    refine lex.nil ?_
                    refine hK60 _ _ ?_
                    obtain rfl := Option.some.inj hb
                    obtain rfl := (lX hl1).symm
                    replace hb := hbK1
                    obtain rfl := Option.some.inj hb
                    refine Wc.ret ?_
                    refine hKR _ _ ?_
                    refine ⟨_, res1 Try.results36 (show RV _ _ _ (.tmp _) (.bool false) from rfl), _, rfl, rfl, hC.sel [] (by decide)⟩
                  · replace hb := (cF hq59).symm.trans hb
                    refine lex.gpure (want_t rfl rfl (show _ = Value.bool (!(decide ((x42.length : Int) = nx_0_0))) from rfl) hq59) (v := .slice A48 x42.length c49) (pu_move rfl) ?_
                    obtain ⟨y61, h62, hb⟩ := bd hb
                    refine lex.gcl (want_t rfl rfl (show _ = Value.bool (!(decide ((x42.length : Int) = nx_0_0))) from rfl) hq59) (⟨_, _, op_call (vs := [.slice A48 x42.length c49]) Try.call56 rfl rfl rfl, slices_IsSorted_Perm_int_ok n hC.lt (hC.rd (i := 0) rfl) h62⟩) ?_
                    rintro _ w63 ⟨rfl, hK⟩
                    replace hC := hC.merge hK
                    clear hK
                    refine lex.pure (v := .bool y61) (pu_pickF (q := (!(decide ((x42.length : Int) = nx_0_0)))) rfl hq59 rfl) ?_
                    refine lex.pure (v := .bool y61) (pu_move rfl) ?_
                    rcases bS y61 with hq64 | hq64
                    · replace hb := (cT hq64).symm.trans hb
                      refine lex.gskip (want_f rfl rfl (show _ = Value.bool y61 from rfl) hq64) ?_
                      refine lex.gskip (want_f rfl rfl (show _ = Value.bool y61 from rfl) hq64) ?_
                      refine lex.gskip (want_f rfl rfl (show _ = Value.bool y61 from rfl) hq64) ?_
                      refine lex.gskip (want_f rfl rfl (show _ = Value.bool y61 from rfl) hq64) ?_
                      refine lex.gskip (want_f rfl rfl (show _ = Value.bool y61 from rfl) hq64) ?_
                      refine lex.pure (v := .bool true) (pu_pickT (q := y61) rfl hq64 rfl) ?_
                      refine lex.nil ?_
                      refine hK53 _ _ ?_
                      refine Wc.cond_true (rfl) ?_
                      refine Wc.seq fun K65 hK65 => ?_
                      refine Wc.region (by decide +kernel) ?_
                      refine lex.pure (v := .bool false) (pu_assign rfl) ?_
                      refine lex.nil ?_
                      refine hK65 _ _ ?_
                      obtain rfl := Option.some.inj hb
                      obtain rfl := (lX hl1).symm
                      replace hb := hbK1
                      obtain rfl := Option.some.inj hb
                      refine Wc.ret ?_
                      refine hKR _ _ ?_
                      refine ⟨_, res1 Try.results36 (show RV _ _ _ (.tmp _) (.bool false) from rfl), _, rfl, rfl, hC.sel [] (by decide)⟩
                    · replace hb := (cF hq64).symm.trans hb
                      refine lex.gpure (want_t rfl rfl (show _ = Value.bool y61 from rfl) hq64) (v := .slice A48 x42.length c49) (pu_move rfl) ?_
                      refine lex.gpure (want_t rfl rfl (show _ = Value.bool y61 from rfl) hq64) (v := .pointer (some ((⟨g3, 0, none⟩ : Addr).add 0))) (pu_field (sz := 1) Try.underlying28 rfl Try.sizeOf3 (by decide) rfl e1) ?_
                      refine lex.gval (want_t rfl rfl (show _ = Value.bool y61 from rfl) hq64) (v := .int .i64 nx_0_0) (ld_fld (hC.bx (i := 1) rfl) Try.isAgg3 rfl rfl) ?_
                      obtain ⟨y66, h67, hb⟩ := bd hb
                      refine lex.gcl (want_t rfl rfl (show _ = Value.bool y61 from rfl) hq64) (⟨_, _, op_call (vs := [.int .i64 nx_0_0]) Try.call39 rfl rfl rfl, garside_halfTwist_ok n hC.lt hnx_0_0 h67⟩) ?_
                      rintro _ w72 ⟨A68, m69, c70, rfl, hK⟩
                      replace hC := hC.merge hK
                      clear hK
                      obtain ⟨rfl, hl73, hc74⟩ := (hC.ow (i := 0) rfl).sl_len
                      obtain ⟨y75, h76, hb⟩ := bd hb
                      refine lex.gcl (want_t rfl rfl (show _ = Value.bool y61 from rfl) hq64) (⟨_, _, op_call (vs := [.slice A48 x42.length c49, .slice A68 y66.length c70]) Try.call28 rfl rfl rfl, slices_Equal_Perm_int_ok n (hC.lentLt [.slice A68 y66.length c70]) ((hC.rd (i := 1) rfl).lent [.slice A68 y66.length c70]) ((hC.ow (i := 0) rfl).lend (vs := [.slice A68 y66.length c70]) (by simp)) h76⟩) ?_
                      rintro _ w77 ⟨rfl, hK⟩
                      replace hC := hC.mergeF hK rfl
                      clear hK
                      refine lex.pure (v := .bool y75) (pu_pickF (q := y61) rfl hq64 rfl) ?_
                      refine lex.nil ?_
                      refine hK53 _ _ ?_
                      refine Wc.cond (t := y75) (rfl) (fun hq78 => ?_) (fun hq78 => ?_)
                      · replace hb := (cT hq78).symm.trans hb
                        refine Wc.seq fun K79 hK79 => ?_
                        refine Wc.region (by decide +kernel) ?_
                        refine lex.pure (v := .bool false) (pu_assign rfl) ?_
                        refine lex.nil ?_
                        refine hK79 _ _ ?_
                        obtain rfl := Option.some.inj hb
                        obtain rfl := (lX hl1).symm
                        replace hb := hbK1
                        obtain rfl := Option.some.inj hb
                        refine Wc.ret ?_
                        refine hKR _ _ ?_
                        refine ⟨_, res1 Try.results36 (show RV _ _ _ (.tmp _) (.bool false) from rfl), _, rfl, rfl, hC.sel [] (by decide)⟩
                      · replace hb := (cF hq78).symm.trans hb
                        refine Wc.skip ?_
                        refine hK40 _ _ ?_
                        refine Wc.region (by decide +kernel) ?_
                        obtain ⟨z80, h81, hb⟩ := bd hb
                        refine lex.pure (v := .int .i64 z80) (pu_addc (a := v43_1) (b := 1) e43 rfl h81) ?_
                        refine lex.pure (v := .int .i64 z80) (pu_move rfl) ?_
                        refine lex.nil ?_
                        obtain rfl := Option.some.inj hb
                        exact hK32 m33' _ _ (Nat.lt_succ_self _) ⟨z80, e1, e2, e41, e42, rfl, (chk_rng h81), hC.sel [2, 3] (by decide), lN hl1⟩
              · replace hb := (cF hq39).symm.trans hb
                refine Wc.exit rfl ?_
                obtain rfl := Option.some.inj hb
                obtain rfl := (lX hl1).symm
                exact hK31 _ _ ⟨v43_1, e1, e2, hrv43_1, hC.sel [0, 1] (by decide), hbK1⟩
            · clear hb hC hl1
              rintro E83 w82 ⟨v43_1, e1, e2, hrv43_1, hC, hb⟩
              refine hK28 _ _ ?_
              refine Wc.seq fun K84 hK84 => ?_
              refine Wc.seq fun K85 hK85 => ?_
              refine Wc.region (by decide +kernel) ?_
              refine lex.pure (v := .int .i64 1) (pu_assign rfl) ?_
              refine lex.nil ?_
              refine hK85 _ _ ?_
              obtain ⟨o86, hl2, hb⟩ := bd hb
              refine Wc.cut (fun E wv => ∃ (v5_2 : Int), E 2 = .bool false ∧ I64 v5_2 ∧ Cx (fun _ => False) O0 w wv [] ∧ (some true : Option (Bool)) = some r) (fun K87 hK87 => ?_) ?_
              · refine Wc.block ?_
                refine Wc.loop (fun m E wv => ∃ (v5_2 : Int), E 1 = .pointer (some ⟨g3, 0, none⟩) ∧ E 2 = .bool false ∧ E 5 = .int .i64 v5_2 ∧ I64 v5_2 ∧ Cx (fun _ => False) O0 w wv [.box g3 28 [.int .i64 nx_0_0, .int .i64 nx_0_1, .slice Anx_0_2 nx_0_2.length cnx_0_2], .ro (.sl (.sl (.int .i64))) [.slice Anx_0_2 nx_0_2.length cnx_0_2] nx_0_2] ∧ loopN m (F.garside_Valid_b2 n nx_0_0 nx_0_2) v5_2 = some o86) n ⟨1, e1, e2, rfl, (show I64 1 from by unfold I64; omega), hC.sel [0, 1] (by decide), hl2⟩ ?_
                have hbK2 := hb
                clear hb hC hl2
                rintro m89 E91 w90 ⟨v5_2, e1, e2, e5, hrv5_2, hC, hl2⟩ K88 hK88
                obtain ⟨m89', o92, rfl, hb, hl2⟩ := loopN_some hl2
                unfold F.garside_Valid_b2 at hb
                refine Wc.seq fun K93 hK93 => ?_
                refine Wc.seq fun K94 hK94 => ?_
                refine Wc.region (by decide +kernel) ?_
                refine lex.pure (v := .int .i64 v5_2) (pu_move e5) ?_
                refine lex.pure (v := .pointer (some ((⟨g3, 0, none⟩ : Addr).add 2))) (pu_field (sz := 1) Try.underlying28 rfl Try.sizeOf26 (by decide) rfl e1) ?_
                refine lex.val (v := .slice Anx_0_2 nx_0_2.length cnx_0_2) (ld_fld (hC.bx (i := 0) rfl) Try.isAgg26 rfl rfl) ?_
                refine lex.pure (v := .int .i64 (nx_0_2.length : Int)) (pu_len (A := Anx_0_2) (n := nx_0_2.length) (m := cnx_0_2) Try.underlying26 rfl) ?_
                refine lex.pure (v := .bool (decide (v5_2 < (nx_0_2.length : Int)))) (pu_lss (k := .i64) (a := v5_2) (b := (nx_0_2.length : Int)) rfl rfl) ?_
                refine lex.nil ?_
                refine hK94 _ _ ?_
                refine Wc.cond (t := (decide (v5_2 < (nx_0_2.length : Int)))) (rfl) (fun hq95 => ?_) (fun hq95 => ?_)
                · replace hb := (cT hq95).symm.trans hb
                  refine Wc.skip ?_
                  refine hK93 _ _ ?_
                  refine Wc.seq fun K96 hK96 => ?_
                  refine Wc.block ?_
                  refine Wc.seq fun K97 hK97 => ?_
                  refine Wc.region (by decide +kernel) ?_
                  refine lex.pure (v := .pointer (some ((⟨g3, 0, none⟩ : Addr).add 2))) (pu_field (sz := 1) Try.underlying28 rfl Try.sizeOf26 (by decide) rfl e1) ?_
                  refine lex.val (v := .slice Anx_0_2 nx_0_2.length cnx_0_2) (ld_fld (hC.bx (i := 0) rfl) Try.isAgg26 rfl rfl) ?_
                  refine lex.pure (v := .int .i64 v5_2) (pu_move e5) ?_
                  obtain ⟨z98, h99, hb⟩ := bd hb
                  refine lex.pure (v := .int .i64 z98) (pu_subc (a := v5_2) (b := 1) rfl rfl h99) ?_
                  obtain ⟨x100, h101, hb⟩ := bd hb
                  obtain ⟨ad102, cs103, hA, hc104, hr105⟩ := hC.elr (i := 1) rfl (get_some h101).2
                  subst hA
                  refine lex.pure (v := .pointer (some (ad102.add (z98.toNat * 1)))) (pu_index (a := z98) Try.underlying26 Try.sizeOf43 rfl rfl (get_some h101).1) ?_
                  have hR := hr105
                  obtain ⟨A106, c107, rfl, hl108, hc109, _⟩ := hr105
                  replace hC := hC.ro hR
                  clear hR
                  refine lex.val (v := .slice A106 x100.length c107) (ld_one Try.isAgg43 rfl (hc104 0 _ rfl)) ?_
                  obtain ⟨y111, h112, hb⟩ := bd hb
                  refine lex.cl (⟨_, _, op_call (vs := [.slice A106 x100.length c107]) Try.call57 rfl rfl rfl, perm_Inverse_ok n hC.lt (hC.rd (i := 0) rfl) h112⟩) ?_
                  rintro _ w117 ⟨A113, m114, c115, rfl, hK⟩
                  replace hC := hC.merge hK
                  clear hK
                  obtain ⟨rfl, hl118, hc119⟩ := (hC.ow (i := 0) rfl).sl_len
                  refine lex.pure (v := .slice A113 y111.length c115) (pu_assign rfl) ?_
                  refine lex.nil ?_
                  refine hK97 _ _ ?_
                  refine Wc.fresh fun E120 hE => ?_
                  have e1 : E120 1 = .pointer (some ⟨g3, 0, none⟩) := (congrFun hE 1).trans e1
                  have e2 : E120 2 = .bool false := (congrFun hE 2).trans e2
                  have e5 : E120 5 = .int .i64 v5_2 := (congrFun hE 5).trans e5
                  have e6 : E120 6 = .slice A113 y111.length c115 := (congrFun hE 6).trans rfl
                  have e73 : E120 73 = .bool (decide (v5_2 < (nx_0_2.length : Int))) := (congrFun hE 73).trans rfl
                  clear hE
                  refine Wc.seq fun K121 hK121 => ?_
                  refine Wc.region (by decide +kernel) ?_
                  refine lex.pure (v := .int .i64 1) (pu_assign rfl) ?_
                  refine lex.nil ?_
                  refine hK121 _ _ ?_
                  obtain ⟨o122, hl3, hb⟩ := bd hb
                  refine Wc.cut (fun E wv => ∃ (v7_3 : Int), E 1 = .pointer (some ⟨g3, 0, none⟩) ∧ E 2 = .bool false ∧ E 5 = .int .i64 v5_2 ∧ E 6 = .slice A113 y111.length c115 ∧ E 7 = .int .i64 v7_3 ∧ E 73 = .bool (decide (v5_2 < (nx_0_2.length : Int))) ∧ I64 v7_3 ∧ Cx (fun _ => False) O0 w wv [.box g3 28 [.int .i64 nx_0_0, .int .i64 nx_0_1, .slice (some ad102) nx_0_2.length cnx_0_2], .ro (.sl (.sl (.int .i64))) [.slice (some ad102) nx_0_2.length cnx_0_2] nx_0_2, .own 3 (.int .i64) (.slice A113 y111.length c115) y111] ∧ ((chk (v5_2 + 1)).bind fun z201 => some (.inl z201) : Option ((Int) ⊕ ((Int) ⊕ (Bool)))) = some o92) (fun K123 hK123 => ?_) ?_
                  · refine Wc.block ?_
                    refine Wc.loop (fun m E wv => ∃ (v7_3 : Int), E 1 = .pointer (some ⟨g3, 0, none⟩) ∧ E 2 = .bool false ∧ E 5 = .int .i64 v5_2 ∧ E 6 = .slice A113 y111.length c115 ∧ E 7 = .int .i64 v7_3 ∧ E 73 = .bool (decide (v5_2 < (nx_0_2.length : Int))) ∧ I64 v7_3 ∧ Cx (fun _ => False) O0 w wv [.box g3 28 [.int .i64 nx_0_0, .int .i64 nx_0_1, .slice (some ad102) nx_0_2.length cnx_0_2], .ro (.sl (.sl (.int .i64))) [.slice (some ad102) nx_0_2.length cnx_0_2] nx_0_2, .own 3 (.int .i64) (.slice A113 y111.length c115) y111] ∧ loopN m (F.garside_Valid_b3 n nx_0_0 nx_0_2 v5_2 y111) v7_3 = some o122) n ⟨1, e1, e2, e5, e6, rfl, e73, (show I64 1 from by unfold I64; omega), hC.sel [2, 3, 0] (by decide), hl3⟩ ?_
                    have hbK3 := hb
                    clear hb hC hl3
                    rintro m125 E127 w126 ⟨v7_3, e1, e2, e5, e6, e7, e73, hrv7_3, hC, hl3⟩ K124 hK124
                    obtain ⟨m125', o128, rfl, hb, hl3⟩ := loopN_some hl3
                    unfold F.garside_Valid_b3 at hb
                    refine Wc.seq fun K129 hK129 => ?_
                    refine Wc.seq fun K130 hK130 => ?_
                    refine Wc.region (by decide +kernel) ?_
                    refine lex.pure (v := .int .i64 v7_3) (pu_move e7) ?_
                    refine lex.pure (v := .pointer (some ((⟨g3, 0, none⟩ : Addr).add 0))) (pu_field (sz := 1) Try.underlying28 rfl Try.sizeOf3 (by decide) rfl e1) ?_
                    refine lex.val (v := .int .i64 nx_0_0) (ld_fld (hC.bx (i := 0) rfl) Try.isAgg3 rfl rfl) ?_
                    refine lex.pure (v := .bool (decide (v7_3 < nx_0_0))) (pu_lss (k := .i64) (a := v7_3) (b := nx_0_0) rfl rfl) ?_
                    refine lex.nil ?_
                    refine hK130 _ _ ?_
                    refine Wc.cond (t := (decide (v7_3 < nx_0_0))) (rfl) (fun hq131 => ?_) (fun hq131 => ?_)
                    · replace hb := (cT hq131).symm.trans hb
                      refine Wc.skip ?_
                      refine hK129 _ _ ?_
                      refine Wc.seq fun K132 hK132 => ?_
                      refine Wc.block ?_
                      refine Wc.seq fun K133 hK133 => ?_
                      refine Wc.regionMix [] (frm [] ([] : List Fact) ([] : List Fact)) (fun _ => rfl) mixed (by decide +kernel) (by decide +kernel) fun w135 hw134 => ?_
                      replace hC := hC.step (Fr.of_drew hw134)
                      have hM := Fr.refl (fun k => k ∈ blocks ([] : List Fact)) w135
                      clear hw134
                      have hS := hC
                      refine mixE.pure (v := .pointer (some ((⟨g3, 0, none⟩ : Addr).add 2))) (pu_field (sz := 1) Try.underlying28 rfl Try.sizeOf26 (by decide) rfl e1) ?_
                      refine mixE.load hM (v := .slice (some ad102) nx_0_2.length cnx_0_2) (fun _ hF => ld_fld (hS.bx2 (i := 0) rfl [] (by decide) hF) Try.isAgg26 rfl rfl) ?_
                      refine mixE.pure (v := .int .i64 v5_2) (pu_move e5) ?_
                      obtain ⟨x136, h137, hb⟩ := bd hb
                      obtain ⟨ad138, cs139, hA, ho142, hc140, hr141⟩ := hS.elr2 (i := 1) rfl (get_some h137).2 []
                      obtain rfl := Option.some.inj hA
                      refine mixE.pure (v := .pointer (some (ad102.add (v5_2.toNat * 1)))) (pu_index (a := v5_2) Try.underlying26 Try.sizeOf43 rfl rfl (get_some h137).1) ?_
                      have hR := hr141
                      obtain ⟨A143, c144, rfl, hl145, hc146, _⟩ := hr141
                      replace hS := hS.ro hR
                      replace hC := hC.ro hR
                      clear hR
                      refine mixE.load hM (v := .slice A143 x136.length c144) (fun _ hF => ld_one Try.isAgg43 rfl (hF.cell (hc140 0 _ rfl) (off1 ho142))) ?_
                      refine mixE.pure (v := .int .i64 v7_3) (pu_move e7) ?_
                      obtain ⟨z148, h149, hb⟩ := bd hb
                      refine mixE.pure (v := .int .i64 z148) (pu_subc (a := v7_3) (b := 1) rfl rfl h149) ?_
                      obtain ⟨x150, h151, hb⟩ := bd hb
                      obtain ⟨ad152, cs153, hA, ho156, hc154, hr155⟩ := hS.elr2 (i := 0) rfl (get_some h151).2 []
                      subst hA
                      refine mixE.pure (v := .pointer (some (ad152.add (z148.toNat * 1)))) (pu_index (a := z148) Try.underlying43 Try.sizeOf3 rfl rfl (get_some h151).1) ?_
                      obtain ⟨rfl, hr155'⟩ := hr155
                      refine mixE.load hM (v := .int .i64 x150) (fun _ hF => ld_one Try.isAgg3 rfl (hF.cell (hc154 0 _ rfl) (off1 ho156))) ?_
                      refine mixE.pure (v := .pointer (some ((⟨g3, 0, none⟩ : Addr).add 2))) (pu_field (sz := 1) Try.underlying28 rfl Try.sizeOf26 (by decide) rfl e1) ?_
                      refine mixE.load hM (v := .slice (some ad102) nx_0_2.length cnx_0_2) (fun _ hF => ld_fld (hS.bx2 (i := 1) rfl [] (by decide) hF) Try.isAgg26 rfl rfl) ?_
                      refine mixE.pure (v := .int .i64 v5_2) (pu_move e5) ?_
                      obtain ⟨x157, h158, hb⟩ := bd hb
                      obtain ⟨ad159, cs160, hA, ho163, hc161, hr162⟩ := hS.elr2 (i := 2) rfl (get_some h158).2 []
                      obtain rfl := Option.some.inj hA
                      refine mixE.pure (v := .pointer (some (ad102.add (v5_2.toNat * 1)))) (pu_index (a := v5_2) Try.underlying26 Try.sizeOf43 rfl rfl (get_some h158).1) ?_
                      have hR := hr162
                      obtain ⟨A164, c165, rfl, hl166, hc167, _⟩ := hr162
                      replace hS := hS.ro hR
                      replace hC := hC.ro hR
                      clear hR
                      refine mixE.load hM (v := .slice A164 x157.length c165) (fun _ hF => ld_one Try.isAgg43 rfl (hF.cell (hc161 0 _ rfl) (off1 ho163))) ?_
                      refine mixE.pure (v := .int .i64 v7_3) (pu_move e7) ?_
                      obtain ⟨x169, h170, hb⟩ := bd hb
                      obtain ⟨ad171, cs172, hA, ho175, hc173, hr174⟩ := hS.elr2 (i := 0) rfl (get_some h170).2 []
                      subst hA
                      refine mixE.pure (v := .pointer (some (ad171.add (v7_3.toNat * 1)))) (pu_index (a := v7_3) Try.underlying43 Try.sizeOf3 rfl rfl (get_some h170).1) ?_
                      obtain ⟨rfl, hr174'⟩ := hr174
                      refine mixE.load hM (v := .int .i64 x169) (fun _ hF => ld_one Try.isAgg3 rfl (hF.cell (hc173 0 _ rfl) (off1 ho175))) ?_
                      refine mixE.pure (v := .bool (decide (x169 < x150))) (pu_gtr (k := .i64) (a := x150) (b := x169) rfl rfl) ?_
                      refine mixE.pure (v := .bool (decide (x169 < x150))) (pu_move rfl) ?_
                      rcases bS (decide (x169 < x150)) with hq176 | hq176
                      · replace hb := (cT hq176).symm.trans hb
                        refine mixE.gpure rfl (want_t rfl rfl (show _ = Value.bool (decide (x169 < x150)) from rfl) hq176) (v := .slice A113 y111.length c115) (pu_move e6) ?_
                        refine mixE.gpure rfl (want_t rfl rfl (show _ = Value.bool (decide (x169 < x150)) from rfl) hq176) (v := .int .i64 v7_3) (pu_move e7) ?_
                        obtain ⟨z177, h178, hb⟩ := bd hb
                        refine mixE.gpure rfl (want_t rfl rfl (show _ = Value.bool (decide (x169 < x150)) from rfl) hq176) (v := .int .i64 z177) (pu_subc (a := v7_3) (b := 1) rfl rfl h178) ?_
                        obtain ⟨x179, h180, hb⟩ := bd hb
                        obtain ⟨ad181, cs182, hA, ho185, hc183, hr184⟩ := hS.elo2 (i := 4) rfl (get_some h180).2 [] (by decide)
                        subst hA
                        refine mixE.gpure rfl (want_t rfl rfl (show _ = Value.bool (decide (x169 < x150)) from rfl) hq176) (v := .pointer (some (ad181.add (z177.toNat * 1)))) (pu_index (a := z177) Try.underlying43 Try.sizeOf3 rfl rfl (get_some h180).1) ?_
                        obtain ⟨rfl, hr184'⟩ := hr184
                        refine mixE.gload rfl (want_t rfl rfl (show _ = Value.bool (decide (x169 < x150)) from rfl) hq176) hM (v := .int .i64 x179) (fun _ hF => ld_one Try.isAgg3 rfl (hF.cell (hc183 0 _ rfl) (off1 ho185))) ?_
                        refine mixE.gpure rfl (want_t rfl rfl (show _ = Value.bool (decide (x169 < x150)) from rfl) hq176) (v := .slice (some ad181) y111.length c115) (pu_move e6) ?_
                        refine mixE.gpure rfl (want_t rfl rfl (show _ = Value.bool (decide (x169 < x150)) from rfl) hq176) (v := .int .i64 v7_3) (pu_move e7) ?_
                        obtain ⟨x186, h187, hb⟩ := bd hb
                        obtain ⟨ad188, cs189, hA, ho192, hc190, hr191⟩ := hS.elo2 (i := 4) rfl (get_some h187).2 [] (by decide)
                        obtain rfl := Option.some.inj hA
                        refine mixE.gpure rfl (want_t rfl rfl (show _ = Value.bool (decide (x169 < x150)) from rfl) hq176) (v := .pointer (some (ad181.add (v7_3.toNat * 1)))) (pu_index (a := v7_3) Try.underlying43 Try.sizeOf3 rfl rfl (get_some h187).1) ?_
                        obtain ⟨rfl, hr191'⟩ := hr191
                        refine mixE.gload rfl (want_t rfl rfl (show _ = Value.bool (decide (x169 < x150)) from rfl) hq176) hM (v := .int .i64 x186) (fun _ hF => ld_one Try.isAgg3 rfl (hF.cell (hc190 0 _ rfl) (off1 ho192))) ?_
                        refine mixE.gpure rfl (want_t rfl rfl (show _ = Value.bool (decide (x169 < x150)) from rfl) hq176) (v := .bool (decide (x179 < x186))) (pu_lss (k := .i64) (a := x179) (b := x186) rfl rfl) ?_
                        refine mixE.pure (v := .bool (decide (x179 < x186))) (pu_pickT (q := (decide (x169 < x150))) rfl hq176 rfl) ?_
                        refine mixE.nil ?_
                        clear hS hM
                        refine hK133 _ _ ?_
                        refine Wc.cond (t := (decide (x179 < x186))) (rfl) (fun hq193 => ?_) (fun hq193 => ?_)
                        · replace hb := (cT hq193).symm.trans hb
                          refine Wc.seq fun K194 hK194 => ?_
                          refine Wc.region (by decide +kernel) ?_
                          refine lex.pure (v := .bool false) (pu_assign rfl) ?_
                          refine lex.nil ?_
                          refine hK194 _ _ ?_
                          obtain rfl := Option.some.inj hb
                          obtain rfl := (lX hl3).symm
                          replace hb := hbK3
                          obtain rfl := Option.some.inj hb
                          obtain rfl := (lX hl2).symm
                          replace hb := hbK2
                          obtain rfl := Option.some.inj hb
                          refine Wc.ret ?_
                          refine hKR _ _ ?_
                          refine ⟨_, res1 Try.results36 (show RV _ _ _ (.tmp _) (.bool false) from rfl), _, rfl, rfl, hC.sel [] (by decide)⟩
                        · replace hb := (cF hq193).symm.trans hb
                          refine Wc.skip ?_
                          refine hK132 _ _ ?_
                          refine Wc.region (by decide +kernel) ?_
                          refine lex.pure (v := .int .i64 v7_3) (pu_move e7) ?_
                          obtain ⟨z195, h196, hb⟩ := bd hb
                          refine lex.pure (v := .int .i64 z195) (pu_addc (a := v7_3) (b := 1) rfl rfl h196) ?_
                          refine lex.pure (v := .int .i64 z195) (pu_assign rfl) ?_
                          refine lex.nil ?_
                          obtain rfl := Option.some.inj hb
                          exact hK124 m125' _ _ (Nat.lt_succ_self _) ⟨z195, e1, e2, e5, e6, rfl, e73, (chk_rng h196), hC.sel [2, 3, 4] (by decide), lN hl3⟩
                      · replace hb := (cF hq176).symm.trans hb
                        refine mixE.gskip (want_f rfl rfl (show _ = Value.bool (decide (x169 < x150)) from rfl) hq176) ?_
                        refine mixE.gskip (want_f rfl rfl (show _ = Value.bool (decide (x169 < x150)) from rfl) hq176) ?_
                        refine mixE.gskip (want_f rfl rfl (show _ = Value.bool (decide (x169 < x150)) from rfl) hq176) ?_
                        refine mixE.gskip (want_f rfl rfl (show _ = Value.bool (decide (x169 < x150)) from rfl) hq176) ?_
                        refine mixE.gskip (want_f rfl rfl (show _ = Value.bool (decide (x169 < x150)) from rfl) hq176) ?_
                        refine mixE.gskip (want_f rfl rfl (show _ = Value.bool (decide (x169 < x150)) from rfl) hq176) ?_
                        refine mixE.gskip (want_f rfl rfl (show _ = Value.bool (decide (x169 < x150)) from rfl) hq176) ?_
                        refine mixE.gskip (want_f rfl rfl (show _ = Value.bool (decide (x169 < x150)) from rfl) hq176) ?_
                        refine mixE.gskip (want_f rfl rfl (show _ = Value.bool (decide (x169 < x150)) from rfl) hq176) ?_
                        refine mixE.gskip (want_f rfl rfl (show _ = Value.bool (decide (x169 < x150)) from rfl) hq176) ?_
                        refine mixE.pure (v := .bool false) (pu_pickF (q := (decide (x169 < x150))) rfl hq176 rfl) ?_
                        refine mixE.nil ?_
                        clear hS hM
                        refine hK133 _ _ ?_
                        refine Wc.cond_false (rfl) ?_
                        refine Wc.skip ?_
                        refine hK132 _ _ ?_
                        refine Wc.region (by decide +kernel) ?_
                        refine lex.pure (v := .int .i64 v7_3) (pu_move e7) ?_
                        obtain ⟨z197, h198, hb⟩ := bd hb
                        refine lex.pure (v := .int .i64 z197) (pu_addc (a := v7_3) (b := 1) rfl rfl h198) ?_
                        refine lex.pure (v := .int .i64 z197) (pu_assign rfl) ?_
                        refine lex.nil ?_
                        obtain rfl := Option.some.inj hb
                        exact hK124 m125' _ _ (Nat.lt_succ_self _) ⟨z197, e1, e2, e5, e6, rfl, e73, (chk_rng h198), hC.sel [2, 3, 4] (by decide), lN hl3⟩
                    · replace hb := (cF hq131).symm.trans hb
                      refine Wc.exit rfl ?_
                      obtain rfl := Option.some.inj hb
                      obtain rfl := (lX hl3).symm
                      exact hK123 _ _ ⟨v7_3, e1, e2, e5, e6, e7, e73, hrv7_3, hC.sel [0, 1, 2] (by decide), hbK3⟩
                  · clear hb hC hl3
                    rintro E200 w199 ⟨v7_3, e1, e2, e5, e6, e7, e73, hrv7_3, hC, hb⟩
                    refine hK96 _ _ ?_
                    refine Wc.region (by decide +kernel) ?_
                    refine lex.pure (v := .int .i64 v5_2) (pu_move e5) ?_
                    obtain ⟨z201, h202, hb⟩ := bd hb
                    refine lex.pure (v := .int .i64 z201) (pu_addc (a := v5_2) (b := 1) rfl rfl h202) ?_
                    refine lex.pure (v := .int .i64 z201) (pu_assign rfl) ?_
                    refine lex.nil ?_
                    obtain rfl := Option.some.inj hb
                    exact hK88 m89' _ _ (Nat.lt_succ_self _) ⟨z201, e1, e2, rfl, (chk_rng h202), hC.sel [0, 1] (by decide), lN hl2⟩
                · replace hb := (cF hq95).symm.trans hb
                  refine Wc.exit rfl ?_
                  obtain rfl := Option.some.inj hb
                  obtain rfl := (lX hl2).symm
                  exact hK87 _ _ ⟨v5_2, e2, hrv5_2, hC.sel [] (by decide), hbK2⟩
              · clear hb hC hl2
                rintro E204 w203 ⟨v5_2, e2, hrv5_2, hC, hb⟩
                refine hK84 _ _ ?_
                refine Wc.seq fun K205 hK205 => ?_
                refine Wc.region (by decide +kernel) ?_
                refine lex.pure (v := .bool true) (pu_assign rfl) ?_
                refine lex.nil ?_
                refine hK205 _ _ ?_
                obtain rfl := Option.some.inj hb
                refine Wc.ret ?_
                refine hKR _ _ ?_
                refine ⟨_, res1 Try.results36 (show RV _ _ _ (.tmp _) (.bool true) from rfl), _, rfl, rfl, hC.sel [] (by decide)⟩

set_option maxRecDepth 100000 in
set_option maxHeartbeats 4000000 in
theorem slices_Backward_Lint_int_it {gb : Nat} {A : Option Addr} {c : Nat} {xs : List Int} : IterOk Try.prog 66 #[.pointer (some ⟨gb, 0, none⟩)] xs.length (fun k => #[.int .i64 ((xs.length : Int) - 1 - (k : Int)), .int .i64 (xs.getD (xs.length - 1 - k) 0)]) (RdBack gb 22 A c xs) := by
  intro l A' B W hrd hround hA0
  refine calls_of_Wc Try.func66 rfl (by rw [Try.ntmps66]; exact Nat.le_of_ble_eq_true rfl) fun KR hKR => ?_
  have fin : ∀ E w, (A' xs.length w ∨ B w) → KR E w := fun E w h => hKR _ _ ⟨_, res0 Try.results66, ⟨_, rfl⟩, h⟩
  refine Wc.seq fun K1 hK1 => ?_
  refine Wc.region (by decide +kernel) ?_
  obtain ⟨hb, hl, hx⟩ := hrd 0 W hA0
  refine lex.val (v := .slice A xs.length c) (ld_one Try.isAgg22 rfl (hb.cell (j := 0) rfl)) ?_
  refine lex.pure (v := .int .i64 (xs.length : Int)) (pu_len (A := A) (n := xs.length) (m := c) Try.underlying22 rfl) ?_
  refine lex.pure (v := .int .i64 ((xs.length : Int) - 1)) (pu_sub (a := (xs.length : Int)) (b := 1) rfl rfl (by unfold I64; omega)) ?_
  refine lex.pure (v := .int .i64 ((xs.length : Int) - 1)) (pu_assign rfl) ?_
  refine lex.nil ?_
  refine hK1 _ _ ?_
  refine Wc.block ?_
  refine Wc.loop (fun m E wv => ∃ k : Nat, m = xs.length - k ∧ k ≤ xs.length ∧ E 0 = .func (.yield l) #[] #[] ∧ E 1 = .pointer (some ⟨gb, 0, none⟩) ∧ E 3 = .int .i64 ((xs.length : Int) - 1 - (k : Int)) ∧ A' k wv) xs.length ⟨0, by omega, by omega, rfl, rfl, by rw [show (xs.length : Int) - 1 - ((0 : Nat) : Int) = (xs.length : Int) - 1 by omega]; rfl, hA0⟩ ?_
  clear hb hx hA0
  rintro m E1 w1 ⟨k, rfl, hk, e0, e1, e3, hA⟩ K hK
  obtain ⟨hb, _, hx⟩ := hrd k w1 hA
  refine Wc.seq fun K2 hK2 => ?_
  refine Wc.seq fun K3 hK3 => ?_
  refine Wc.region (by decide +kernel) ?_
  refine lex.pure (v := .int .i64 ((xs.length : Int) - 1 - (k : Int))) (pu_move e3) ?_
  refine lex.pure (v := .bool (decide (0 ≤ (xs.length : Int) - 1 - (k : Int)))) (pu_geq (k := .i64) (a := (xs.length : Int) - 1 - (k : Int)) (b := 0) rfl rfl) ?_
  refine lex.nil ?_
  refine hK3 _ _ ?_
  refine Wc.cond (t := decide (0 ≤ (xs.length : Int) - 1 - (k : Int))) rfl (fun hq => ?_) (fun hq => ?_)
  · refine Wc.skip ?_
    refine hK2 _ _ ?_
    have hkl : k < xs.length := by have := of_decide_eq_true hq; omega
    have hi : xs[xs.length - 1 - k]? = some (xs.getD (xs.length - 1 - k) 0) := by
      rw [List.getD_eq_getElem?_getD, List.getElem?_eq_getElem (by omega)]; rfl
    obtain ⟨ad, hA1, hcell⟩ := hx _ _ hi
    subst hA1
    refine Wc.seq fun K4 hK4 => ?_
    refine Wc.block ?_
    refine Wc.seq fun K5 hK5 => ?_
    refine Wc.region (by decide +kernel) ?_
    refine lex.pure (v := .func (.yield l) #[] #[]) (pu_move e0) ?_
    refine lex.pure (v := .int .i64 ((xs.length : Int) - 1 - (k : Int))) (pu_move e3) ?_
    refine lex.val (v := .slice (some ad) xs.length c) (ld_one Try.isAgg22 e1 (hb.cell (j := 0) rfl)) ?_
    refine lex.pure (v := .int .i64 ((xs.length : Int) - 1 - (k : Int))) (pu_move e3) ?_
    refine lex.pure (v := .pointer (some (ad.add (((xs.length : Int) - 1 - (k : Int)).toNat * 1)))) (pu_index (a := (xs.length : Int) - 1 - (k : Int)) Try.underlying22 Try.sizeOf3 rfl rfl (by omega)) ?_
    refine lex.val (v := .int .i64 (xs.getD (xs.length - 1 - k) 0)) (ld_one Try.isAgg3 rfl (by rw [show ((xs.length : Int) - 1 - (k : Int)).toNat * 1 = xs.length - 1 - k by omega]; exact hcell)) ?_
    obtain ⟨fn, tmps, assign, body, hy, hR⟩ := hround k w1 hkl hA
    refine lex.yield (op_yield (vs := [.int .i64 ((xs.length : Int) - 1 - (k : Int)), .int .i64 (xs.getD (xs.length - 1 - k) 0)]) rfl rfl rfl hy) hR ?_
    rintro e w2 (⟨rfl, hA2⟩ | ⟨rfl, hB⟩)
    · refine ⟨_, rfl, ?_⟩
      refine lex.pure (v := .bool (!true)) (pu_not rfl) ?_
      refine lex.nil ?_
      refine hK5 _ _ ?_
      refine Wc.cond_false rfl ?_
      refine Wc.skip ?_
      refine hK4 _ _ ?_
      refine Wc.region (by decide +kernel) ?_
      refine lex.pure (v := .int .i64 ((xs.length : Int) - 1 - (k : Int))) (pu_move e3) ?_
      refine lex.pure (v := .int .i64 ((xs.length : Int) - 1 - (k : Int) - 1)) (pu_sub (a := (xs.length : Int) - 1 - (k : Int)) (b := 1) rfl rfl (by unfold I64; omega)) ?_
      refine lex.pure (v := .int .i64 ((xs.length : Int) - 1 - (k : Int) - 1)) (pu_assign rfl) ?_
      refine lex.nil ?_
      exact hK (xs.length - (k + 1)) _ _ (by omega) ⟨k + 1, rfl, by omega, e0, e1, by rw [show (xs.length : Int) - 1 - ((k + 1 : Nat) : Int) = (xs.length : Int) - 1 - (k : Int) - 1 by omega]; rfl, hA2⟩
    · refine ⟨_, rfl, ?_⟩
      refine lex.pure (v := .bool (!false)) (pu_not rfl) ?_
      refine lex.nil ?_
      refine hK5 _ _ ?_
      refine Wc.cond_true rfl ?_
      refine Wc.ret ?_
      exact fin _ _ (.inr hB)
  · refine Wc.exit rfl ?_
    have : k = xs.length := by have := of_decide_eq_false hq; omega
    subst this
    exact fin _ _ (.inl hA)
set_option maxRecDepth 100000 in
set_option maxHeartbeats 4000000 in
theorem slices_Backward_Lint_int_ok {w : World} {O0 : List Nat} {A : Option Addr} {m c : Nat} (hO : ∀ k ∈ O0, k < w.heap.size) : Calls Try.prog 58 #[.slice A m c] w fun e w' => ∃ v, e = .returned v ∧ ∃ gb, v = .func (.func 66) #[] #[.pointer (some ⟨gb, 0, none⟩)] ∧ Cx (fun _ => False) O0 w w' [.box gb 22 [.slice A m c]] := by
  have hC := Cx.start hO
  refine calls_of_Wc Try.func58 rfl (by rw [Try.ntmps58]; exact Nat.le_of_ble_eq_true rfl) fun KR hKR => ?_
  refine Wc.seq fun K1 hK1 => ?_
  refine Wc.region (by decide +kernel) ?_
  refine lex.op (hC.box (cs := [.slice A m c]) rfl rfl) ?_
  rintro _ w2 ⟨g1, rfl, hC, hF, hG⟩
  refine lex.pure (v := .nilFunc) (pu_assign rfl) ?_
  refine lex.nil ?_
  refine hK1 _ _ ?_
  refine Wc.seq fun K2 hK2 => ?_
  refine Wc.region (by decide +kernel) ?_
  refine lex.pure (v := .func (.func 66) #[] #[.pointer (some ⟨g1, 0, none⟩)]) (pu_funcc (l := [.pointer (some ⟨g1, 0, none⟩)]) rfl) ?_
  refine lex.pure (v := .func (.func 66) #[] #[.pointer (some ⟨g1, 0, none⟩)]) (pu_assign rfl) ?_
  refine lex.nil ?_
  refine hK2 _ _ ?_
  refine Wc.ret ?_
  refine hKR _ _ ?_
  exact ⟨_, res1 Try.results58 (show RV _ _ _ (.tmp _) (.func (.func 66) #[] #[.pointer (some ⟨g1, 0, none⟩)]) from rfl), _, rfl, g1, rfl, hC⟩
end Go.Proofs.Ytkeaonceaaafcaa
