/- The walks: part 18. -/
import Derived.Test.YtmlkiafidahnbaaS
import Derived.Test.YtmlkiafidahnbaaG0
import Derived.Test.YtmlkiafidahnbaaG11
set_option linter.unusedVariables false
set_option linter.unusedSimpArgs false
namespace Go.Proofs.Ytmlkiafidahnbaa
open Ev
set_option maxRecDepth 100000 in
set_option maxHeartbeats 4000000 in
theorem law30_short_ok (n : Nat) {w : World} {O0 : List Nat} (hO : ∀ k ∈ O0, k < w.heap.size) {Al_0 : Option Addr} {ml_0 cl_0 : Nat} {l_0 : List (List Int)} (hl_0 : Rep O0 w (.sl (.sl (.int .i64))) [.slice Al_0 ml_0 cl_0] l_0) {r : Bool} (hb : F.law30_short n l_0 = some r) :
    Calls Try.prog 32 #[.slice Al_0 ml_0 cl_0] w fun e w' => ∃ v, e = .returned v ∧ v = .bool r ∧ Cx (fun _ => False) O0 w w' [] := by
  unfold F.law30_short at hb
  have hC := Cx.start hO
  replace hC := hC.arg rfl hl_0
  clear hO
  obtain ⟨rfl, hll_0, hcl_0⟩ := hl_0.sl_len
  refine calls_of_Wc Try.func32 rfl (by rw [Try.ntmps32]; exact Nat.le_of_ble_eq_true rfl) fun KR hKR => ?_
  refine Wc.seq fun K2 hK2 => ?_
  refine Wc.region (by decide +kernel) ?_
  refine lex.pure (v := .bool false) (pu_assign rfl) ?_
  refine lex.nil ?_
  refine hK2 _ _ ?_
  refine Wc.seq fun K3 hK3 => ?_
  refine Wc.seq fun K4 hK4 => ?_
  refine Wc.region (by decide +kernel) ?_
  refine lex.pure (v := .slice Al_0 l_0.length cl_0) (pu_move rfl) ?_
  refine lex.pure (v := .int .i64 (l_0.length : Int)) (pu_len (A := Al_0) (n := l_0.length) (m := cl_0) Try.underlying32 rfl) ?_
  refine lex.pure (v := .int .i64 0) (pu_move rfl) ?_
  refine lex.nil ?_
  refine hK4 _ _ ?_
  obtain ⟨o5, hl0, hb⟩ := bd hb
  refine Wc.cut (fun E wv => ∃ (v7_0 : Int), E 0 = .slice Al_0 l_0.length cl_0 ∧ E 2 = .bool false ∧ I64 v7_0 ∧ Cx (fun _ => False) O0 w wv [.ro (.sl (.sl (.int .i64))) [.slice Al_0 l_0.length cl_0] l_0] ∧ (some (decide ((l_0.length : Int) ≤ 30)) : Option (Bool)) = some r) (fun K6 hK6 => ?_) ?_
  · refine Wc.block ?_
    refine Wc.loop (fun m E wv => ∃ (v7_0 : Int), E 0 = .slice Al_0 l_0.length cl_0 ∧ E 2 = .bool false ∧ E 5 = .slice Al_0 l_0.length cl_0 ∧ E 6 = .int .i64 (l_0.length : Int) ∧ E 7 = .int .i64 v7_0 ∧ I64 v7_0 ∧ Cx (fun _ => False) O0 w wv [.ro (.sl (.sl (.int .i64))) [.slice Al_0 l_0.length cl_0] l_0] ∧ loopN m (F.law30_short_b0 n l_0) v7_0 = some o5) n ⟨0, rfl, rfl, rfl, rfl, rfl, (show I64 0 from by unfold I64; omega), hC.sel [0] (by decide), hl0⟩ ?_
    have hbK0 := hb
    clear hb hC hl0
    rintro m8 E10 w9 ⟨v7_0, e0, e2, e5, e6, e7, hrv7_0, hC, hl0⟩ K7 hK7
    obtain ⟨m8', o11, rfl, hb, hl0⟩ := loopN_some hl0
    unfold F.law30_short_b0 at hb
    refine Wc.seq fun K12 hK12 => ?_
    refine Wc.region (by decide +kernel) ?_
    refine lex.pure (v := .bool (decide (v7_0 < (l_0.length : Int)))) (pu_lss (k := .i64) (a := v7_0) (b := (l_0.length : Int)) e7 e6) ?_
    refine lex.nil ?_
    refine hK12 _ _ ?_
    refine Wc.seq fun K13 hK13 => ?_
    refine Wc.cond (t := (decide (v7_0 < (l_0.length : Int)))) (rfl) (fun hq14 => ?_) (fun hq14 => ?_)
    · replace hb := (cT hq14).symm.trans hb
      refine Wc.skip ?_
      refine hK13 _ _ ?_
      refine Wc.seq fun K15 hK15 => ?_
      refine Wc.block ?_
      refine Wc.seq fun K16 hK16 => ?_
      refine Wc.region (by decide +kernel) ?_
      obtain ⟨x17, h18, hb⟩ := bd hb
      obtain ⟨ad19, cs20, hA, hc21, hr22⟩ := hC.elr (i := 0) rfl (get_some h18).2
      subst hA
      refine lex.pure (v := .pointer (some (ad19.add (v7_0.toNat * 1)))) (pu_index (a := v7_0) Try.underlying32 Try.sizeOf29 e5 e7 (get_some h18).1) ?_
      have hR := hr22
      obtain ⟨A23, c24, rfl, hl25, hc26, _⟩ := hr22
      replace hC := hC.ro hR
      clear hR
      refine lex.val (v := .slice A23 x17.length c24) (ld_one Try.isAgg29 rfl (hc21 0 _ rfl)) ?_
      refine lex.pure (v := .slice A23 x17.length c24) (pu_assign rfl) ?_
      refine lex.nil ?_
      refine hK16 _ _ ?_
      refine Wc.seq fun K28 hK28 => ?_
      refine Wc.region (by decide +kernel) ?_
      refine lex.pure (v := .slice A23 x17.length c24) (pu_move rfl) ?_
      refine lex.pure (v := .int .i64 (x17.length : Int)) (pu_len (A := A23) (n := x17.length) (m := c24) Try.underlying29 rfl) ?_
      refine lex.pure (v := .bool (decide (30 < (x17.length : Int)))) (pu_gtr (k := .i64) (a := (x17.length : Int)) (b := 30) rfl rfl) ?_
      refine lex.nil ?_
      refine hK28 _ _ ?_
      refine Wc.cond (t := (decide (30 < (x17.length : Int)))) (rfl) (fun hq29 => ?_) (fun hq29 => ?_)
      · replace hb := (cT hq29).symm.trans hb
        refine Wc.seq fun K30 hK30 => ?_
        refine Wc.region (by decide +kernel) ?_
        refine lex.pure (v := .bool false) (pu_assign rfl) ?_
        refine lex.nil ?_
        refine hK30 _ _ ?_
        obtain rfl := Option.some.inj hb
        obtain rfl := (lX hl0).symm
        replace hb := hbK0
        obtain rfl := Option.some.inj hb
        refine Wc.ret ?_
        refine hKR _ _ ?_
        refine ⟨_, res1 Try.results32 (show RV _ _ _ (.tmp _) (.bool false) from rfl), _, rfl, rfl, hC.sel [] (by decide)⟩
      · replace hb := (cF hq29).symm.trans hb
        refine Wc.skip ?_
        refine hK15 _ _ ?_
        refine Wc.region (by decide +kernel) ?_
        obtain ⟨z31, h32, hb⟩ := bd hb
        refine lex.pure (v := .int .i64 z31) (pu_addc (a := v7_0) (b := 1) e7 rfl h32) ?_
        refine lex.pure (v := .int .i64 z31) (pu_move rfl) ?_
        refine lex.nil ?_
        obtain rfl := Option.some.inj hb
        exact hK7 m8' _ _ (Nat.lt_succ_self _) ⟨z31, e0, e2, e5, e6, rfl, (chk_rng h32), hC.sel [1] (by decide), lN hl0⟩
    · replace hb := (cF hq14).symm.trans hb
      refine Wc.exit rfl ?_
      obtain rfl := Option.some.inj hb
      obtain rfl := (lX hl0).symm
      exact hK6 _ _ ⟨v7_0, e0, e2, hrv7_0, hC.sel [0] (by decide), hbK0⟩
  · clear hb hC hl0
    rintro E34 w33 ⟨v7_0, e0, e2, hrv7_0, hC, hb⟩
    refine hK3 _ _ ?_
    refine Wc.seq fun K35 hK35 => ?_
    refine Wc.region (by decide +kernel) ?_
    refine lex.pure (v := .slice Al_0 l_0.length cl_0) (pu_move e0) ?_
    refine lex.pure (v := .int .i64 (l_0.length : Int)) (pu_len (A := Al_0) (n := l_0.length) (m := cl_0) Try.underlying32 rfl) ?_
    refine lex.pure (v := .bool (decide ((l_0.length : Int) ≤ 30))) (pu_leq (k := .i64) (a := (l_0.length : Int)) (b := 30) rfl rfl) ?_
    refine lex.pure (v := .bool (decide ((l_0.length : Int) ≤ 30))) (pu_assign rfl) ?_
    refine lex.nil ?_
    refine hK35 _ _ ?_
    obtain rfl := Option.some.inj hb
    refine Wc.ret ?_
    refine hKR _ _ ?_
    refine ⟨_, res1 Try.results32 (show RV _ _ _ (.tmp _) (.bool (decide ((l_0.length : Int) ≤ 30))) from rfl), _, rfl, rfl, hC.sel [] (by decide)⟩

set_option maxRecDepth 100000 in
set_option maxHeartbeats 4000000 in
theorem perm_Transitive_ok (n : Nat) {w : World} {O0 : List Nat} (hO : ∀ k ∈ O0, k < w.heap.size) {Al_0 : Option Addr} {ml_0 cl_0 : Nat} {l_0 : List (List Int)} (hl_0 : Rep O0 w (.sl (.sl (.int .i64))) [.slice Al_0 ml_0 cl_0] l_0) {r : Bool} (hb : F.perm_Transitive n l_0 = some r) :
    Calls Try.prog 33 #[.slice Al_0 ml_0 cl_0] w fun e w' => ∃ v, e = .returned v ∧ v = .bool r ∧ Cx (fun _ => False) O0 w w' [] := by
  unfold F.perm_Transitive at hb
  have hC := Cx.start hO
  replace hC := hC.arg rfl hl_0
  clear hO
  obtain ⟨rfl, hll_0, hcl_0⟩ := hl_0.sl_len
  refine calls_of_Wc Try.func33 rfl (by rw [Try.ntmps33]; exact Nat.le_of_ble_eq_true rfl) fun KR hKR => ?_
  refine Wc.seq fun K2 hK2 => ?_
  refine Wc.region (by decide +kernel) ?_
  refine lex.pure (v := .bool false) (pu_assign rfl) ?_
  refine lex.nil ?_
  refine hK2 _ _ ?_
  refine Wc.seq fun K3 hK3 => ?_
  refine Wc.seq fun K4 hK4 => ?_
  refine Wc.region (by decide +kernel) ?_
  refine lex.pure (v := .slice Al_0 l_0.length cl_0) (pu_move rfl) ?_
  refine lex.pure (v := .int .i64 (l_0.length : Int)) (pu_len (A := Al_0) (n := l_0.length) (m := cl_0) Try.underlying32 rfl) ?_
  refine lex.pure (v := .bool (decide ((l_0.length : Int) = 0))) (pu_eql (k := .i64) (a := (l_0.length : Int)) (b := 0) rfl rfl) ?_
  refine lex.pure (v := .bool (decide ((l_0.length : Int) = 0))) (pu_move rfl) ?_
  rcases bS (decide ((l_0.length : Int) = 0)) with hq5 | hq5
  · replace hb := (cT hq5).symm.trans hb
    refine lex.gskip (want_f rfl rfl (show _ = Value.bool (decide ((l_0.length : Int) = 0)) from rfl) hq5) ?_
    refine lex.gskip (want_f rfl rfl (show _ = Value.bool (decide ((l_0.length : Int) = 0)) from rfl) hq5) ?_
    refine lex.gskip (want_f rfl rfl (show _ = Value.bool (decide ((l_0.length : Int) = 0)) from rfl) hq5) ?_
    refine lex.gskip (want_f rfl rfl (show _ = Value.bool (decide ((l_0.length : Int) = 0)) from rfl) hq5) ?_
    refine lex.gskip (want_f rfl rfl (show _ = Value.bool (decide ((l_0.length : Int) = 0)) from rfl) hq5) ?_
    refine lex.pure (v := .bool true) (pu_pickT (q := (decide ((l_0.length : Int) = 0))) rfl hq5 rfl) ?_
    refine lex.nil ?_
    refine hK4 _ _ ?_
    refine Wc.cond_true (rfl) ?_
    refine Wc.seq fun K6 hK6 => ?_
    refine Wc.region (by decide +kernel) ?_
    refine lex.pure (v := .bool false) (pu_assign rfl) ?_
    refine lex.nil ?_
    refine hK6 _ _ ?_
    obtain rfl := Option.some.inj hb
    refine Wc.ret ?_
    refine hKR _ _ ?_
    refine ⟨_, res1 Try.results33 (show RV _ _ _ (.tmp _) (.bool false) from rfl), _, rfl, rfl, hC.sel [] (by decide)⟩
  · replace hb := (cF hq5).symm.trans hb
    refine lex.gpure (want_t rfl rfl (show _ = Value.bool (decide ((l_0.length : Int) = 0)) from rfl) hq5) (v := .slice Al_0 l_0.length cl_0) (pu_move rfl) ?_
    obtain ⟨x7, h8, hb⟩ := bd hb
    obtain ⟨ad9, cs10, hA, hc11, hr12⟩ := hC.elr (i := 0) rfl (get_some h8).2
    subst hA
    refine lex.gpure (want_t rfl rfl (show _ = Value.bool (decide ((l_0.length : Int) = 0)) from rfl) hq5) (v := .pointer (some (ad9.add ((0 : Int).toNat * 1)))) (pu_index (a := 0) Try.underlying32 Try.sizeOf29 rfl rfl (get_some h8).1) ?_
    have hR := hr12
    obtain ⟨A13, c14, rfl, hl15, hc16, _⟩ := hr12
    replace hC := hC.ro hR
    clear hR
    refine lex.gval (want_t rfl rfl (show _ = Value.bool (decide ((l_0.length : Int) = 0)) from rfl) hq5) (v := .slice A13 x7.length c14) (ld_one Try.isAgg29 rfl (hc11 0 _ rfl)) ?_
    refine lex.gpure (want_t rfl rfl (show _ = Value.bool (decide ((l_0.length : Int) = 0)) from rfl) hq5) (v := .int .i64 (x7.length : Int)) (pu_len (A := A13) (n := x7.length) (m := c14) Try.underlying29 rfl) ?_
    refine lex.gpure (want_t rfl rfl (show _ = Value.bool (decide ((l_0.length : Int) = 0)) from rfl) hq5) (v := .bool (decide ((x7.length : Int) = 0))) (pu_eql (k := .i64) (a := (x7.length : Int)) (b := 0) rfl rfl) ?_
    refine lex.pure (v := .bool (decide ((x7.length : Int) = 0))) (pu_pickF (q := (decide ((l_0.length : Int) = 0))) rfl hq5 rfl) ?_
    refine lex.nil ?_
    refine hK4 _ _ ?_
    refine Wc.cond (t := (decide ((x7.length : Int) = 0))) (rfl) (fun hq18 => ?_) (fun hq18 => ?_)
    · replace hb := (cT hq18).symm.trans hb
      refine Wc.seq fun K19 hK19 => ?_
      refine Wc.region (by decide +kernel) ?_
      refine lex.pure (v := .bool false) (pu_assign rfl) ?_
      refine lex.nil ?_
      refine hK19 _ _ ?_
      obtain rfl := Option.some.inj hb
      refine Wc.ret ?_
      refine hKR _ _ ?_
      refine ⟨_, res1 Try.results33 (show RV _ _ _ (.tmp _) (.bool false) from rfl), _, rfl, rfl, hC.sel [] (by decide)⟩
    · replace hb := (cF hq18).symm.trans hb
      refine Wc.skip ?_
      refine hK3 _ _ ?_
      refine Wc.fresh fun E20 hE => ?_
      have e0 : E20 0 = .slice (some ad9) l_0.length cl_0 := (congrFun hE 0).trans rfl
      have e2 : E20 2 = .bool false := (congrFun hE 2).trans rfl
      clear hE
      refine Wc.seq fun K21 hK21 => ?_
      refine Wc.seq fun K22 hK22 => ?_
      refine Wc.region (by decide +kernel) ?_
      refine lex.pure (v := .slice (some ad9) l_0.length cl_0) (pu_move e0) ?_
      refine lex.pure (v := .int .i64 (l_0.length : Int)) (pu_len (A := (some ad9)) (n := l_0.length) (m := cl_0) Try.underlying32 rfl) ?_
      refine lex.pure (v := .int .i64 0) (pu_move rfl) ?_
      refine lex.nil ?_
      refine hK22 _ _ ?_
      obtain ⟨o23, hl0, hb⟩ := bd hb
      refine Wc.cut (fun E wv => ∃ (v23_0 : Int), E 0 = .slice (some ad9) l_0.length cl_0 ∧ E 2 = .bool false ∧ I64 v23_0 ∧ Cx (fun _ => False) O0 w wv [.ro (.sl (.sl (.int .i64))) [.slice (some ad9) l_0.length cl_0] l_0] ∧ ((get l_0 0).bind fun x70 => (pos (x70.length : Int)).bind fun u81 => (get (List.replicate (x70.length : Int).toNat false) 0).bind fun x90 => ((loopN n (F.perm_Transitive_b1 n l_0) (([0] : List Int), 0, ((List.replicate (x70.length : Int).toNat false).set (0 : Int).toNat true))).bind fun o107 => match o107 with     | (l6_1, v7_1, qf88_1) => some (decide ((l6_1.length : Int) = (((List.replicate (x70.length : Int).toNat false)).length : Int)))) : Option (Bool)) = some r) (fun K24 hK24 => ?_) ?_
      · refine Wc.block ?_
        refine Wc.loop (fun m E wv => ∃ (v23_0 : Int), E 0 = .slice (some ad9) l_0.length cl_0 ∧ E 2 = .bool false ∧ E 21 = .slice (some ad9) l_0.length cl_0 ∧ E 22 = .int .i64 (l_0.length : Int) ∧ E 23 = .int .i64 v23_0 ∧ I64 v23_0 ∧ Cx (fun _ => False) O0 w wv [.ro (.sl (.sl (.int .i64))) [.slice (some ad9) l_0.length cl_0] l_0] ∧ loopN m (F.perm_Transitive_b0 n l_0) v23_0 = some o23) n ⟨0, e0, e2, rfl, rfl, rfl, (show I64 0 from by unfold I64; omega), hC.sel [1] (by decide), hl0⟩ ?_
        have hbK0 := hb
        clear hb hC hl0
        rintro m26 E28 w27 ⟨v23_0, e0, e2, e21, e22, e23, hrv23_0, hC, hl0⟩ K25 hK25
        obtain ⟨m26', o29, rfl, hb, hl0⟩ := loopN_some hl0
        unfold F.perm_Transitive_b0 at hb
        refine Wc.seq fun K30 hK30 => ?_
        refine Wc.region (by decide +kernel) ?_
        refine lex.pure (v := .bool (decide (v23_0 < (l_0.length : Int)))) (pu_lss (k := .i64) (a := v23_0) (b := (l_0.length : Int)) e23 e22) ?_
        refine lex.nil ?_
        refine hK30 _ _ ?_
        refine Wc.seq fun K31 hK31 => ?_
        refine Wc.cond (t := (decide (v23_0 < (l_0.length : Int)))) (rfl) (fun hq32 => ?_) (fun hq32 => ?_)
        · replace hb := (cT hq32).symm.trans hb
          refine Wc.skip ?_
          refine hK31 _ _ ?_
          refine Wc.seq fun K33 hK33 => ?_
          refine Wc.block ?_
          refine Wc.seq fun K34 hK34 => ?_
          refine Wc.region (by decide +kernel) ?_
          obtain ⟨x35, h36, hb⟩ := bd hb
          obtain ⟨ad37, cs38, hA, hc39, hr40⟩ := hC.elr (i := 0) rfl (get_some h36).2
          obtain rfl := Option.some.inj hA
          refine lex.pure (v := .pointer (some (ad9.add (v23_0.toNat * 1)))) (pu_index (a := v23_0) Try.underlying32 Try.sizeOf29 e21 e23 (get_some h36).1) ?_
          have hR := hr40
          obtain ⟨A41, c42, rfl, hl43, hc44, _⟩ := hr40
          replace hC := hC.ro hR
          clear hR
          refine lex.val (v := .slice A41 x35.length c42) (ld_one Try.isAgg29 rfl (hc39 0 _ rfl)) ?_
          refine lex.pure (v := .slice A41 x35.length c42) (pu_assign rfl) ?_
          refine lex.nil ?_
          refine hK34 _ _ ?_
          refine Wc.seq fun K46 hK46 => ?_
          refine Wc.region (by decide +kernel) ?_
          refine lex.pure (v := .slice A41 x35.length c42) (pu_move rfl) ?_
          obtain ⟨y47, h48, hb⟩ := bd hb
          refine lex.cl (⟨_, _, op_call (vs := [.slice A41 x35.length c42]) Try.call19 rfl rfl rfl, perm_Valid_ok n hC.lt (hC.rd (i := 0) rfl) h48⟩) ?_
          rintro _ w49 ⟨rfl, hK⟩
          replace hC := hC.merge hK
          clear hK
          refine lex.pure (v := .bool (!y47)) (pu_not (q := y47) rfl) ?_
          refine lex.pure (v := .bool (!y47)) (pu_move rfl) ?_
          rcases bS (!y47) with hq50 | hq50
          · replace hb := (cT hq50).symm.trans hb
            refine lex.gskip (want_f rfl rfl (show _ = Value.bool (!y47) from rfl) hq50) ?_
            refine lex.gskip (want_f rfl rfl (show _ = Value.bool (!y47) from rfl) hq50) ?_
            refine lex.gskip (want_f rfl rfl (show _ = Value.bool (!y47) from rfl) hq50) ?_
            refine lex.gskip (want_f rfl rfl (show _ = Value.bool (!y47) from rfl) hq50) ?_
            refine lex.gskip (want_f rfl rfl (show _ = Value.bool (!y47) from rfl) hq50) ?_
            refine lex.gskip (want_f rfl rfl (show _ = Value.bool (!y47) from rfl) hq50) ?_
            refine lex.gskip (want_f rfl rfl (show _ = Value.bool (!y47) from rfl) hq50) ?_
            refine lex.pure (v := .bool true) (pu_pickT (q := (!y47)) rfl hq50 rfl) ?_
            refine lex.nil ?_
            refine hK46 _ _ ?_
            refine Wc.cond_true (rfl) ?_
            refine Wc.seq fun K51 hK51 => ?_
            refine Wc.region (by decide +kernel) ?_
            refine lex.pure (v := .bool false) (pu_assign rfl) ?_
            refine lex.nil ?_
            refine hK51 _ _ ?_
            obtain rfl := Option.some.inj hb
            obtain rfl := (lX hl0).symm
            replace hb := hbK0
            obtain rfl := Option.some.inj hb
            refine Wc.ret ?_
            refine hKR _ _ ?_
            refine ⟨_, res1 Try.results33 (show RV _ _ _ (.tmp _) (.bool false) from rfl), _, rfl, rfl, hC.sel [] (by decide)⟩
          · replace hb := (cF hq50).symm.trans hb
            refine lex.gpure (want_t rfl rfl (show _ = Value.bool (!y47) from rfl) hq50) (v := .slice A41 x35.length c42) (pu_move rfl) ?_
            refine lex.gpure (want_t rfl rfl (show _ = Value.bool (!y47) from rfl) hq50) (v := .int .i64 (x35.length : Int)) (pu_len (A := A41) (n := x35.length) (m := c42) Try.underlying29 rfl) ?_
            refine lex.gpure (want_t rfl rfl (show _ = Value.bool (!y47) from rfl) hq50) (v := .slice (some ad9) l_0.length cl_0) (pu_move e0) ?_
            obtain ⟨x52, h53, hb⟩ := bd hb
            obtain ⟨ad54, cs55, hA, hc56, hr57⟩ := hC.elr (i := 1) rfl (get_some h53).2
            obtain rfl := Option.some.inj hA
            refine lex.gpure (want_t rfl rfl (show _ = Value.bool (!y47) from rfl) hq50) (v := .pointer (some (ad9.add ((0 : Int).toNat * 1)))) (pu_index (a := 0) Try.underlying32 Try.sizeOf29 rfl rfl (get_some h53).1) ?_
            have hR := hr57
            obtain ⟨A58, c59, rfl, hl60, hc61, _⟩ := hr57
            replace hC := hC.ro hR
            clear hR
            refine lex.gval (want_t rfl rfl (show _ = Value.bool (!y47) from rfl) hq50) (v := .slice A58 x52.length c59) (ld_one Try.isAgg29 rfl (hc56 0 _ rfl)) ?_
            refine lex.gpure (want_t rfl rfl (show _ = Value.bool (!y47) from rfl) hq50) (v := .int .i64 (x52.length : Int)) (pu_len (A := A58) (n := x52.length) (m := c59) Try.underlying29 rfl) ?_
            refine lex.gpure (want_t rfl rfl (show _ = Value.bool (!y47) from rfl) hq50) (v := .bool (!(decide ((x35.length : Int) = (x52.length : Int))))) (pu_neq (k := .i64) (a := (x35.length : Int)) (b := (x52.length : Int)) rfl rfl) ?_
            refine lex.pure (v := .bool (!(decide ((x35.length : Int) = (x52.length : Int))))) (pu_pickF (q := (!y47)) rfl hq50 rfl) ?_
            refine lex.nil ?_
            refine hK46 _ _ ?_
            refine Wc.cond (t := (!(decide ((x35.length : Int) = (x52.length : Int))))) (rfl) (fun hq63 => ?_) (fun hq63 => ?_)
            · replace hb := (cT hq63).symm.trans hb
              refine Wc.seq fun K64 hK64 => ?_
              refine Wc.region (by decide +kernel) ?_
              refine lex.pure (v := .bool false) (pu_assign rfl) ?_
              refine lex.nil ?_
              refine hK64 _ _ ?_
              obtain rfl := Option.some.inj hb
              obtain rfl := (lX hl0).symm
              replace hb := hbK0
              obtain rfl := Option.some.inj hb
              refine Wc.ret ?_
              refine hKR _ _ ?_
              refine ⟨_, res1 Try.results33 (show RV _ _ _ (.tmp _) (.bool false) from rfl), _, rfl, rfl, hC.sel [] (by decide)⟩
            · replace hb := (cF hq63).symm.trans hb
              refine Wc.skip ?_
              refine hK33 _ _ ?_
              refine Wc.region (by decide +kernel) ?_
              obtain ⟨z65, h66, hb⟩ := bd hb
              refine lex.pure (v := .int .i64 z65) (pu_addc (a := v23_0) (b := 1) e23 rfl h66) ?_
              refine lex.pure (v := .int .i64 z65) (pu_move rfl) ?_
              refine lex.nil ?_
              obtain rfl := Option.some.inj hb
              exact hK25 m26' _ _ (Nat.lt_succ_self _) ⟨z65, e0, e2, e21, e22, rfl, (chk_rng h66), hC.sel [2] (by decide), lN hl0⟩
        · replace hb := (cF hq32).symm.trans hb
          refine Wc.exit rfl ?_
          obtain rfl := Option.some.inj hb
          obtain rfl := (lX hl0).symm
          exact hK24 _ _ ⟨v23_0, e0, e2, hrv23_0, hC.sel [0] (by decide), hbK0⟩
      · clear hb hC hl0
        rintro E68 w67 ⟨v23_0, e0, e2, hrv23_0, hC, hb⟩
        refine hK21 _ _ ?_
        refine Wc.seq fun K69 hK69 => ?_
        refine Wc.region (by decide +kernel) ?_
        refine lex.pure (v := .slice (some ad9) l_0.length cl_0) (pu_move e0) ?_
        obtain ⟨x70, h71, hb⟩ := bd hb
        obtain ⟨ad72, cs73, hA, hc74, hr75⟩ := hC.elr (i := 0) rfl (get_some h71).2
        obtain rfl := Option.some.inj hA
        refine lex.pure (v := .pointer (some (ad9.add ((0 : Int).toNat * 1)))) (pu_index (a := 0) Try.underlying32 Try.sizeOf29 rfl rfl (get_some h71).1) ?_
        have hR := hr75
        obtain ⟨A76, c77, rfl, hl78, hc79, _⟩ := hr75
        replace hC := hC.ro hR
        clear hR
        refine lex.val (v := .slice A76 x70.length c77) (ld_one Try.isAgg29 rfl (hc74 0 _ rfl)) ?_
        refine lex.pure (v := .int .i64 (x70.length : Int)) (pu_len (A := A76) (n := x70.length) (m := c77) Try.underlying29 rfl) ?_
        obtain ⟨u81, h82, hb⟩ := bd hb
        refine lex.op (hC.make (s := .bool) (n := (x70.length : Int)) Try.underlying63 Try.type4 rfl rfl rfl rfl rfl (pos_some h82).1 (pos_some h82).2 (by decide)) ?_
        rintro _ w87 ⟨A83, c84, rfl, hl85, hc86, hC, hF, hN⟩
        clear hF hN
        refine lex.pure (v := .slice A83 (((List.replicate (x70.length : Int).toNat false)).length) c84) (pu_assign rfl) ?_
        refine lex.nil ?_
        refine hK69 _ _ ?_
        refine Wc.seq fun K89 hK89 => ?_
        refine Wc.region (by decide +kernel) ?_
        refine lex.pure (v := .slice A83 (((List.replicate (x70.length : Int).toNat false)).length) c84) (pu_move rfl) ?_
        obtain ⟨x90, h91, hb⟩ := bd hb
        obtain ⟨ad92, cs93, hA, hc94, hr95⟩ := hC.elo (i := 0) rfl (get_some h91).2
        subst hA
        refine lex.pure (v := .pointer (some (ad92.add ((0 : Int).toNat * 1)))) (pu_index (a := 0) Try.underlying63 Try.sizeOf4 rfl rfl (get_some h91).1) ?_
        refine lex.sk (hC.put (i := 0) rfl rfl Try.sizeOf4 (k := (0 : Int).toNat) (a := true) (by have := (get_some h91).1; simp at this ⊢; omega) (show Rep _ _ .bool _ _ from rfl) rfl rfl rfl) ?_
        rintro w96 ⟨hC, hF⟩
        refine lex.nil ?_
        refine hK89 _ _ ?_
        refine Wc.seq fun K97 hK97 => ?_
        refine Wc.region (by decide +kernel) ?_
        refine lex.op (hC.lit (s := (.int .i64)) (vs := [.int .i64 0]) (xs := [0]) Try.underlying28 Try.type3 rfl rfl (Nat.le_of_ble_eq_true rfl) rfl rfl (by simp [Value.cells, Sh.n]) rfl (show Elems _ _ (.int .i64) ([.int .i64 0] ++ ([])) ([0] : List Int) from Elems.cons (⟨rfl, I64.wr (show I64 0 from by unfold I64; omega)⟩) (Elems.nil _ _ _))) ?_
        rintro _ w102 ⟨A98, c99, rfl, hl100, hc101, hC, hF, hN⟩
        clear hF hN
        refine lex.pure (v := .slice A98 ((([0] : List Int)).length) c99) (pu_assign rfl) ?_
        refine lex.nil ?_
        refine hK97 _ _ ?_
        refine Wc.fresh fun E104 hE => ?_
        have e0 : E104 0 = .slice (some ad9) l_0.length cl_0 := (congrFun hE 0).trans e0
        have e2 : E104 2 = .bool false := (congrFun hE 2).trans e2
        have e5 : E104 5 = .slice (some ad92) (((List.replicate (x70.length : Int).toNat false)).length) c84 := (congrFun hE 5).trans rfl
        have e6 : E104 6 = .slice A98 ((([0] : List Int)).length) c99 := (congrFun hE 6).trans rfl
        clear hE
        refine Wc.seq fun K105 hK105 => ?_
        refine Wc.seq fun K106 hK106 => ?_
        refine Wc.region (by decide +kernel) ?_
        refine lex.pure (v := .int .i64 0) (pu_assign rfl) ?_
        refine lex.nil ?_
        refine hK106 _ _ ?_
        obtain ⟨o107, hl1, hb⟩ := bd hb
        refine Wc.cut (fun E wv => ∃ (l6_1 : List Int) (v7_1 : Int) (qf88_1 : List Bool) (Al6_1 : Option Addr) (ml6_1 cl6_1 : Nat), E 2 = .bool false ∧ E 5 = .slice (some ad92) (((List.replicate (x70.length : Int).toNat false)).length) c84 ∧ E 6 = .slice Al6_1 ml6_1 cl6_1 ∧ I64 v7_1 ∧ Cx (fun _ => False) O0 w wv [.own 4 .bool (.slice (some ad92) (((List.replicate (x70.length : Int).toNat false)).length) c84) qf88_1, .own 3 (.int .i64) (.slice Al6_1 ml6_1 cl6_1) l6_1] ∧ (some (decide ((l6_1.length : Int) = (((List.replicate (x70.length : Int).toNat false)).length : Int))) : Option (Bool)) = some r) (fun K108 hK108 => ?_) ?_
        · refine Wc.block ?_
          refine Wc.loop (fun m E wv => ∃ (l6_1 : List Int) (v7_1 : Int) (qf88_1 : List Bool) (Al6_1 : Option Addr) (ml6_1 cl6_1 : Nat), E 0 = .slice (some ad9) l_0.length cl_0 ∧ E 2 = .bool false ∧ E 5 = .slice (some ad92) (((List.replicate (x70.length : Int).toNat false)).length) c84 ∧ E 6 = .slice Al6_1 ml6_1 cl6_1 ∧ E 7 = .int .i64 v7_1 ∧ I64 v7_1 ∧ Cx (fun _ => False) O0 w wv [.ro (.sl (.sl (.int .i64))) [.slice (some ad9) l_0.length cl_0] l_0, .own 4 .bool (.slice (some ad92) (((List.replicate (x70.length : Int).toNat false)).length) c84) qf88_1, .own 3 (.int .i64) (.slice Al6_1 ml6_1 cl6_1) l6_1] ∧ loopN m (F.perm_Transitive_b1 n l_0) (l6_1, v7_1, qf88_1) = some o107) n ⟨([0] : List Int), 0, ((List.replicate (x70.length : Int).toNat false).set (0 : Int).toNat true), A98, (([0] : List Int)).length, c99, e0, e2, e5, e6, rfl, (show I64 0 from by unfold I64; omega), hC.sel [3, 1, 0] (by decide), hl1⟩ ?_
          have hbK1 := hb
          clear hb hC hl1
          rintro m110 E112 w111 ⟨l6_1, v7_1, qf88_1, Al6_1, ml6_1, cl6_1, e0, e2, e5, e6, e7, hrv7_1, hC, hl1⟩ K109 hK109
          obtain ⟨m110', o113, rfl, hb, hl1⟩ := loopN_some hl1
          unfold F.perm_Transitive_b1 at hb
          obtain ⟨rfl, hll6_1, hcl6_1⟩ := (hC.ow (i := 2) rfl).sl_len
          refine Wc.seq fun K114 hK114 => ?_
          refine Wc.seq fun K115 hK115 => ?_
          refine Wc.region (by decide +kernel) ?_
          refine lex.pure (v := .int .i64 v7_1) (pu_move e7) ?_
          refine lex.pure (v := .slice Al6_1 l6_1.length cl6_1) (pu_move e6) ?_
          refine lex.pure (v := .int .i64 (l6_1.length : Int)) (pu_len (A := Al6_1) (n := l6_1.length) (m := cl6_1) Try.underlying28 rfl) ?_
          refine lex.pure (v := .bool (decide (v7_1 < (l6_1.length : Int)))) (pu_lss (k := .i64) (a := v7_1) (b := (l6_1.length : Int)) rfl rfl) ?_
          refine lex.nil ?_
          refine hK115 _ _ ?_
          refine Wc.cond (t := (decide (v7_1 < (l6_1.length : Int)))) (rfl) (fun hq116 => ?_) (fun hq116 => ?_)
          · replace hb := (cT hq116).symm.trans hb
            refine Wc.skip ?_
            refine hK114 _ _ ?_
            refine Wc.seq fun K117 hK117 => ?_
            refine Wc.block ?_
            refine Wc.seq fun K118 hK118 => ?_
            refine Wc.region (by decide +kernel) ?_
            refine lex.pure (v := .slice (some ad9) l_0.length cl_0) (pu_move e0) ?_
            refine lex.pure (v := .int .i64 (l_0.length : Int)) (pu_len (A := (some ad9)) (n := l_0.length) (m := cl_0) Try.underlying32 rfl) ?_
            refine lex.pure (v := .int .i64 0) (pu_move rfl) ?_
            refine lex.nil ?_
            refine hK118 _ _ ?_
            obtain ⟨o119, hl2, hb⟩ := bd hb
            refine Wc.cut (fun E wv => ∃ (l6_2 : List Int) (v56_2 : Int) (qf88_2 : List Bool) (Al6_2 : Option Addr) (ml6_2 cl6_2 : Nat), E 0 = .slice (some ad9) l_0.length cl_0 ∧ E 2 = .bool false ∧ E 5 = .slice (some ad92) (((List.replicate (x70.length : Int).toNat false)).length) c84 ∧ E 6 = .slice Al6_2 ml6_2 cl6_2 ∧ E 7 = .int .i64 v7_1 ∧ E 51 = .bool (decide (v7_1 < (l6_1.length : Int))) ∧ E 54 = .slice (some ad9) l_0.length cl_0 ∧ E 55 = .int .i64 (l_0.length : Int) ∧ E 56 = .int .i64 v56_2 ∧ I64 v56_2 ∧ Cx (fun _ => False) O0 w wv [.ro (.sl (.sl (.int .i64))) [.slice (some ad9) l_0.length cl_0] l_0, .own 4 .bool (.slice (some ad92) (((List.replicate (x70.length : Int).toNat false)).length) c84) qf88_2, .own 3 (.int .i64) (.slice Al6_2 ml6_2 cl6_2) l6_2] ∧ ((chk (v7_1 + 1)).bind fun z191 => some (.inl (l6_2, z191, qf88_2)) : Option (((List Int) × Int × (List Bool)) ⊕ (((List Int) × Int × (List Bool))))) = some o113) (fun K120 hK120 => ?_) ?_
            · refine Wc.block ?_
              refine Wc.loop (fun m E wv => ∃ (l6_2 : List Int) (v56_2 : Int) (qf88_2 : List Bool) (Al6_2 : Option Addr) (ml6_2 cl6_2 : Nat), E 0 = .slice (some ad9) l_0.length cl_0 ∧ E 2 = .bool false ∧ E 5 = .slice (some ad92) (((List.replicate (x70.length : Int).toNat false)).length) c84 ∧ E 6 = .slice Al6_2 ml6_2 cl6_2 ∧ E 7 = .int .i64 v7_1 ∧ E 51 = .bool (decide (v7_1 < (l6_1.length : Int))) ∧ E 54 = .slice (some ad9) l_0.length cl_0 ∧ E 55 = .int .i64 (l_0.length : Int) ∧ E 56 = .int .i64 v56_2 ∧ I64 v56_2 ∧ Cx (fun _ => False) O0 w wv [.ro (.sl (.sl (.int .i64))) [.slice (some ad9) l_0.length cl_0] l_0, .own 4 .bool (.slice (some ad92) (((List.replicate (x70.length : Int).toNat false)).length) c84) qf88_2, .own 3 (.int .i64) (.slice Al6_2 ml6_2 cl6_2) l6_2] ∧ loopN m (F.perm_Transitive_b2 n l_0 v7_1) (l6_2, v56_2, qf88_2) = some o119) n ⟨l6_1, 0, qf88_1, Al6_1, l6_1.length, cl6_1, e0, e2, e5, e6, e7, rfl, rfl, rfl, rfl, (show I64 0 from by unfold I64; omega), hC.sel [0, 1, 2] (by decide), hl2⟩ ?_
              have hbK2 := hb
              clear hb hC hl2
              rintro m122 E124 w123 ⟨l6_2, v56_2, qf88_2, Al6_2, ml6_2, cl6_2, e0, e2, e5, e6, e7, e51, e54, e55, e56, hrv56_2, hC, hl2⟩ K121 hK121
              obtain ⟨m122', o125, rfl, hb, hl2⟩ := loopN_some hl2
              unfold F.perm_Transitive_b2 at hb
              obtain ⟨rfl, hll6_2, hcl6_2⟩ := (hC.ow (i := 2) rfl).sl_len
              refine Wc.seq fun K126 hK126 => ?_
              refine Wc.region (by decide +kernel) ?_
              refine lex.pure (v := .bool (decide (v56_2 < (l_0.length : Int)))) (pu_lss (k := .i64) (a := v56_2) (b := (l_0.length : Int)) e56 e55) ?_
              refine lex.nil ?_
              refine hK126 _ _ ?_
              refine Wc.seq fun K127 hK127 => ?_
              refine Wc.cond (t := (decide (v56_2 < (l_0.length : Int)))) (rfl) (fun hq128 => ?_) (fun hq128 => ?_)
              · replace hb := (cT hq128).symm.trans hb
                refine Wc.skip ?_
                refine hK127 _ _ ?_
                refine Wc.seq fun K129 hK129 => ?_
                refine Wc.block ?_
                refine Wc.seq fun K130 hK130 => ?_
                refine Wc.region (by decide +kernel) ?_
                obtain ⟨x131, h132, hb⟩ := bd hb
                obtain ⟨ad133, cs134, hA, hc135, hr136⟩ := hC.elr (i := 0) rfl (get_some h132).2
                obtain rfl := Option.some.inj hA
                refine lex.pure (v := .pointer (some (ad9.add (v56_2.toNat * 1)))) (pu_index (a := v56_2) Try.underlying32 Try.sizeOf29 e54 e56 (get_some h132).1) ?_
                have hR := hr136
                obtain ⟨A137, c138, rfl, hl139, hc140, _⟩ := hr136
                replace hC := hC.ro hR
                clear hR
                refine lex.val (v := .slice A137 x131.length c138) (ld_one Try.isAgg29 rfl (hc135 0 _ rfl)) ?_
                refine lex.pure (v := .slice A137 x131.length c138) (pu_assign rfl) ?_
                refine lex.nil ?_
                refine hK130 _ _ ?_
                refine Wc.seq fun K142 hK142 => ?_
                refine Wc.region (by decide +kernel) ?_
                refine lex.pure (v := .slice A137 x131.length c138) (pu_move rfl) ?_
                refine lex.pure (v := .slice Al6_2 l6_2.length cl6_2) (pu_move e6) ?_
                refine lex.pure (v := .int .i64 v7_1) (pu_move e7) ?_
                obtain ⟨x143, h144, hb⟩ := bd hb
                obtain ⟨ad145, cs146, hA, hc147, hr148⟩ := hC.elo (i := 3) rfl (get_some h144).2
                subst hA
                refine lex.pure (v := .pointer (some (ad145.add (v7_1.toNat * 1)))) (pu_index (a := v7_1) Try.underlying28 Try.sizeOf3 rfl rfl (get_some h144).1) ?_
                obtain ⟨rfl, hr148'⟩ := hr148
                refine lex.val (v := .int .i64 x143) (ld_one Try.isAgg3 rfl (hc147 0 _ rfl)) ?_
                obtain ⟨x149, h150, hb⟩ := bd hb
                obtain ⟨ad151, cs152, hA, hc153, hr154⟩ := hC.elr (i := 0) rfl (get_some h150).2
                subst hA
                refine lex.pure (v := .pointer (some (ad151.add (x143.toNat * 1)))) (pu_index (a := x143) Try.underlying29 Try.sizeOf3 rfl rfl (get_some h150).1) ?_
                obtain ⟨rfl, hr154'⟩ := hr154
                refine lex.val (v := .int .i64 x149) (ld_one Try.isAgg3 rfl (hc153 0 _ rfl)) ?_
                refine lex.pure (v := .int .i64 x149) (pu_assign rfl) ?_
                refine lex.nil ?_
                refine hK142 _ _ ?_
                refine Wc.fresh fun E155 hE => ?_
                have e0 : E155 0 = .slice (some ad9) l_0.length cl_0 := (congrFun hE 0).trans e0
                have e2 : E155 2 = .bool false := (congrFun hE 2).trans e2
                have e5 : E155 5 = .slice (some ad92) (((List.replicate (x70.length : Int).toNat false)).length) c84 := (congrFun hE 5).trans e5
                have e6 : E155 6 = .slice (some ad145) l6_2.length cl6_2 := (congrFun hE 6).trans e6
                have e7 : E155 7 = .int .i64 v7_1 := (congrFun hE 7).trans e7
                have e9 : E155 9 = .slice (some ad151) x131.length c138 := (congrFun hE 9).trans rfl
                have e10 : E155 10 = .int .i64 x149 := (congrFun hE 10).trans rfl
                have e51 : E155 51 = .bool (decide (v7_1 < (l6_1.length : Int))) := (congrFun hE 51).trans e51
                have e54 : E155 54 = .slice (some ad9) l_0.length cl_0 := (congrFun hE 54).trans e54
                have e55 : E155 55 = .int .i64 (l_0.length : Int) := (congrFun hE 55).trans e55
                have e56 : E155 56 = .int .i64 v56_2 := (congrFun hE 56).trans e56
                have e57 : E155 57 = .bool (decide (v56_2 < (l_0.length : Int))) := (congrFun hE 57).trans rfl
                clear hE
                refine Wc.seq fun K156 hK156 => ?_
                refine Wc.region (by decide +kernel) ?_
                refine lex.pure (v := .slice (some ad92) (((List.replicate (x70.length : Int).toNat false)).length) c84) (pu_move e5) ?_
                refine lex.pure (v := .int .i64 x149) (pu_move e10) ?_
                obtain ⟨x157, h158, hb⟩ := bd hb
                obtain ⟨ad159, cs160, hA, hc161, hr162⟩ := hC.elo (i := 2) rfl (get_some h158).2
                obtain rfl := Option.some.inj hA
                refine lex.pure (v := .pointer (some (ad92.add (x149.toNat * 1)))) (pu_index (a := x149) Try.underlying63 Try.sizeOf4 rfl rfl (by rw [(hC.ow (i := 2) rfl).sl_len.1]; exact (get_some h158).1)) ?_
                obtain rfl := (show _ = _ from hr162)
                refine lex.val (v := .bool x157) (ld_one Try.isAgg4 rfl (hc161 0 _ rfl)) ?_
                refine lex.pure (v := .bool (!x157)) (pu_not (q := x157) rfl) ?_
                refine lex.nil ?_
                refine hK156 _ _ ?_
                refine Wc.cond (t := (!x157)) (rfl) (fun hq163 => ?_) (fun hq163 => ?_)
                · replace hb := (cT hq163).symm.trans hb
                  refine Wc.seq fun K164 hK164 => ?_
                  refine Wc.region (by decide +kernel) ?_
                  refine lex.pure (v := .slice (some ad92) (((List.replicate (x70.length : Int).toNat false)).length) c84) (pu_move e5) ?_
                  refine lex.pure (v := .int .i64 x149) (pu_move e10) ?_
                  obtain ⟨x165, h166, hb⟩ := bd hb
                  obtain ⟨ad167, cs168, hA, hc169, hr170⟩ := hC.elo (i := 2) rfl (get_some h166).2
                  obtain rfl := Option.some.inj hA
                  refine lex.pure (v := .pointer (some (ad92.add (x149.toNat * 1)))) (pu_index (a := x149) Try.underlying63 Try.sizeOf4 rfl rfl (by rw [(hC.ow (i := 2) rfl).sl_len.1]; exact (get_some h166).1)) ?_
                  refine lex.sk (hC.put (i := 2) rfl rfl Try.sizeOf4 (k := x149.toNat) (a := true) (by have := (get_some h166).1; simp at this ⊢; omega) (show Rep _ _ .bool _ _ from rfl) rfl rfl rfl) ?_
                  rintro w171 ⟨hC, hF⟩
                  refine lex.nil ?_
                  refine hK164 _ _ ?_
                  refine Wc.region (by decide +kernel) ?_
                  refine lex.pure (v := .slice (some ad145) l6_2.length cl6_2) (pu_move e6) ?_
                  refine lex.pure (v := .int .i64 x149) (pu_move e10) ?_
                  refine lex.op (hC.lit (s := (.int .i64)) (vs := [.int .i64 x149]) (xs := [x149]) Try.underlying28 Try.type3 rfl rfl (Nat.le_of_ble_eq_true rfl) rfl rfl (by simp [Value.cells, Sh.n]) rfl (show Elems _ _ (.int .i64) ([.int .i64 x149] ++ ([])) ([x149] : List Int) from Elems.cons (⟨rfl, I64.wr (wrap_I64 hr154')⟩) (Elems.nil _ _ _))) ?_
                  rintro _ w176 ⟨A172, c173, rfl, hl174, hc175, hC, hF, hN⟩
                  clear hF hN
                  obtain ⟨u178, h179, hb⟩ := bd hb
                  refine lex.op (hC.app (i := 4) (s := (.int .i64)) (xs := l6_2) (ys := ([x149] : List Int)) (m := ((([x149] : List Int)).length)) rfl Try.underlying28 Try.underlying28 Try.type3 rfl rfl rfl (hC.srco (i := 0) rfl) rfl rfl (by have := lim_some h179; simp at this ⊢ <;> omega) (by decide)) ?_
                  rintro _ w184 ⟨A180, c181, rfl, hl182, hc183, hC, hF, hN⟩
                  clear hF hN
                  refine lex.pure (v := .slice A180 ((l6_2 ++ ([x149] : List Int)).length) c181) (pu_assign rfl) ?_
                  refine lex.nil ?_
                  refine hK129 _ _ ?_
                  refine Wc.region (by decide +kernel) ?_
                  obtain ⟨z185, h186, hb⟩ := bd hb
                  refine lex.pure (v := .int .i64 z185) (pu_addc (a := v56_2) (b := 1) e56 rfl h186) ?_
                  refine lex.pure (v := .int .i64 z185) (pu_move rfl) ?_
                  refine lex.nil ?_
                  obtain rfl := Option.some.inj hb
                  exact hK121 m122' _ _ (Nat.lt_succ_self _) ⟨(l6_2 ++ ([x149] : List Int)), z185, (qf88_2.set x149.toNat true), A180, (l6_2 ++ ([x149] : List Int)).length, c181, e0, e2, e5, rfl, e7, e51, e54, e55, rfl, (chk_rng h186), hC.sel [2, 3, 4] (by decide), lN hl2⟩
                · replace hb := (cF hq163).symm.trans hb
                  refine Wc.skip ?_
                  refine hK129 _ _ ?_
                  refine Wc.region (by decide +kernel) ?_
                  obtain ⟨z187, h188, hb⟩ := bd hb
                  refine lex.pure (v := .int .i64 z187) (pu_addc (a := v56_2) (b := 1) e56 rfl h188) ?_
                  refine lex.pure (v := .int .i64 z187) (pu_move rfl) ?_
                  refine lex.nil ?_
                  obtain rfl := Option.some.inj hb
                  exact hK121 m122' _ _ (Nat.lt_succ_self _) ⟨l6_2, z187, qf88_2, (some ad145), l6_2.length, cl6_2, e0, e2, e5, e6, e7, e51, e54, e55, rfl, (chk_rng h188), hC.sel [1, 2, 3] (by decide), lN hl2⟩
              · replace hb := (cF hq128).symm.trans hb
                refine Wc.exit rfl ?_
                obtain rfl := Option.some.inj hb
                obtain rfl := (lX hl2).symm
                exact hK120 _ _ ⟨l6_2, v56_2, qf88_2, Al6_2, l6_2.length, cl6_2, e0, e2, e5, e6, e7, e51, e54, e55, e56, hrv56_2, hC.sel [0, 1, 2] (by decide), hbK2⟩
            · clear hb hC hl2
              rintro E190 w189 ⟨l6_2, v56_2, qf88_2, Al6_2, ml6_2, cl6_2, e0, e2, e5, e6, e7, e51, e54, e55, e56, hrv56_2, hC, hb⟩
              obtain ⟨rfl, hll6_2, hcl6_2⟩ := (hC.ow (i := 2) rfl).sl_len
              refine hK117 _ _ ?_
              refine Wc.region (by decide +kernel) ?_
              refine lex.pure (v := .int .i64 v7_1) (pu_move e7) ?_
              obtain ⟨z191, h192, hb⟩ := bd hb
              refine lex.pure (v := .int .i64 z191) (pu_addc (a := v7_1) (b := 1) rfl rfl h192) ?_
              refine lex.pure (v := .int .i64 z191) (pu_assign rfl) ?_
              refine lex.nil ?_
              obtain rfl := Option.some.inj hb
              exact hK109 m110' _ _ (Nat.lt_succ_self _) ⟨l6_2, z191, qf88_2, Al6_2, l6_2.length, cl6_2, e0, e2, e5, e6, rfl, (chk_rng h192), hC.sel [0, 1, 2] (by decide), lN hl1⟩
          · replace hb := (cF hq116).symm.trans hb
            refine Wc.exit rfl ?_
            obtain rfl := Option.some.inj hb
            obtain rfl := (lX hl1).symm
            exact hK108 _ _ ⟨l6_1, v7_1, qf88_1, Al6_1, l6_1.length, cl6_1, e2, e5, e6, hrv7_1, hC.sel [1, 2] (by decide), hbK1⟩
        · clear hb hC hl1
          rintro E194 w193 ⟨l6_1, v7_1, qf88_1, Al6_1, ml6_1, cl6_1, e2, e5, e6, hrv7_1, hC, hb⟩
          obtain ⟨rfl, hll6_1, hcl6_1⟩ := (hC.ow (i := 1) rfl).sl_len
          refine hK105 _ _ ?_
          refine Wc.seq fun K195 hK195 => ?_
          refine Wc.region (by decide +kernel) ?_
          refine lex.pure (v := .slice Al6_1 l6_1.length cl6_1) (pu_move e6) ?_
          refine lex.pure (v := .int .i64 (l6_1.length : Int)) (pu_len (A := Al6_1) (n := l6_1.length) (m := cl6_1) Try.underlying28 rfl) ?_
          refine lex.pure (v := .slice (some ad92) (((List.replicate (x70.length : Int).toNat false)).length) c84) (pu_move e5) ?_
          refine lex.pure (v := .int .i64 (((List.replicate (x70.length : Int).toNat false)).length : Int)) (pu_len (A := (some ad92)) (n := ((List.replicate (x70.length : Int).toNat false)).length) (m := c84) Try.underlying63 rfl) ?_
          refine lex.pure (v := .bool (decide ((l6_1.length : Int) = (((List.replicate (x70.length : Int).toNat false)).length : Int)))) (pu_eql (k := .i64) (a := (l6_1.length : Int)) (b := (((List.replicate (x70.length : Int).toNat false)).length : Int)) rfl rfl) ?_
          refine lex.pure (v := .bool (decide ((l6_1.length : Int) = (((List.replicate (x70.length : Int).toNat false)).length : Int)))) (pu_assign rfl) ?_
          refine lex.nil ?_
          refine hK195 _ _ ?_
          obtain rfl := Option.some.inj hb
          refine Wc.ret ?_
          refine hKR _ _ ?_
          refine ⟨_, res1 Try.results33 (show RV _ _ _ (.tmp _) (.bool (decide ((l6_1.length : Int) = (((List.replicate (x70.length : Int).toNat false)).length : Int)))) from rfl), _, rfl, rfl, hC.sel [] (by decide)⟩

set_option maxRecDepth 100000 in
set_option maxHeartbeats 4000000 in
theorem ref30_Transitive_ok (n : Nat) {w : World} {O0 : List Nat} (hO : ∀ k ∈ O0, k < w.heap.size) {Al_0 : Option Addr} {ml_0 cl_0 : Nat} {l_0 : List (List Int)} (hl_0 : Rep O0 w (.sl (.sl (.int .i64))) [.slice Al_0 ml_0 cl_0] l_0) {r : Bool} (hb : F.ref30_Transitive n l_0 = some r) :
    Calls Try.prog 34 #[.slice Al_0 ml_0 cl_0] w fun e w' => ∃ v, e = .returned v ∧ v = .bool r ∧ Cx (fun _ => False) O0 w w' [] := by
  unfold F.ref30_Transitive at hb
  have hC := Cx.start hO
  replace hC := hC.arg rfl hl_0
  clear hO
  obtain ⟨rfl, hll_0, hcl_0⟩ := hl_0.sl_len
  refine calls_of_Wc Try.func34 rfl (by rw [Try.ntmps34]; exact Nat.le_of_ble_eq_true rfl) fun KR hKR => ?_
  refine Wc.seq fun K2 hK2 => ?_
  refine Wc.region (by decide +kernel) ?_
  refine lex.pure (v := .bool false) (pu_assign rfl) ?_
  refine lex.nil ?_
  refine hK2 _ _ ?_
  refine Wc.seq fun K3 hK3 => ?_
  refine Wc.seq fun K4 hK4 => ?_
  refine Wc.region (by decide +kernel) ?_
  refine lex.pure (v := .slice Al_0 l_0.length cl_0) (pu_move rfl) ?_
  refine lex.pure (v := .int .i64 (l_0.length : Int)) (pu_len (A := Al_0) (n := l_0.length) (m := cl_0) Try.underlying23 rfl) ?_
  refine lex.pure (v := .bool (decide ((l_0.length : Int) = 0))) (pu_eql (k := .i64) (a := (l_0.length : Int)) (b := 0) rfl rfl) ?_
  refine lex.pure (v := .bool (decide ((l_0.length : Int) = 0))) (pu_move rfl) ?_
  rcases bS (decide ((l_0.length : Int) = 0)) with hq5 | hq5
  · replace hb := (cT hq5).symm.trans hb
    refine lex.gskip (want_f rfl rfl (show _ = Value.bool (decide ((l_0.length : Int) = 0)) from rfl) hq5) ?_
    refine lex.gskip (want_f rfl rfl (show _ = Value.bool (decide ((l_0.length : Int) = 0)) from rfl) hq5) ?_
    refine lex.gskip (want_f rfl rfl (show _ = Value.bool (decide ((l_0.length : Int) = 0)) from rfl) hq5) ?_
    refine lex.gskip (want_f rfl rfl (show _ = Value.bool (decide ((l_0.length : Int) = 0)) from rfl) hq5) ?_
    refine lex.gskip (want_f rfl rfl (show _ = Value.bool (decide ((l_0.length : Int) = 0)) from rfl) hq5) ?_
    refine lex.pure (v := .bool true) (pu_pickT (q := (decide ((l_0.length : Int) = 0))) rfl hq5 rfl) ?_
    refine lex.nil ?_
    refine hK4 _ _ ?_
    refine Wc.cond_true (rfl) ?_
    refine Wc.seq fun K6 hK6 => ?_
    refine Wc.region (by decide +kernel) ?_
    refine lex.pure (v := .bool false) (pu_assign rfl) ?_
    refine lex.nil ?_
    refine hK6 _ _ ?_
    obtain rfl := Option.some.inj hb
    refine Wc.ret ?_
    refine hKR _ _ ?_
    refine ⟨_, res1 Try.results34 (show RV _ _ _ (.tmp _) (.bool false) from rfl), _, rfl, rfl, hC.sel [] (by decide)⟩
  · replace hb := (cF hq5).symm.trans hb
    refine lex.gpure (want_t rfl rfl (show _ = Value.bool (decide ((l_0.length : Int) = 0)) from rfl) hq5) (v := .slice Al_0 l_0.length cl_0) (pu_move rfl) ?_
    obtain ⟨x7, h8, hb⟩ := bd hb
    obtain ⟨ad9, cs10, hA, hc11, hr12⟩ := hC.elr (i := 0) rfl (get_some h8).2
    subst hA
    refine lex.gpure (want_t rfl rfl (show _ = Value.bool (decide ((l_0.length : Int) = 0)) from rfl) hq5) (v := .pointer (some (ad9.add ((0 : Int).toNat * 1)))) (pu_index (a := 0) Try.underlying23 Try.sizeOf28 rfl rfl (get_some h8).1) ?_
    have hR := hr12
    obtain ⟨A13, c14, rfl, hl15, hc16, _⟩ := hr12
    replace hC := hC.ro hR
    clear hR
    refine lex.gval (want_t rfl rfl (show _ = Value.bool (decide ((l_0.length : Int) = 0)) from rfl) hq5) (v := .slice A13 x7.length c14) (ld_one Try.isAgg28 rfl (hc11 0 _ rfl)) ?_
    refine lex.gpure (want_t rfl rfl (show _ = Value.bool (decide ((l_0.length : Int) = 0)) from rfl) hq5) (v := .int .i64 (x7.length : Int)) (pu_len (A := A13) (n := x7.length) (m := c14) Try.underlying28 rfl) ?_
    refine lex.gpure (want_t rfl rfl (show _ = Value.bool (decide ((l_0.length : Int) = 0)) from rfl) hq5) (v := .bool (decide ((x7.length : Int) = 0))) (pu_eql (k := .i64) (a := (x7.length : Int)) (b := 0) rfl rfl) ?_
    refine lex.pure (v := .bool (decide ((x7.length : Int) = 0))) (pu_pickF (q := (decide ((l_0.length : Int) = 0))) rfl hq5 rfl) ?_
    refine lex.nil ?_
    refine hK4 _ _ ?_
    refine Wc.cond (t := (decide ((x7.length : Int) = 0))) (rfl) (fun hq18 => ?_) (fun hq18 => ?_)
    · replace hb := (cT hq18).symm.trans hb
      refine Wc.seq fun K19 hK19 => ?_
      refine Wc.region (by decide +kernel) ?_
      refine lex.pure (v := .bool false) (pu_assign rfl) ?_
      refine lex.nil ?_
      refine hK19 _ _ ?_
      obtain rfl := Option.some.inj hb
      refine Wc.ret ?_
      refine hKR _ _ ?_
      refine ⟨_, res1 Try.results34 (show RV _ _ _ (.tmp _) (.bool false) from rfl), _, rfl, rfl, hC.sel [] (by decide)⟩
    · replace hb := (cF hq18).symm.trans hb
      refine Wc.skip ?_
      refine hK3 _ _ ?_
      refine Wc.fresh fun E20 hE => ?_
      have e0 : E20 0 = .slice (some ad9) l_0.length cl_0 := (congrFun hE 0).trans rfl
      have e2 : E20 2 = .bool false := (congrFun hE 2).trans rfl
      clear hE
      refine Wc.seq fun K21 hK21 => ?_
      refine Wc.seq fun K22 hK22 => ?_
      refine Wc.region (by decide +kernel) ?_
      refine lex.pure (v := .int .i64 0) (pu_assign rfl) ?_
      refine lex.nil ?_
      refine hK22 _ _ ?_
      obtain ⟨o23, hl0, hb⟩ := bd hb
      refine Wc.cut (fun E wv => ∃ (v3_0 : Int), E 0 = .slice (some ad9) l_0.length cl_0 ∧ E 2 = .bool false ∧ I64 v3_0 ∧ Cx (fun _ => False) O0 w wv [.ro (.sl (.sl (.int .i64))) [.slice (some ad9) l_0.length cl_0] l_0] ∧ ((get l_0 0).bind fun x97 => (pos (x97.length : Int)).bind fun u109 => (get (List.replicate (x97.length : Int).toNat false) 0).bind fun x118 => ((loopN n (F.ref30_Transitive_b1 n l_0 x97) (0, ((List.replicate (x97.length : Int).toNat false).set (0 : Int).toNat true))).bind fun o128 => match o128 with     | (v6_1, qf116_1) => ((loopN n (F.ref30_Transitive_b4 n x97 qf116_1) 0).bind fun o211 => match o211 with     | (.inl v9_4) => some true     | (.inr q) => some q)) : Option (Bool)) = some r) (fun K24 hK24 => ?_) ?_
      · refine Wc.block ?_
        refine Wc.loop (fun m E wv => ∃ (v3_0 : Int), E 0 = .slice (some ad9) l_0.length cl_0 ∧ E 2 = .bool false ∧ E 3 = .int .i64 v3_0 ∧ I64 v3_0 ∧ Cx (fun _ => False) O0 w wv [.ro (.sl (.sl (.int .i64))) [.slice (some ad9) l_0.length cl_0] l_0] ∧ loopN m (F.ref30_Transitive_b0 n l_0) v3_0 = some o23) n ⟨0, e0, e2, rfl, (show I64 0 from by unfold I64; omega), hC.sel [1] (by decide), hl0⟩ ?_
        have hbK0 := hb
        clear hb hC hl0
        rintro m26 E28 w27 ⟨v3_0, e0, e2, e3, hrv3_0, hC, hl0⟩ K25 hK25
        obtain ⟨m26', o29, rfl, hb, hl0⟩ := loopN_some hl0
        unfold F.ref30_Transitive_b0 at hb
        refine Wc.seq fun K30 hK30 => ?_
        refine Wc.seq fun K31 hK31 => ?_
        refine Wc.region (by decide +kernel) ?_
        refine lex.pure (v := .int .i64 v3_0) (pu_move e3) ?_
        refine lex.pure (v := .slice (some ad9) l_0.length cl_0) (pu_move e0) ?_
        refine lex.pure (v := .int .i64 (l_0.length : Int)) (pu_len (A := (some ad9)) (n := l_0.length) (m := cl_0) Try.underlying23 rfl) ?_
        refine lex.pure (v := .bool (decide (v3_0 < (l_0.length : Int)))) (pu_lss (k := .i64) (a := v3_0) (b := (l_0.length : Int)) rfl rfl) ?_
        refine lex.nil ?_
        refine hK31 _ _ ?_
        refine Wc.cond (t := (decide (v3_0 < (l_0.length : Int)))) (rfl) (fun hq32 => ?_) (fun hq32 => ?_)
        · replace hb := (cT hq32).symm.trans hb
          refine Wc.skip ?_
          refine hK30 _ _ ?_
          refine Wc.seq fun K33 hK33 => ?_
          refine Wc.block ?_
          refine Wc.seq fun K34 hK34 => ?_
          refine Wc.regionMix [] (frm [] ([] : List Fact) ([] : List Fact)) (fun _ => rfl) mixed (by decide +kernel) (by decide +kernel) fun w36 hw35 => ?_
          replace hC := hC.step (Fr.of_drew hw35)
          have hM := Fr.refl (fun k => k ∈ blocks ([] : List Fact)) w36
          clear hw35
          have hS := hC
          refine mixE.pure (v := .slice (some ad9) l_0.length cl_0) (pu_move e0) ?_
          refine mixE.pure (v := .int .i64 v3_0) (pu_move e3) ?_
          obtain ⟨x37, h38, hb⟩ := bd hb
          obtain ⟨ad39, cs40, hA, ho43, hc41, hr42⟩ := hS.elr2 (i := 0) rfl (get_some h38).2 []
          obtain rfl := Option.some.inj hA
          refine mixE.pure (v := .pointer (some (ad9.add (v3_0.toNat * 1)))) (pu_index (a := v3_0) Try.underlying23 Try.sizeOf28 rfl rfl (get_some h38).1) ?_
          have hR := hr42
          obtain ⟨A44, c45, rfl, hl46, hc47, _⟩ := hr42
          replace hS := hS.ro hR
          replace hC := hC.ro hR
          clear hR
          refine mixE.load hM (v := .slice A44 x37.length c45) (fun _ hF => ld_one Try.isAgg28 rfl (hF.cell (hc41 0 _ rfl) (off1 ho43))) ?_
          obtain ⟨y49, h50, hb⟩ := bd hb
          refine mixE.cl hM (⟨_, _, op_call (vs := [.slice A44 x37.length c45]) Try.call18 rfl rfl rfl, ref30_Valid_ok n hC.lt (hC.rd (i := 0) rfl) h50⟩) ?_
          rintro _ w51 ⟨rfl, hK⟩
          replace hM := hM.none hK.fr
          refine ⟨hM, ?_⟩
          replace hC := hC.merge hK
          clear hK
          refine mixE.pure (v := .bool (!y49)) (pu_not (q := y49) rfl) ?_
          refine mixE.pure (v := .bool (!y49)) (pu_move rfl) ?_
          rcases bS (!y49) with hq52 | hq52
          · replace hb := (cT hq52).symm.trans hb
            refine mixE.gskip (want_f rfl rfl (show _ = Value.bool (!y49) from rfl) hq52) ?_
            refine mixE.gskip (want_f rfl rfl (show _ = Value.bool (!y49) from rfl) hq52) ?_
            refine mixE.gskip (want_f rfl rfl (show _ = Value.bool (!y49) from rfl) hq52) ?_
            refine mixE.gskip (want_f rfl rfl (show _ = Value.bool (!y49) from rfl) hq52) ?_
            refine mixE.gskip (want_f rfl rfl (show _ = Value.bool (!y49) from rfl) hq52) ?_
            refine mixE.gskip (want_f rfl rfl (show _ = Value.bool (!y49) from rfl) hq52) ?_
            refine mixE.gskip (want_f rfl rfl (show _ = Value.bool (!y49) from rfl) hq52) ?_
            refine mixE.gskip (want_f rfl rfl (show _ = Value.bool (!y49) from rfl) hq52) ?_
            refine mixE.gskip (want_f rfl rfl (show _ = Value.bool (!y49) from rfl) hq52) ?_
            refine mixE.gskip (want_f rfl rfl (show _ = Value.bool (!y49) from rfl) hq52) ?_
            refine mixE.pure (v := .bool true) (pu_pickT (q := (!y49)) rfl hq52 rfl) ?_
            refine mixE.nil ?_
            clear hS hM
            refine hK34 _ _ ?_
            refine Wc.cond_true (rfl) ?_
            refine Wc.seq fun K53 hK53 => ?_
            refine Wc.region (by decide +kernel) ?_
            refine lex.pure (v := .bool false) (pu_assign rfl) ?_
            refine lex.nil ?_
            refine hK53 _ _ ?_
            obtain rfl := Option.some.inj hb
            obtain rfl := (lX hl0).symm
            replace hb := hbK0
            obtain rfl := Option.some.inj hb
            refine Wc.ret ?_
            refine hKR _ _ ?_
            refine ⟨_, res1 Try.results34 (show RV _ _ _ (.tmp _) (.bool false) from rfl), _, rfl, rfl, hC.sel [] (by decide)⟩
          · replace hb := (cF hq52).symm.trans hb
            refine mixE.gpure rfl (want_t rfl rfl (show _ = Value.bool (!y49) from rfl) hq52) (v := .slice (some ad9) l_0.length cl_0) (pu_move e0) ?_
            refine mixE.gpure rfl (want_t rfl rfl (show _ = Value.bool (!y49) from rfl) hq52) (v := .int .i64 v3_0) (pu_move e3) ?_
            obtain ⟨x54, h55, hb⟩ := bd hb
            obtain ⟨ad56, cs57, hA, ho60, hc58, hr59⟩ := hS.elr2 (i := 1) rfl (get_some h55).2 []
            obtain rfl := Option.some.inj hA
            refine mixE.gpure rfl (want_t rfl rfl (show _ = Value.bool (!y49) from rfl) hq52) (v := .pointer (some (ad9.add (v3_0.toNat * 1)))) (pu_index (a := v3_0) Try.underlying23 Try.sizeOf28 rfl rfl (get_some h55).1) ?_
            obtain ⟨ad65, cs66, hA, hc67, hr68⟩ := hC.elr (i := 1) rfl (get_some h55).2
            obtain rfl := Option.some.inj hA
            have hR := hr59
            obtain ⟨A61, c62, rfl, hl63, hc64, _⟩ := hr59
            replace hS := hS.ro hR
            have hR := hr68
            obtain ⟨A69, c70, rfl, -, -, -⟩ := hr68
            obtain ⟨rfl, rfl⟩ := sl_inj ((hM.cell (hc58 0 _ rfl) (off1 (off1 ho60))).symm.trans (hc67 0 _ rfl))
            replace hC := hC.ro hR
            clear hR
            refine mixE.gload rfl (want_t rfl rfl (show _ = Value.bool (!y49) from rfl) hq52) hM (v := .slice A61 x54.length c62) (fun _ hF => ld_one Try.isAgg28 rfl (hF.cell (hc58 0 _ rfl) (off1 ho60))) ?_
            refine mixE.gpure rfl (want_t rfl rfl (show _ = Value.bool (!y49) from rfl) hq52) (v := .int .i64 (x54.length : Int)) (pu_len (A := A61) (n := x54.length) (m := c62) Try.underlying28 rfl) ?_
            refine mixE.gpure rfl (want_t rfl rfl (show _ = Value.bool (!y49) from rfl) hq52) (v := .slice (some ad9) l_0.length cl_0) (pu_move e0) ?_
            obtain ⟨x72, h73, hb⟩ := bd hb
            obtain ⟨ad74, cs75, hA, ho78, hc76, hr77⟩ := hS.elr2 (i := 2) rfl (get_some h73).2 []
            obtain rfl := Option.some.inj hA
            refine mixE.gpure rfl (want_t rfl rfl (show _ = Value.bool (!y49) from rfl) hq52) (v := .pointer (some (ad9.add ((0 : Int).toNat * 1)))) (pu_index (a := 0) Try.underlying23 Try.sizeOf28 rfl rfl (get_some h73).1) ?_
            obtain ⟨ad83, cs84, hA, hc85, hr86⟩ := hC.elr (i := 2) rfl (get_some h73).2
            obtain rfl := Option.some.inj hA
            have hR := hr77
            obtain ⟨A79, c80, rfl, hl81, hc82, _⟩ := hr77
            replace hS := hS.ro hR
            have hR := hr86
            obtain ⟨A87, c88, rfl, -, -, -⟩ := hr86
            obtain ⟨rfl, rfl⟩ := sl_inj ((hM.cell (hc76 0 _ rfl) (off1 (off1 ho78))).symm.trans (hc85 0 _ rfl))
            replace hC := hC.ro hR
            clear hR
            refine mixE.gload rfl (want_t rfl rfl (show _ = Value.bool (!y49) from rfl) hq52) hM (v := .slice A79 x72.length c80) (fun _ hF => ld_one Try.isAgg28 rfl (hF.cell (hc76 0 _ rfl) (off1 ho78))) ?_
            refine mixE.gpure rfl (want_t rfl rfl (show _ = Value.bool (!y49) from rfl) hq52) (v := .int .i64 (x72.length : Int)) (pu_len (A := A79) (n := x72.length) (m := c80) Try.underlying28 rfl) ?_
            refine mixE.gpure rfl (want_t rfl rfl (show _ = Value.bool (!y49) from rfl) hq52) (v := .bool (!(decide ((x54.length : Int) = (x72.length : Int))))) (pu_neq (k := .i64) (a := (x54.length : Int)) (b := (x72.length : Int)) rfl rfl) ?_
            refine mixE.pure (v := .bool (!(decide ((x54.length : Int) = (x72.length : Int))))) (pu_pickF (q := (!y49)) rfl hq52 rfl) ?_
            refine mixE.nil ?_
            clear hS hM
            refine hK34 _ _ ?_
            refine Wc.cond (t := (!(decide ((x54.length : Int) = (x72.length : Int))))) (rfl) (fun hq90 => ?_) (fun hq90 => ?_)
            · replace hb := (cT hq90).symm.trans hb
              refine Wc.seq fun K91 hK91 => ?_
              refine Wc.region (by decide +kernel) ?_
              refine lex.pure (v := .bool false) (pu_assign rfl) ?_
              refine lex.nil ?_
              refine hK91 _ _ ?_
              obtain rfl := Option.some.inj hb
              obtain rfl := (lX hl0).symm
              replace hb := hbK0
              obtain rfl := Option.some.inj hb
              refine Wc.ret ?_
              refine hKR _ _ ?_
              refine ⟨_, res1 Try.results34 (show RV _ _ _ (.tmp _) (.bool false) from rfl), _, rfl, rfl, hC.sel [] (by decide)⟩
            · replace hb := (cF hq90).symm.trans hb
              refine Wc.skip ?_
              refine hK33 _ _ ?_
              refine Wc.region (by decide +kernel) ?_
              refine lex.pure (v := .int .i64 v3_0) (pu_move e3) ?_
              obtain ⟨z92, h93, hb⟩ := bd hb
              refine lex.pure (v := .int .i64 z92) (pu_addc (a := v3_0) (b := 1) rfl rfl h93) ?_
              refine lex.pure (v := .int .i64 z92) (pu_assign rfl) ?_
              refine lex.nil ?_
              obtain rfl := Option.some.inj hb
              exact hK25 m26' _ _ (Nat.lt_succ_self _) ⟨z92, e0, e2, rfl, (chk_rng h93), hC.sel [3] (by decide), lN hl0⟩
        · replace hb := (cF hq32).symm.trans hb
          refine Wc.exit rfl ?_
          obtain rfl := Option.some.inj hb
          obtain rfl := (lX hl0).symm
          exact hK24 _ _ ⟨v3_0, e0, e2, hrv3_0, hC.sel [0] (by decide), hbK0⟩
      · clear hb hC hl0
        rintro E95 w94 ⟨v3_0, e0, e2, hrv3_0, hC, hb⟩
        refine hK21 _ _ ?_
        refine Wc.seq fun K96 hK96 => ?_
        refine Wc.region (by decide +kernel) ?_
        refine lex.pure (v := .slice (some ad9) l_0.length cl_0) (pu_move e0) ?_
        obtain ⟨x97, h98, hb⟩ := bd hb
        obtain ⟨ad99, cs100, hA, hc101, hr102⟩ := hC.elr (i := 0) rfl (get_some h98).2
        obtain rfl := Option.some.inj hA
        refine lex.pure (v := .pointer (some (ad9.add ((0 : Int).toNat * 1)))) (pu_index (a := 0) Try.underlying23 Try.sizeOf28 rfl rfl (get_some h98).1) ?_
        have hR := hr102
        obtain ⟨A103, c104, rfl, hl105, hc106, _⟩ := hr102
        replace hC := hC.ro hR
        clear hR
        refine lex.val (v := .slice A103 x97.length c104) (ld_one Try.isAgg28 rfl (hc101 0 _ rfl)) ?_
        refine lex.pure (v := .int .i64 (x97.length : Int)) (pu_len (A := A103) (n := x97.length) (m := c104) Try.underlying28 rfl) ?_
        refine lex.pure (v := .int .i64 (x97.length : Int)) (pu_assign rfl) ?_
        refine lex.nil ?_
        refine hK96 _ _ ?_
        refine Wc.seq fun K108 hK108 => ?_
        refine Wc.region (by decide +kernel) ?_
        refine lex.pure (v := .int .i64 (x97.length : Int)) (pu_move rfl) ?_
        obtain ⟨u109, h110, hb⟩ := bd hb
        refine lex.op (hC.make (s := .bool) (n := (x97.length : Int)) Try.underlying63 Try.type4 rfl rfl rfl rfl rfl (pos_some h110).1 (pos_some h110).2 (by decide)) ?_
        rintro _ w115 ⟨A111, c112, rfl, hl113, hc114, hC, hF, hN⟩
        clear hF hN
        refine lex.pure (v := .slice A111 (((List.replicate (x97.length : Int).toNat false)).length) c112) (pu_assign rfl) ?_
        refine lex.nil ?_
        refine hK108 _ _ ?_
        refine Wc.seq fun K117 hK117 => ?_
        refine Wc.region (by decide +kernel) ?_
        refine lex.pure (v := .slice A111 (((List.replicate (x97.length : Int).toNat false)).length) c112) (pu_move rfl) ?_
        obtain ⟨x118, h119, hb⟩ := bd hb
        obtain ⟨ad120, cs121, hA, hc122, hr123⟩ := hC.elo (i := 0) rfl (get_some h119).2
        subst hA
        refine lex.pure (v := .pointer (some (ad120.add ((0 : Int).toNat * 1)))) (pu_index (a := 0) Try.underlying63 Try.sizeOf4 rfl rfl (get_some h119).1) ?_
        refine lex.sk (hC.put (i := 0) rfl rfl Try.sizeOf4 (k := (0 : Int).toNat) (a := true) (by have := (get_some h119).1; simp at this ⊢; omega) (show Rep _ _ .bool _ _ from rfl) rfl rfl rfl) ?_
        rintro w124 ⟨hC, hF⟩
        refine lex.nil ?_
        refine hK117 _ _ ?_
        refine Wc.fresh fun E125 hE => ?_
        have e0 : E125 0 = .slice (some ad9) l_0.length cl_0 := (congrFun hE 0).trans e0
        have e2 : E125 2 = .bool false := (congrFun hE 2).trans e2
        have e4 : E125 4 = .int .i64 (x97.length : Int) := (congrFun hE 4).trans rfl
        have e5 : E125 5 = .slice (some ad120) (((List.replicate (x97.length : Int).toNat false)).length) c112 := (congrFun hE 5).trans rfl
        clear hE
        refine Wc.seq fun K126 hK126 => ?_
        refine Wc.seq fun K127 hK127 => ?_
        refine Wc.region (by decide +kernel) ?_
        refine lex.pure (v := .int .i64 0) (pu_assign rfl) ?_
        refine lex.nil ?_
        refine hK127 _ _ ?_
        obtain ⟨o128, hl1, hb⟩ := bd hb
        refine Wc.cut (fun E wv => ∃ (v6_1 : Int) (qf116_1 : List Bool), E 2 = .bool false ∧ E 4 = .int .i64 (x97.length : Int) ∧ E 5 = .slice (some ad120) (((List.replicate (x97.length : Int).toNat false)).length) c112 ∧ I64 v6_1 ∧ Cx (fun _ => False) O0 w wv [.own 4 .bool (.slice (some ad120) (((List.replicate (x97.length : Int).toNat false)).length) c112) qf116_1] ∧ (((loopN n (F.ref30_Transitive_b4 n x97 qf116_1) 0).bind fun o211 => match o211 with     | (.inl v9_4) => some true     | (.inr q) => some q) : Option (Bool)) = some r) (fun K129 hK129 => ?_) ?_
        · refine Wc.block ?_
          refine Wc.loop (fun m E wv => ∃ (v6_1 : Int) (qf116_1 : List Bool), E 0 = .slice (some ad9) l_0.length cl_0 ∧ E 2 = .bool false ∧ E 4 = .int .i64 (x97.length : Int) ∧ E 5 = .slice (some ad120) (((List.replicate (x97.length : Int).toNat false)).length) c112 ∧ E 6 = .int .i64 v6_1 ∧ I64 v6_1 ∧ Cx (fun _ => False) O0 w wv [.ro (.sl (.sl (.int .i64))) [.slice (some ad9) l_0.length cl_0] l_0, .own 4 .bool (.slice (some ad120) (((List.replicate (x97.length : Int).toNat false)).length) c112) qf116_1] ∧ loopN m (F.ref30_Transitive_b1 n l_0 x97) (v6_1, qf116_1) = some o128) n ⟨0, ((List.replicate (x97.length : Int).toNat false).set (0 : Int).toNat true), e0, e2, e4, e5, rfl, (show I64 0 from by unfold I64; omega), hC.sel [2, 0] (by decide), hl1⟩ ?_
          have hbK1 := hb
          clear hb hC hl1
          rintro m131 E133 w132 ⟨v6_1, qf116_1, e0, e2, e4, e5, e6, hrv6_1, hC, hl1⟩ K130 hK130
          obtain ⟨m131', o134, rfl, hb, hl1⟩ := loopN_some hl1
          unfold F.ref30_Transitive_b1 at hb
          refine Wc.seq fun K135 hK135 => ?_
          refine Wc.seq fun K136 hK136 => ?_
          refine Wc.region (by decide +kernel) ?_
          refine lex.pure (v := .int .i64 v6_1) (pu_move e6) ?_
          refine lex.pure (v := .int .i64 (x97.length : Int)) (pu_move e4) ?_
          refine lex.pure (v := .bool (decide (v6_1 < (x97.length : Int)))) (pu_lss (k := .i64) (a := v6_1) (b := (x97.length : Int)) rfl rfl) ?_
          refine lex.nil ?_
          refine hK136 _ _ ?_
          refine Wc.cond (t := (decide (v6_1 < (x97.length : Int)))) (rfl) (fun hq137 => ?_) (fun hq137 => ?_)
          · replace hb := (cT hq137).symm.trans hb
            refine Wc.skip ?_
            refine hK135 _ _ ?_
            refine Wc.seq fun K138 hK138 => ?_
            refine Wc.block ?_
            refine Wc.seq fun K139 hK139 => ?_
            refine Wc.region (by decide +kernel) ?_
            refine lex.pure (v := .int .i64 0) (pu_assign rfl) ?_
            refine lex.nil ?_
            refine hK139 _ _ ?_
            obtain ⟨o140, hl2, hb⟩ := bd hb
            refine Wc.cut (fun E wv => ∃ (v7_2 : Int) (qf116_2 : List Bool), E 0 = .slice (some ad9) l_0.length cl_0 ∧ E 2 = .bool false ∧ E 4 = .int .i64 (x97.length : Int) ∧ E 5 = .slice (some ad120) (((List.replicate (x97.length : Int).toNat false)).length) c112 ∧ E 6 = .int .i64 v6_1 ∧ E 7 = .int .i64 v7_2 ∧ E 54 = .bool (decide (v6_1 < (x97.length : Int))) ∧ I64 v7_2 ∧ Cx (fun _ => False) O0 w wv [.ro (.sl (.sl (.int .i64))) [.slice (some ad9) l_0.length cl_0] l_0, .own 4 .bool (.slice (some ad120) (((List.replicate (x97.length : Int).toNat false)).length) c112) qf116_2] ∧ ((chk (v6_1 + 1)).bind fun z205 => some (.inl (z205, qf116_2)) : Option ((Int × (List Bool)) ⊕ ((Int × (List Bool))))) = some o134) (fun K141 hK141 => ?_) ?_
            · refine Wc.block ?_
              refine Wc.loop (fun m E wv => ∃ (v7_2 : Int) (qf116_2 : List Bool), E 0 = .slice (some ad9) l_0.length cl_0 ∧ E 2 = .bool false ∧ E 4 = .int .i64 (x97.length : Int) ∧ E 5 = .slice (some ad120) (((List.replicate (x97.length : Int).toNat false)).length) c112 ∧ E 6 = .int .i64 v6_1 ∧ E 7 = .int .i64 v7_2 ∧ E 54 = .bool (decide (v6_1 < (x97.length : Int))) ∧ I64 v7_2 ∧ Cx (fun _ => False) O0 w wv [.ro (.sl (.sl (.int .i64))) [.slice (some ad9) l_0.length cl_0] l_0, .own 4 .bool (.slice (some ad120) (((List.replicate (x97.length : Int).toNat false)).length) c112) qf116_2] ∧ loopN m (F.ref30_Transitive_b2 n l_0 x97) (v7_2, qf116_2) = some o140) n ⟨0, qf116_1, e0, e2, e4, e5, e6, rfl, rfl, (show I64 0 from by unfold I64; omega), hC.sel [0, 1] (by decide), hl2⟩ ?_
              have hbK2 := hb
              clear hb hC hl2
              rintro m143 E145 w144 ⟨v7_2, qf116_2, e0, e2, e4, e5, e6, e7, e54, hrv7_2, hC, hl2⟩ K142 hK142
              obtain ⟨m143', o146, rfl, hb, hl2⟩ := loopN_some hl2
              unfold F.ref30_Transitive_b2 at hb
              refine Wc.seq fun K147 hK147 => ?_
              refine Wc.seq fun K148 hK148 => ?_
              refine Wc.region (by decide +kernel) ?_
              refine lex.pure (v := .int .i64 v7_2) (pu_move e7) ?_
              refine lex.pure (v := .int .i64 (x97.length : Int)) (pu_move e4) ?_
              refine lex.pure (v := .bool (decide (v7_2 < (x97.length : Int)))) (pu_lss (k := .i64) (a := v7_2) (b := (x97.length : Int)) rfl rfl) ?_
              refine lex.nil ?_
              refine hK148 _ _ ?_
              refine Wc.cond (t := (decide (v7_2 < (x97.length : Int)))) (rfl) (fun hq149 => ?_) (fun hq149 => ?_)
              · replace hb := (cT hq149).symm.trans hb
                refine Wc.skip ?_
                refine hK147 _ _ ?_
                refine Wc.seq fun K150 hK150 => ?_
                refine Wc.block ?_
                refine Wc.seq fun K151 hK151 => ?_
                refine Wc.region (by decide +kernel) ?_
                refine lex.pure (v := .int .i64 0) (pu_assign rfl) ?_
                refine lex.nil ?_
                refine hK151 _ _ ?_
                obtain ⟨o152, hl3, hb⟩ := bd hb
                refine Wc.cut (fun E wv => ∃ (v8_3 : Int) (qf116_3 : List Bool), E 0 = .slice (some ad9) l_0.length cl_0 ∧ E 2 = .bool false ∧ E 4 = .int .i64 (x97.length : Int) ∧ E 5 = .slice (some ad120) (((List.replicate (x97.length : Int).toNat false)).length) c112 ∧ E 6 = .int .i64 v6_1 ∧ E 7 = .int .i64 v7_2 ∧ E 8 = .int .i64 v8_3 ∧ E 54 = .bool (decide (v6_1 < (x97.length : Int))) ∧ E 59 = .bool (decide (v7_2 < (x97.length : Int))) ∧ I64 v8_3 ∧ Cx (fun _ => False) O0 w wv [.ro (.sl (.sl (.int .i64))) [.slice (some ad9) l_0.length cl_0] l_0, .own 4 .bool (.slice (some ad120) (((List.replicate (x97.length : Int).toNat false)).length) c112) qf116_3] ∧ ((chk (v7_2 + 1)).bind fun z201 => some (.inl (z201, qf116_3)) : Option ((Int × (List Bool)) ⊕ ((Int × (List Bool))))) = some o146) (fun K153 hK153 => ?_) ?_
                · refine Wc.block ?_
                  refine Wc.loop (fun m E wv => ∃ (v8_3 : Int) (qf116_3 : List Bool), E 0 = .slice (some ad9) l_0.length cl_0 ∧ E 2 = .bool false ∧ E 4 = .int .i64 (x97.length : Int) ∧ E 5 = .slice (some ad120) (((List.replicate (x97.length : Int).toNat false)).length) c112 ∧ E 6 = .int .i64 v6_1 ∧ E 7 = .int .i64 v7_2 ∧ E 8 = .int .i64 v8_3 ∧ E 54 = .bool (decide (v6_1 < (x97.length : Int))) ∧ E 59 = .bool (decide (v7_2 < (x97.length : Int))) ∧ I64 v8_3 ∧ Cx (fun _ => False) O0 w wv [.ro (.sl (.sl (.int .i64))) [.slice (some ad9) l_0.length cl_0] l_0, .own 4 .bool (.slice (some ad120) (((List.replicate (x97.length : Int).toNat false)).length) c112) qf116_3] ∧ loopN m (F.ref30_Transitive_b3 n l_0 v7_2) (v8_3, qf116_3) = some o152) n ⟨0, qf116_2, e0, e2, e4, e5, e6, e7, rfl, e54, rfl, (show I64 0 from by unfold I64; omega), hC.sel [0, 1] (by decide), hl3⟩ ?_
                  have hbK3 := hb
                  clear hb hC hl3
                  rintro m155 E157 w156 ⟨v8_3, qf116_3, e0, e2, e4, e5, e6, e7, e8, e54, e59, hrv8_3, hC, hl3⟩ K154 hK154
                  obtain ⟨m155', o158, rfl, hb, hl3⟩ := loopN_some hl3
                  unfold F.ref30_Transitive_b3 at hb
                  refine Wc.seq fun K159 hK159 => ?_
                  refine Wc.seq fun K160 hK160 => ?_
                  refine Wc.region (by decide +kernel) ?_
                  refine lex.pure (v := .int .i64 v8_3) (pu_move e8) ?_
                  refine lex.pure (v := .slice (some ad9) l_0.length cl_0) (pu_move e0) ?_
                  refine lex.pure (v := .int .i64 (l_0.length : Int)) (pu_len (A := (some ad9)) (n := l_0.length) (m := cl_0) Try.underlying23 rfl) ?_
                  refine lex.pure (v := .bool (decide (v8_3 < (l_0.length : Int)))) (pu_lss (k := .i64) (a := v8_3) (b := (l_0.length : Int)) rfl rfl) ?_
                  refine lex.nil ?_
                  refine hK160 _ _ ?_
                  refine Wc.cond (t := (decide (v8_3 < (l_0.length : Int)))) (rfl) (fun hq161 => ?_) (fun hq161 => ?_)
                  · replace hb := (cT hq161).symm.trans hb
                    refine Wc.skip ?_
                    refine hK159 _ _ ?_
                    refine Wc.seq fun K162 hK162 => ?_
                    refine Wc.block ?_
                    refine Wc.seq fun K163 hK163 => ?_
                    refine Wc.region (by decide +kernel) ?_
                    refine lex.pure (v := .slice (some ad120) (((List.replicate (x97.length : Int).toNat false)).length) c112) (pu_move e5) ?_
                    refine lex.pure (v := .int .i64 v7_2) (pu_move e7) ?_
                    obtain ⟨x164, h165, hb⟩ := bd hb
                    obtain ⟨ad166, cs167, hA, hc168, hr169⟩ := hC.elo (i := 1) rfl (get_some h165).2
                    obtain rfl := Option.some.inj hA
                    refine lex.pure (v := .pointer (some (ad120.add (v7_2.toNat * 1)))) (pu_index (a := v7_2) Try.underlying63 Try.sizeOf4 rfl rfl (by rw [(hC.ow (i := 1) rfl).sl_len.1]; exact (get_some h165).1)) ?_
                    obtain rfl := (show _ = _ from hr169)
                    refine lex.val (v := .bool x164) (ld_one Try.isAgg4 rfl (hc168 0 _ rfl)) ?_
                    refine lex.nil ?_
                    refine hK163 _ _ ?_
                    refine Wc.cond (t := x164) (rfl) (fun hq170 => ?_) (fun hq170 => ?_)
                    · replace hb := (cT hq170).symm.trans hb
                      refine Wc.region (by decide +kernel) ?_
                      refine lex.pure (v := .slice (some ad120) (((List.replicate (x97.length : Int).toNat false)).length) c112) (pu_move e5) ?_
                      refine lex.pure (v := .slice (some ad9) l_0.length cl_0) (pu_move e0) ?_
                      refine lex.pure (v := .int .i64 v8_3) (pu_move e8) ?_
                      obtain ⟨x171, h172, hb⟩ := bd hb
                      obtain ⟨ad173, cs174, hA, hc175, hr176⟩ := hC.elr (i := 0) rfl (get_some h172).2
                      obtain rfl := Option.some.inj hA
                      refine lex.pure (v := .pointer (some (ad9.add (v8_3.toNat * 1)))) (pu_index (a := v8_3) Try.underlying23 Try.sizeOf28 rfl rfl (get_some h172).1) ?_
                      have hR := hr176
                      obtain ⟨A177, c178, rfl, hl179, hc180, _⟩ := hr176
                      replace hC := hC.ro hR
                      clear hR
                      refine lex.val (v := .slice A177 x171.length c178) (ld_one Try.isAgg28 rfl (hc175 0 _ rfl)) ?_
                      refine lex.pure (v := .int .i64 v7_2) (pu_move e7) ?_
                      obtain ⟨x182, h183, hb⟩ := bd hb
                      obtain ⟨ad184, cs185, hA, hc186, hr187⟩ := hC.elr (i := 0) rfl (get_some h183).2
                      subst hA
                      refine lex.pure (v := .pointer (some (ad184.add (v7_2.toNat * 1)))) (pu_index (a := v7_2) Try.underlying28 Try.sizeOf3 rfl rfl (get_some h183).1) ?_
                      obtain ⟨rfl, hr187'⟩ := hr187
                      refine lex.val (v := .int .i64 x182) (ld_one Try.isAgg3 rfl (hc186 0 _ rfl)) ?_
                      obtain ⟨x188, h189, hb⟩ := bd hb
                      obtain ⟨ad190, cs191, hA, hc192, hr193⟩ := hC.elo (i := 2) rfl (get_some h189).2
                      obtain rfl := Option.some.inj hA
                      refine lex.pure (v := .pointer (some (ad120.add (x182.toNat * 1)))) (pu_index (a := x182) Try.underlying63 Try.sizeOf4 rfl rfl (by rw [(hC.ow (i := 2) rfl).sl_len.1]; exact (get_some h189).1)) ?_
                      refine lex.sk (hC.put (i := 2) rfl rfl Try.sizeOf4 (k := x182.toNat) (a := true) (by have := (get_some h189).1; simp at this ⊢; omega) (show Rep _ _ .bool _ _ from rfl) rfl rfl rfl) ?_
                      rintro w194 ⟨hC, hF⟩
                      refine lex.nil ?_
                      refine hK162 _ _ ?_
                      refine Wc.region (by decide +kernel) ?_
                      refine lex.pure (v := .int .i64 v8_3) (pu_move e8) ?_
                      obtain ⟨z195, h196, hb⟩ := bd hb
                      refine lex.pure (v := .int .i64 z195) (pu_addc (a := v8_3) (b := 1) rfl rfl h196) ?_
                      refine lex.pure (v := .int .i64 z195) (pu_assign rfl) ?_
                      refine lex.nil ?_
                      obtain rfl := Option.some.inj hb
                      exact hK154 m155' _ _ (Nat.lt_succ_self _) ⟨z195, (qf116_3.set x182.toNat true), e0, e2, e4, e5, e6, e7, rfl, e54, e59, (chk_rng h196), hC.sel [1, 2] (by decide), lN hl3⟩
                    · replace hb := (cF hq170).symm.trans hb
                      refine Wc.skip ?_
                      refine hK162 _ _ ?_
                      refine Wc.region (by decide +kernel) ?_
                      refine lex.pure (v := .int .i64 v8_3) (pu_move e8) ?_
                      obtain ⟨z197, h198, hb⟩ := bd hb
                      refine lex.pure (v := .int .i64 z197) (pu_addc (a := v8_3) (b := 1) rfl rfl h198) ?_
                      refine lex.pure (v := .int .i64 z197) (pu_assign rfl) ?_
                      refine lex.nil ?_
                      obtain rfl := Option.some.inj hb
                      exact hK154 m155' _ _ (Nat.lt_succ_self _) ⟨z197, qf116_3, e0, e2, e4, e5, e6, e7, rfl, e54, e59, (chk_rng h198), hC.sel [0, 1] (by decide), lN hl3⟩
                  · replace hb := (cF hq161).symm.trans hb
                    refine Wc.exit rfl ?_
                    obtain rfl := Option.some.inj hb
                    obtain rfl := (lX hl3).symm
                    exact hK153 _ _ ⟨v8_3, qf116_3, e0, e2, e4, e5, e6, e7, e8, e54, e59, hrv8_3, hC.sel [0, 1] (by decide), hbK3⟩
                · clear hb hC hl3
                  rintro E200 w199 ⟨v8_3, qf116_3, e0, e2, e4, e5, e6, e7, e8, e54, e59, hrv8_3, hC, hb⟩
                  refine hK150 _ _ ?_
                  refine Wc.region (by decide +kernel) ?_
                  refine lex.pure (v := .int .i64 v7_2) (pu_move e7) ?_
                  obtain ⟨z201, h202, hb⟩ := bd hb
                  refine lex.pure (v := .int .i64 z201) (pu_addc (a := v7_2) (b := 1) rfl rfl h202) ?_
                  refine lex.pure (v := .int .i64 z201) (pu_assign rfl) ?_
                  refine lex.nil ?_
                  obtain rfl := Option.some.inj hb
                  exact hK142 m143' _ _ (Nat.lt_succ_self _) ⟨z201, qf116_3, e0, e2, e4, e5, e6, rfl, e54, (chk_rng h202), hC.sel [0, 1] (by decide), lN hl2⟩
              · replace hb := (cF hq149).symm.trans hb
                refine Wc.exit rfl ?_
                obtain rfl := Option.some.inj hb
                obtain rfl := (lX hl2).symm
                exact hK141 _ _ ⟨v7_2, qf116_2, e0, e2, e4, e5, e6, e7, e54, hrv7_2, hC.sel [0, 1] (by decide), hbK2⟩
            · clear hb hC hl2
              rintro E204 w203 ⟨v7_2, qf116_2, e0, e2, e4, e5, e6, e7, e54, hrv7_2, hC, hb⟩
              refine hK138 _ _ ?_
              refine Wc.region (by decide +kernel) ?_
              refine lex.pure (v := .int .i64 v6_1) (pu_move e6) ?_
              obtain ⟨z205, h206, hb⟩ := bd hb
              refine lex.pure (v := .int .i64 z205) (pu_addc (a := v6_1) (b := 1) rfl rfl h206) ?_
              refine lex.pure (v := .int .i64 z205) (pu_assign rfl) ?_
              refine lex.nil ?_
              obtain rfl := Option.some.inj hb
              exact hK130 m131' _ _ (Nat.lt_succ_self _) ⟨z205, qf116_2, e0, e2, e4, e5, rfl, (chk_rng h206), hC.sel [0, 1] (by decide), lN hl1⟩
          · replace hb := (cF hq137).symm.trans hb
            refine Wc.exit rfl ?_
            obtain rfl := Option.some.inj hb
            obtain rfl := (lX hl1).symm
            exact hK129 _ _ ⟨v6_1, qf116_1, e2, e4, e5, hrv6_1, hC.sel [1] (by decide), hbK1⟩
        · clear hb hC hl1
          rintro E208 w207 ⟨v6_1, qf116_1, e2, e4, e5, hrv6_1, hC, hb⟩
          refine hK126 _ _ ?_
          refine Wc.seq fun K209 hK209 => ?_
          refine Wc.seq fun K210 hK210 => ?_
          refine Wc.region (by decide +kernel) ?_
          refine lex.pure (v := .int .i64 0) (pu_assign rfl) ?_
          refine lex.nil ?_
          refine hK210 _ _ ?_
          obtain ⟨o211, hl4, hb⟩ := bd hb
          refine Wc.cut (fun E wv => ∃ (v9_4 : Int), E 2 = .bool false ∧ I64 v9_4 ∧ Cx (fun _ => False) O0 w wv [] ∧ (some true : Option (Bool)) = some r) (fun K212 hK212 => ?_) ?_
          · refine Wc.block ?_
            refine Wc.loop (fun m E wv => ∃ (v9_4 : Int), E 2 = .bool false ∧ E 4 = .int .i64 (x97.length : Int) ∧ E 5 = .slice (some ad120) (((List.replicate (x97.length : Int).toNat false)).length) c112 ∧ E 9 = .int .i64 v9_4 ∧ I64 v9_4 ∧ Cx (fun _ => False) O0 w wv [.own 4 .bool (.slice (some ad120) (((List.replicate (x97.length : Int).toNat false)).length) c112) qf116_1] ∧ loopN m (F.ref30_Transitive_b4 n x97 qf116_1) v9_4 = some o211) n ⟨0, e2, e4, e5, rfl, (show I64 0 from by unfold I64; omega), hC.sel [0] (by decide), hl4⟩ ?_
            have hbK4 := hb
            clear hb hC hl4
            rintro m214 E216 w215 ⟨v9_4, e2, e4, e5, e9, hrv9_4, hC, hl4⟩ K213 hK213
            obtain ⟨m214', o217, rfl, hb, hl4⟩ := loopN_some hl4
            unfold F.ref30_Transitive_b4 at hb
            refine Wc.seq fun K218 hK218 => ?_
            refine Wc.seq fun K219 hK219 => ?_
            refine Wc.region (by decide +kernel) ?_
            refine lex.pure (v := .int .i64 v9_4) (pu_move e9) ?_
            refine lex.pure (v := .int .i64 (x97.length : Int)) (pu_move e4) ?_
            refine lex.pure (v := .bool (decide (v9_4 < (x97.length : Int)))) (pu_lss (k := .i64) (a := v9_4) (b := (x97.length : Int)) rfl rfl) ?_
            refine lex.nil ?_
            refine hK219 _ _ ?_
            refine Wc.cond (t := (decide (v9_4 < (x97.length : Int)))) (rfl) (fun hq220 => ?_) (fun hq220 => ?_)
            · replace hb := (cT hq220).symm.trans hb
              refine Wc.skip ?_
              refine hK218 _ _ ?_
              refine Wc.seq fun K221 hK221 => ?_
              refine Wc.block ?_
              refine Wc.seq fun K222 hK222 => ?_
              refine Wc.region (by decide +kernel) ?_
              refine lex.pure (v := .slice (some ad120) (((List.replicate (x97.length : Int).toNat false)).length) c112) (pu_move e5) ?_
              refine lex.pure (v := .int .i64 v9_4) (pu_move e9) ?_
              obtain ⟨x223, h224, hb⟩ := bd hb
              obtain ⟨ad225, cs226, hA, hc227, hr228⟩ := hC.elo (i := 0) rfl (get_some h224).2
              obtain rfl := Option.some.inj hA
              refine lex.pure (v := .pointer (some (ad120.add (v9_4.toNat * 1)))) (pu_index (a := v9_4) Try.underlying63 Try.sizeOf4 rfl rfl (by rw [(hC.ow (i := 0) rfl).sl_len.1]; exact (get_some h224).1)) ?_
              obtain rfl := (show _ = _ from hr228)
              refine lex.val (v := .bool x223) (ld_one Try.isAgg4 rfl (hc227 0 _ rfl)) ?_
              refine lex.pure (v := .bool (!x223)) (pu_not (q := x223) rfl) ?_
              refine lex.nil ?_
              refine hK222 _ _ ?_
              refine Wc.cond (t := (!x223)) (rfl) (fun hq229 => ?_) (fun hq229 => ?_)
              · replace hb := (cT hq229).symm.trans hb
                refine Wc.seq fun K230 hK230 => ?_
                refine Wc.region (by decide +kernel) ?_
                refine lex.pure (v := .bool false) (pu_assign rfl) ?_
                refine lex.nil ?_
                refine hK230 _ _ ?_
                obtain rfl := Option.some.inj hb
                obtain rfl := (lX hl4).symm
                replace hb := hbK4
                obtain rfl := Option.some.inj hb
                refine Wc.ret ?_
                refine hKR _ _ ?_
                refine ⟨_, res1 Try.results34 (show RV _ _ _ (.tmp _) (.bool false) from rfl), _, rfl, rfl, hC.sel [] (by decide)⟩
              · replace hb := (cF hq229).symm.trans hb
                refine Wc.skip ?_
                refine hK221 _ _ ?_
                refine Wc.region (by decide +kernel) ?_
                refine lex.pure (v := .int .i64 v9_4) (pu_move e9) ?_
                obtain ⟨z231, h232, hb⟩ := bd hb
                refine lex.pure (v := .int .i64 z231) (pu_addc (a := v9_4) (b := 1) rfl rfl h232) ?_
                refine lex.pure (v := .int .i64 z231) (pu_assign rfl) ?_
                refine lex.nil ?_
                obtain rfl := Option.some.inj hb
                exact hK213 m214' _ _ (Nat.lt_succ_self _) ⟨z231, e2, e4, e5, rfl, (chk_rng h232), hC.sel [0] (by decide), lN hl4⟩
            · replace hb := (cF hq220).symm.trans hb
              refine Wc.exit rfl ?_
              obtain rfl := Option.some.inj hb
              obtain rfl := (lX hl4).symm
              exact hK212 _ _ ⟨v9_4, e2, hrv9_4, hC.sel [] (by decide), hbK4⟩
          · clear hb hC hl4
            rintro E234 w233 ⟨v9_4, e2, hrv9_4, hC, hb⟩
            refine hK209 _ _ ?_
            refine Wc.seq fun K235 hK235 => ?_
            refine Wc.region (by decide +kernel) ?_
            refine lex.pure (v := .bool true) (pu_assign rfl) ?_
            refine lex.nil ?_
            refine hK235 _ _ ?_
            obtain rfl := Option.some.inj hb
            refine Wc.ret ?_
            refine hKR _ _ ?_
            refine ⟨_, res1 Try.results34 (show RV _ _ _ (.tmp _) (.bool true) from rfl), _, rfl, rfl, hC.sel [] (by decide)⟩
end Go.Proofs.Ytmlkiafidahnbaa
