/- The walks: part 6. -/
import Derived.Test.YtmlkiafidahnbaaS
import Derived.Test.YtmlkiafidahnbaaG0
import Derived.Test.YtmlkiafidahnbaaG2
import Derived.Test.YtmlkiafidahnbaaG4
import Derived.Test.YtmlkiafidahnbaaG5
set_option linter.unusedVariables false
set_option linter.unusedSimpArgs false
namespace Go.Proofs.Ytmlkiafidahnbaa
open Ev
set_option maxRecDepth 100000 in
set_option maxHeartbeats 4000000 in
theorem law30_PermAll_ok (n : Nat) {w : World} {O0 : List Nat} (hO : ∀ k ∈ O0, k < w.heap.size) {nx_0 : Int} (hnx_0 : I64 nx_0) {stop_1 : Int} (hstop_1 : IntKind.u8.wrap stop_1 = stop_1) {r : Bool} (hb : F.law30_PermAll n nx_0 stop_1 = some r) :
    Calls Try.prog 3 #[.int .i64 nx_0, .int .u8 stop_1] w fun e w' => ∃ v, e = .returned v ∧ v = .bool r ∧ Cx (fun _ => False) O0 w w' [] := by
  unfold F.law30_PermAll at hb
  have hC := Cx.start hO
  clear hO
  replace hC : Cx (fun _ => False) O0 w w (([] : List Fact) ++ marksF ([] : List Nat)) := hC
  refine calls_of_WcM Try.func3 rfl (by rw [Try.ntmps3]; exact Nat.le_of_ble_eq_true rfl) fun KR hKR => ?_
  refine Wc.seq fun K1 hK1 => ?_
  refine Wc.region (by decide +kernel) ?_
  replace hC : Cx (fun _ => False) O0 w w (([] : List Fact) ++ marksF ([] : List Nat)) := hC
  refine lex.op (hC.box (cs := [.int .u8 stop_1]) rfl rfl) ?_
  rintro _ w3 ⟨g2, rfl, hC, hF, hG⟩
  clear hG
  replace hC : Cx (fun _ => False) O0 w w3 ([.box g2 5 [.int .u8 stop_1]] ++ marksF ([] : List Nat)) := hC
  refine lex.pure (v := .bool false) (pu_assign rfl) ?_
  refine lex.nil ?_
  refine hK1 _ _ ?_
  refine Wc.seqJ (fun E wv => ∃ (ms_0 : List Nat), E 0 = .int .i64 nx_0 ∧ E 3 = .pointer (some ⟨g2, 0, none⟩) ∧ E 4 = .bool false ∧ E.ms = ms_0 ∧ Cx (fun _ => False) O0 w wv ([.box g2 5 [.int .u8 stop_1]] ++ marksF ms_0) ∧ F.law30_PermAll_j0 n nx_0 stop_1 = some r) (fun K5 hK5 => ?_) ?_
  ·
    skip
    refine Wc.seq fun K6 hK6 => ?_
    refine Wc.region (by decide +kernel) ?_
    obtain ⟨y7, h8, hb⟩ := bd hb
    refine lex.cl (⟨_, _, op_call (vs := []) Try.call10 rfl rfl rfl, law30_awake_ok n hC.lt  h8⟩) ?_
    rintro _ w9 ⟨rfl, hK⟩
    replace hC := hC.merge hK
    clear hK
    replace hC : Cx (fun _ => False) O0 w w9 ([.box g2 5 [.int .u8 stop_1]] ++ marksF ([] : List Nat)) := hC
    refine lex.pure (v := .bool (!y7)) (pu_not (q := y7) rfl) ?_
    refine lex.pure (v := .bool (!y7)) (pu_move rfl) ?_
    rcases bS (!y7) with hq10 | hq10
    · replace hb := (cT hq10).symm.trans hb
      refine lex.gskip (want_f rfl rfl (show _ = Value.bool (!y7) from rfl) hq10) ?_
      refine lex.gskip (want_f rfl rfl (show _ = Value.bool (!y7) from rfl) hq10) ?_
      refine lex.gskip (want_f rfl rfl (show _ = Value.bool (!y7) from rfl) hq10) ?_
      refine lex.gskip (want_n rfl rfl rfl) ?_
      refine lex.gskip (want_n rfl rfl rfl) ?_
      refine lex.gskip (want_f rfl rfl (show _ = Value.bool (!y7) from rfl) hq10) ?_
      refine lex.pure (v := .bool true) (pu_pickT (q := (!y7)) rfl hq10 rfl) ?_
      refine lex.nil ?_
      refine hK6 _ _ ?_
      refine Wc.cond_true (rfl) ?_
      refine Wc.seq fun K11 hK11 => ?_
      refine Wc.region (by decide +kernel) ?_
      obtain ⟨y12, h13, hb⟩ := bd hb
      refine lex.cl (⟨_, _, op_call (vs := []) Try.call10 rfl rfl rfl, law30_awake_ok n hC.lt  h13⟩) ?_
      rintro _ w14 ⟨rfl, hK⟩
      replace hC := hC.merge hK
      clear hK
      replace hC : Cx (fun _ => False) O0 w w14 ([.box g2 5 [.int .u8 stop_1]] ++ marksF ([] : List Nat)) := hC
      refine lex.pure (v := .bool y12) (pu_assign rfl) ?_
      refine lex.nil ?_
      refine hK11 _ _ ?_
      obtain rfl := Option.some.inj hb
      refine Wc.ret ?_
      replace hC : Cx (fun _ => False) O0 w w14 (marksF ([] : List Nat) ++ [.box g2 5 [.int .u8 stop_1]]) := hC.perm List.perm_append_comm
      refine hKR _ _ _ _ _ _ _ rfl hC fun w15 hC => ?_
      refine ⟨_, res1 Try.results3 (show RV _ _ _ (.tmp _) (.bool y12) from rfl), _, rfl, rfl, hC.sel [] (by decide)⟩
    · replace hb := (cF hq10).symm.trans hb
      refine lex.gpure (want_t rfl rfl (show _ = Value.bool (!y7) from rfl) hq10) (v := .int .i64 nx_0) (pu_move rfl) ?_
      refine lex.gpure (want_t rfl rfl (show _ = Value.bool (!y7) from rfl) hq10) (v := .bool (decide (5 < nx_0))) (pu_gtr (k := .i64) (a := nx_0) (b := 5) rfl rfl) ?_
      refine lex.gpure (want_t rfl rfl (show _ = Value.bool (!y7) from rfl) hq10) (v := .bool (decide (5 < nx_0))) (pu_move rfl) ?_
      rcases bS (decide (5 < nx_0)) with hq16 | hq16
      · replace hb := (cT hq16).symm.trans hb
        refine lex.gpure (want_t rfl rfl (show _ = Value.bool (decide (5 < nx_0)) from rfl) hq16) (v := .int .i64 nx_0) (pu_move rfl) ?_
        refine lex.gpure (want_t rfl rfl (show _ = Value.bool (decide (5 < nx_0)) from rfl) hq16) (v := .bool (decide (nx_0 ≤ 8))) (pu_leq (k := .i64) (a := nx_0) (b := 8) rfl rfl) ?_
        refine lex.gpure (want_t rfl rfl (show _ = Value.bool (!y7) from rfl) hq10) (v := .bool (decide (nx_0 ≤ 8))) (pu_pickT (q := (decide (5 < nx_0))) rfl hq16 rfl) ?_
        refine lex.pure (v := .bool (decide (nx_0 ≤ 8))) (pu_pickF (q := (!y7)) rfl hq10 rfl) ?_
        refine lex.nil ?_
        refine hK6 _ _ ?_
        refine Wc.fresh fun E17 hE => ?_
        have e0 : E17 0 = .int .i64 nx_0 := (congrFun hE 0).trans rfl
        have e3 : E17 3 = .pointer (some ⟨g2, 0, none⟩) := (congrFun hE 3).trans rfl
        have e4 : E17 4 = .bool false := (congrFun hE 4).trans rfl
        have e20 : E17 20 = .bool (decide (nx_0 ≤ 8)) := (congrFun hE 20).trans rfl
        clear hE
        refine Wc.cond (t := (decide (nx_0 ≤ 8))) (e20) (fun hq18 => ?_) (fun hq18 => ?_)
        · replace hb := (cT hq18).symm.trans hb
          refine Wc.seq fun K19 hK19 => ?_
          refine Wc.region (by decide +kernel) ?_
          obtain ⟨y20, h21, hb⟩ := bd hb
          refine lex.cl (⟨_, _, op_call (vs := []) Try.call10 rfl rfl rfl, law30_awake_ok n hC.lt  h21⟩) ?_
          rintro _ w22 ⟨rfl, hK⟩
          replace hC := hC.merge hK
          clear hK
          replace hC : Cx (fun _ => False) O0 w w22 ([.box g2 5 [.int .u8 stop_1]] ++ marksF ([] : List Nat)) := hC
          refine lex.pure (v := .bool y20) (pu_assign rfl) ?_
          refine lex.nil ?_
          refine hK19 _ _ ?_
          obtain rfl := Option.some.inj hb
          refine Wc.ret ?_
          replace hC : Cx (fun _ => False) O0 w w22 (marksF ([] : List Nat) ++ [.box g2 5 [.int .u8 stop_1]]) := hC.perm List.perm_append_comm
          refine hKR _ _ _ _ _ _ _ rfl hC fun w23 hC => ?_
          refine ⟨_, res1 Try.results3 (show RV _ _ _ (.tmp _) (.bool y20) from rfl), _, rfl, rfl, hC.sel [] (by decide)⟩
        · replace hb := (cF hq18).symm.trans hb
          refine Wc.skip ?_
          exact hK5 _ _ ⟨([] : List Nat), e0, e3, e4, rfl, hC.selT [0] (by decide), hb⟩
      · replace hb := (cF hq16).symm.trans hb
        refine lex.gskip (want_f rfl rfl (show _ = Value.bool (decide (5 < nx_0)) from rfl) hq16) ?_
        refine lex.gskip (want_f rfl rfl (show _ = Value.bool (decide (5 < nx_0)) from rfl) hq16) ?_
        refine lex.gpure (want_t rfl rfl (show _ = Value.bool (!y7) from rfl) hq10) (v := .bool false) (pu_pickF (q := (decide (5 < nx_0))) rfl hq16 rfl) ?_
        refine lex.pure (v := .bool false) (pu_pickF (q := (!y7)) rfl hq10 rfl) ?_
        refine lex.nil ?_
        refine hK6 _ _ ?_
        refine Wc.fresh fun E24 hE => ?_
        have e0 : E24 0 = .int .i64 nx_0 := (congrFun hE 0).trans rfl
        have e3 : E24 3 = .pointer (some ⟨g2, 0, none⟩) := (congrFun hE 3).trans rfl
        have e4 : E24 4 = .bool false := (congrFun hE 4).trans rfl
        have e20 : E24 20 = .bool false := (congrFun hE 20).trans rfl
        clear hE
        refine Wc.cond_false (e20) ?_
        refine Wc.skip ?_
        exact hK5 _ _ ⟨([] : List Nat), e0, e3, e4, rfl, hC.selT [0] (by decide), hb⟩
  · clear hb hC
    rintro E26 w25 ⟨ms_0, e0, e3, e4, hms, hC, hb⟩
    unfold F.law30_PermAll_j0 at hb
    refine Wc.seq fun K27 hK27 => ?_
    refine Wc.region (by decide +kernel) ?_
    replace hC : Cx (fun _ => False) O0 w w25 ([.box g2 5 [.int .u8 stop_1]] ++ marksF ms_0) := hC
    refine lex.pure (v := .slice none 0 0) (pu_assign rfl) ?_
    refine lex.nil ?_
    refine hK27 _ _ ?_
    refine Wc.seqJ (fun E wv => ∃ (ms_1 : List Nat) (l5_1 : List (List Int)) (Al5_1 : Option Addr) (ml5_1 cl5_1 : Nat), E 0 = .int .i64 nx_0 ∧ E 3 = .pointer (some ⟨g2, 0, none⟩) ∧ E 4 = .bool false ∧ E 5 = .slice Al5_1 ml5_1 cl5_1 ∧ E.ms = ms_1 ∧ Cx (fun _ => False) O0 w wv ([.box g2 5 [.int .u8 stop_1], .own 28 (.sl (.int .i64)) (.slice Al5_1 ml5_1 cl5_1) l5_1] ++ marksF ms_1) ∧ F.law30_PermAll_j1 n nx_0 stop_1 l5_1 = some r) (fun K28 hK28 => ?_) ?_
    ·
      skip
      refine Wc.seq fun K29 hK29 => ?_
      refine Wc.region (by decide +kernel) ?_
      refine lex.pure (v := .int .i64 nx_0) (pu_move e0) ?_
      refine lex.pure (v := .bool (decide (0 ≤ nx_0))) (pu_geq (k := .i64) (a := nx_0) (b := 0) rfl rfl) ?_
      refine lex.pure (v := .bool (decide (0 ≤ nx_0))) (pu_move rfl) ?_
      rcases bS (decide (0 ≤ nx_0)) with hq30 | hq30
      · replace hb := (cT hq30).symm.trans hb
        refine lex.gpure (want_t rfl rfl (show _ = Value.bool (decide (0 ≤ nx_0)) from rfl) hq30) (v := .int .i64 nx_0) (pu_move e0) ?_
        refine lex.gpure (want_t rfl rfl (show _ = Value.bool (decide (0 ≤ nx_0)) from rfl) hq30) (v := .bool (decide (nx_0 ≤ 8))) (pu_leq (k := .i64) (a := nx_0) (b := 8) rfl rfl) ?_
        refine lex.pure (v := .bool (decide (nx_0 ≤ 8))) (pu_pickT (q := (decide (0 ≤ nx_0))) rfl hq30 rfl) ?_
        refine lex.nil ?_
        refine hK29 _ _ ?_
        refine Wc.cond (t := (decide (nx_0 ≤ 8))) (rfl) (fun hq31 => ?_) (fun hq31 => ?_)
        · replace hb := (cT hq31).symm.trans hb
          refine Wc.region (by decide +kernel) ?_
          refine lex.pure (v := .int .i64 nx_0) (pu_move e0) ?_
          obtain ⟨y32, h33, hb⟩ := bd hb
          refine lex.cl (⟨_, _, op_call (vs := [.int .i64 nx_0, .slice none 0 0]) Try.call11 rfl rfl rfl, ref30_All_ok n hC.lt hnx_0 ((show Rep _ _ (.sl (.int .i64)) [.slice none 0 0] ([] : List Int) from ⟨none, 0, rfl, Nat.le_refl _, by omega, fun h => absurd h (by simp)⟩)) h33⟩) ?_
          rintro _ w38 ⟨A34, m35, c36, rfl, hK⟩
          replace hC := hC.merge hK
          clear hK
          obtain ⟨rfl, hl39, hc40⟩ := (hC.ow (i := 0) rfl).sl_len
          replace hC : Cx (fun _ => False) O0 w w38 ([.own 28 (.sl (.int .i64)) (.slice A34 y32.length c36) y32, .box g2 5 [.int .u8 stop_1]] ++ marksF ms_0) := hC
          refine lex.pure (v := .slice A34 y32.length c36) (pu_assign rfl) ?_
          refine lex.nil ?_
          exact hK28 _ _ ⟨ms_0, y32, A34, y32.length, c36, e0, e3, e4, rfl, hms, hC.selT [1, 0] (by decide), hb⟩
        · replace hb := (cF hq31).symm.trans hb
          refine Wc.skip ?_
          replace hC := hC.nil 28 (.sl (.int .i64))
          replace hC : Cx (fun _ => False) O0 w w25 ([.own 28 (.sl (.int .i64)) (.slice none 0 0) ([] : List (List Int)), .box g2 5 [.int .u8 stop_1]] ++ marksF ms_0) := hC
          exact hK28 _ _ ⟨ms_0, ([] : List (List Int)), none, 0, 0, e0, e3, e4, rfl, hms, hC.selT [1, 0] (by decide), hb⟩
      · replace hb := (cF hq30).symm.trans hb
        refine lex.gskip (want_f rfl rfl (show _ = Value.bool (decide (0 ≤ nx_0)) from rfl) hq30) ?_
        refine lex.gskip (want_f rfl rfl (show _ = Value.bool (decide (0 ≤ nx_0)) from rfl) hq30) ?_
        refine lex.pure (v := .bool false) (pu_pickF (q := (decide (0 ≤ nx_0))) rfl hq30 rfl) ?_
        refine lex.nil ?_
        refine hK29 _ _ ?_
        refine Wc.cond_false (rfl) ?_
        refine Wc.skip ?_
        replace hC := hC.nil 28 (.sl (.int .i64))
        replace hC : Cx (fun _ => False) O0 w w25 ([.own 28 (.sl (.int .i64)) (.slice none 0 0) ([] : List (List Int)), .box g2 5 [.int .u8 stop_1]] ++ marksF ms_0) := hC
        exact hK28 _ _ ⟨ms_0, ([] : List (List Int)), none, 0, 0, e0, e3, e4, rfl, hms, hC.selT [1, 0] (by decide), hb⟩
    · clear hb hC
      rintro E44 w43 ⟨ms_1, l5_1, Al5_1, ml5_1, cl5_1, e0, e3, e4, e5, hms, hC, hb⟩
      unfold F.law30_PermAll_j1 at hb
      obtain ⟨rfl, hll5_1, hcl5_1⟩ := (hC.ow (i := 1) rfl).sl_len
      refine Wc.seq fun K45 hK45 => ?_
      refine Wc.region (by decide +kernel) ?_
      replace hC : Cx (fun _ => False) O0 w w43 ([.box g2 5 [.int .u8 stop_1], .own 28 (.sl (.int .i64)) (.slice Al5_1 l5_1.length cl5_1) l5_1] ++ marksF ms_1) := hC
      refine lex.op (hC.alloc (cs := [.slice none 0 0]) Try.zeroValue23 rfl) ?_
      rintro _ w47 ⟨g46, rfl, hC, hF, hG⟩
      clear hG
      refine lex.nil ?_
      refine hK45 _ _ ?_
      refine Wc.seq fun K49 hK49 => ?_
      refine Wc.region (by decide +kernel) ?_
      replace hC : Cx (fun _ => False) O0 w w47 ([.box g46 23 [.slice none 0 0], .box g2 5 [.int .u8 stop_1], .own 28 (.sl (.int .i64)) (.slice Al5_1 l5_1.length cl5_1) l5_1] ++ marksF ms_1) := hC
      refine lex.pure (v := .int .i64 nx_0) (pu_move e0) ?_
      refine lex.cl (⟨_, _, op_call (vs := [.int .i64 nx_0]) Try.call12 rfl rfl rfl, perm_All_ok hC.lt⟩) ?_
      rintro _ w52 ⟨g50, rfl, hK⟩
      replace hC := hC.merge hK
      clear hK
      replace hC : Cx (fun _ => False) O0 w w52 ([.box g50 3 [.int .i64 nx_0], .box g46 23 [.slice none 0 0], .box g2 5 [.int .u8 stop_1], .own 28 (.sl (.int .i64)) (.slice Al5_1 l5_1.length cl5_1) l5_1] ++ marksF ms_1) := hC
      refine lex.pure (v := .func (.func 40) #[] #[.pointer (some ⟨g50, 0, none⟩)]) (pu_assign rfl) ?_
      refine lex.nil ?_
      refine hK49 _ _ ?_
      refine Wc.seq fun K53 hK53 => ?_
      refine Wc.seq fun K54 hK54 => ?_
      refine Wc.region (by decide +kernel) ?_
      refine lex.pure (v := .func (.func 40) #[] #[.pointer (some ⟨g50, 0, none⟩)]) (pu_move rfl) ?_
      refine lex.pure (v := .bool false) (pu_eqlfn Try.underlying26 rfl rfl) ?_
      refine lex.nil ?_
      refine hK54 _ _ ?_
      refine Wc.cond_false (rfl) ?_
      refine Wc.skip ?_
      refine hK53 _ _ ?_
      refine Wc.seq fun K55 hK55 => ?_
      refine Wc.seq fun K56 hK56 => ?_
      refine Wc.region (by decide +kernel) ?_
      refine lex.pure (v := .func (.func 40) #[] #[.pointer (some ⟨g50, 0, none⟩)]) (pu_move rfl) ?_
      refine lex.nil ?_
      refine hK56 _ _ ?_
      replace hC := hC.nil 28 (.sl (.int .i64))
      obtain ⟨o58, hl2, hb⟩ := bd hb
      refine Wc.cut (fun E wv => ∃ (ms_2 : List Nat) (kf48_0_2 : List (List Int)) (Akf48_0_2 : Option Addr) (mkf48_0_2 ckf48_0_2 : Nat), E 3 = .pointer (some ⟨g2, 0, none⟩) ∧ E 4 = .bool false ∧ E 5 = .slice Al5_1 l5_1.length cl5_1 ∧ E 6 = .pointer (some ⟨g46, 0, none⟩) ∧ E 7 = .func (.func 40) #[] #[.pointer (some ⟨g50, 0, none⟩)] ∧ E.ms = ms_2 ∧ Cx (fun _ => False) O0 w wv ([.box g2 5 [.int .u8 stop_1], .own 28 (.sl (.int .i64)) (.slice Al5_1 l5_1.length cl5_1) l5_1, .box g46 23 [.slice Akf48_0_2 mkf48_0_2 ckf48_0_2], .own 28 (.sl (.int .i64)) (.slice Akf48_0_2 mkf48_0_2 ckf48_0_2) kf48_0_2, .box g50 3 [.int .i64 nx_0]] ++ marksF ms_2) ∧ (((F.perm_All_c1 ((F.law30_PermAll_b4 n stop_1) : List Int → Int → Option ((Int) ⊕ (Int))) n 0 nx_0).bind fun o133 => match lr o133 with     | bf129_0_4 => (F.ref01_Lists n kf48_0_2 l5_1).bind fun y154 => cond y154 (some (decide (bf129_0_4 = (min stop_1 (l5_1.length : Int))))) (some false)) : Option (Bool)) = some r) (fun K59 hK59 => ?_) ?_
      · refine Wc.block ?_
        replace hC : Cx (fun _ => False) O0 w w52 ([.own 28 (.sl (.int .i64)) (.slice none 0 0) ([] : List (List Int)), .box g50 3 [.int .i64 nx_0], .box g46 23 [.slice none 0 0], .box g2 5 [.int .u8 stop_1], .own 28 (.sl (.int .i64)) (.slice Al5_1 l5_1.length cl5_1) l5_1] ++ marksF ms_1) := hC
        replace hC := hC.selT [1, 3, 4, 2, 0] (by decide)
        replace hC : Cx (fun _ => False) O0 w w52 ([.box g50 3 [.int .i64 nx_0]] ++ ([.box g2 5 [.int .u8 stop_1], .own 28 (.sl (.int .i64)) (.slice Al5_1 l5_1.length cl5_1) l5_1, .box g46 23 [.slice none 0 0], .own 28 (.sl (.int .i64)) (.slice none 0 0) ([] : List (List Int))] ++ marksF ms_1)) := hC
        refine Wc.rangeF (fun s L => ∃ (kf48_0_2 : List (List Int)) (Akf48_0_2 : Option Addr) (mkf48_0_2 ckf48_0_2 : Nat), kf48_0_2 = s ∧ L = ([.box g2 5 [.int .u8 stop_1], .own 28 (.sl (.int .i64)) (.slice Al5_1 l5_1.length cl5_1) l5_1, .box g46 23 [.slice Akf48_0_2 mkf48_0_2 ckf48_0_2], .own 28 (.sl (.int .i64)) (.slice Akf48_0_2 mkf48_0_2 ckf48_0_2) kf48_0_2] ++ marksF ms_1)) (fun _ _ => False) ([] : List Nat) (fun _ => some 0) rfl Try.call40 (perm_All_c1_it n ((F.law30_PermAll_b2 n) : List Int → (List (List Int)) → Option (((List (List Int))) ⊕ ((List (List Int))))) hnx_0) rfl (by decide) (fun v => [(35, v)]) (fun v => by simp) hC ⟨([] : List (List Int)), none, 0, 0, rfl, rfl⟩ hl2 _ (fun l v W => Wc.region (by decide +kernel) (lex.pure (v := v) (pu_assign rfl) (lex.nil ⟨rfl, rfl⟩))) ?_ ?_ ?_ ?_
        · have hbK2 := hb
          clear hb hC hl2
          rintro s63 o62 x_2 Ax_2 cx_2 l64 D65 oB66 oK67 L Tp w60 ⟨kf48_0_2, Akf48_0_2, mkf48_0_2, ckf48_0_2, rfl, rfl⟩ hb hC Kn Kr Kx hKn hKr hKx
          unfold F.law30_PermAll_b2 at hb
          replace hC : Cx (fun _ => False) O0 w w60 (([.own 3 (.int .i64) (.slice Ax_2 x_2.length cx_2) x_2, .obj l64 oB66, .obj D65 oK67, .box g2 5 [.int .u8 stop_1], .own 28 (.sl (.int .i64)) (.slice Al5_1 l5_1.length cl5_1) l5_1, .box g46 23 [.slice Akf48_0_2 mkf48_0_2 ckf48_0_2], .own 28 (.sl (.int .i64)) (.slice Akf48_0_2 mkf48_0_2 ckf48_0_2) kf48_0_2] ++ marksF ms_1) ++ Tp) := hC
          replace hC := hC.assoc
          refine Wc.fresh fun E61 hE => ?_
          have e3 : E61 3 = .pointer (some ⟨g2, 0, none⟩) := (congrFun hE 3).trans e3
          have e4 : E61 4 = .bool false := (congrFun hE 4).trans e4
          have e5 : E61 5 = .slice Al5_1 l5_1.length cl5_1 := (congrFun hE 5).trans e5
          have e6 : E61 6 = .pointer (some ⟨g46, 0, none⟩) := (congrFun hE 6).trans rfl
          have e8 : E61 8 = .slice Ax_2 x_2.length cx_2 := congrFun hE 8
          have e35 : E61 35 = .slice Ax_2 x_2.length cx_2 := congrFun hE 35
          clear hE
          obtain ⟨rfl, hlkf48_0_2, hckf48_0_2⟩ := (hC.ow (i := 6) rfl).sl_len
          obtain ⟨-, hlx_2, hcx_2⟩ := (hC.ow (i := 0) rfl).sl_len
          refine Wc.block ?_
          refine Wc.seq fun K70 hK70 => ?_
          refine Wc.regionMix [] (frm [] [.own 28 (.sl (.int .i64)) (.slice Akf48_0_2 kf48_0_2.length ckf48_0_2) kf48_0_2] [.box g46 23 [.slice Akf48_0_2 kf48_0_2.length ckf48_0_2]]) (fun _ => rfl) mixed (by decide +kernel) (by decide +kernel) fun w72 hw71 => ?_
          replace hC := hC.step (Fr.of_drew hw71)
          have hM := Fr.refl (fun k => k ∈ blocks [.own 28 (.sl (.int .i64)) (.slice Akf48_0_2 kf48_0_2.length ckf48_0_2) kf48_0_2]) w72
          clear hw71
          have hS := hC
          have hBFf48_0_2 : Beside [.own 28 (.sl (.int .i64)) (.slice Akf48_0_2 kf48_0_2.length ckf48_0_2) kf48_0_2] w72 (.slice Akf48_0_2 kf48_0_2.length ckf48_0_2) := Beside.of (i := 0) rfl
          have hD : Fr (fun k => k ∈ blocks ([.own 28 (.sl (.int .i64)) (.slice Akf48_0_2 kf48_0_2.length ckf48_0_2) kf48_0_2] ++ [.box g46 23 [.slice Akf48_0_2 kf48_0_2.length ckf48_0_2]])) w72 w72 := hM.wide
          have hUFf48_0_2 : Beside ([.own 28 (.sl (.int .i64)) (.slice Akf48_0_2 kf48_0_2.length ckf48_0_2) kf48_0_2] ++ [.box g46 23 [.slice Akf48_0_2 kf48_0_2.length ckf48_0_2]]) w72 (.slice Akf48_0_2 kf48_0_2.length ckf48_0_2) := Beside.of (i := 0) rfl
          have hUf48 : g46 < w72.heap.size → g46 ∈ blocks ([.own 28 (.sl (.int .i64)) (.slice Akf48_0_2 kf48_0_2.length ckf48_0_2) kf48_0_2] ++ [.box g46 23 [.slice Akf48_0_2 kf48_0_2.length ckf48_0_2]]) := fun _ => box_in (i := 1) rfl
          replace hC : Cx (fun _ => False) O0 w w72 ([.own 3 (.int .i64) (.slice Ax_2 x_2.length cx_2) x_2, .obj l64 oB66, .obj D65 oK67, .box g2 5 [.int .u8 stop_1], .own 28 (.sl (.int .i64)) (.slice Al5_1 l5_1.length cl5_1) l5_1, .box g46 23 [.slice Akf48_0_2 kf48_0_2.length ckf48_0_2], .own 28 (.sl (.int .i64)) (.slice Akf48_0_2 kf48_0_2.length ckf48_0_2) kf48_0_2] ++ (marksF ms_1 ++ Tp)) := hC
          refine mixE.load hM (v := .slice Akf48_0_2 kf48_0_2.length ckf48_0_2) (fun _ hF => ld_one Try.isAgg23 e6 ((hS.bx2 (i := 5) rfl [6] (by decide) hF).cell (j := 0) rfl)) ?_
          refine mixE.op hM (hC.lit (s := (.int .i64)) (vs := []) (xs := []) Try.underlying28 Try.type3 rfl rfl (Nat.le_of_ble_eq_true rfl) rfl rfl (by simp [Value.cells, Sh.n]) rfl (show Elems _ _ (.int .i64) ([]) ([] : List Int) from Elems.nil _ _ _)) ?_
          rintro _ w77 ⟨A73, c74, rfl, hl75, hc76, hC, hF, hN⟩
          have hBf78 := Beside.new hM hN
          have hUf78 := Beside.new (hM.wide (H := [.box g46 23 [.slice Akf48_0_2 kf48_0_2.length ckf48_0_2]])) hN
          replace hM := hM.none hF
          replace hD := hM.wide (H := [.box g46 23 [.slice Akf48_0_2 kf48_0_2.length ckf48_0_2]])
          refine ⟨hM, ?_⟩
          clear hF hN
          replace hC : Cx (fun _ => False) O0 w w77 ([.own 3 (.int .i64) (.slice A73 ((([] : List Int)).length) c74) ([] : List Int), .own 3 (.int .i64) (.slice Ax_2 x_2.length cx_2) x_2, .obj l64 oB66, .obj D65 oK67, .box g2 5 [.int .u8 stop_1], .own 28 (.sl (.int .i64)) (.slice Al5_1 l5_1.length cl5_1) l5_1, .box g46 23 [.slice Akf48_0_2 kf48_0_2.length ckf48_0_2], .own 28 (.sl (.int .i64)) (.slice Akf48_0_2 kf48_0_2.length ckf48_0_2) kf48_0_2] ++ (marksF ms_1 ++ Tp)) := hC
          refine mixE.pure (v := .slice Ax_2 x_2.length cx_2) (pu_move e8) ?_
          obtain ⟨u79, h80, hb⟩ := bd hb
          refine mixE.op hM (hC.app (i := 0) (s := (.int .i64)) (xs := ([] : List Int)) (ys := x_2) (m := x_2.length) rfl Try.underlying28 Try.underlying29 Try.type3 rfl rfl rfl (hC.srco (i := 1) rfl) rfl rfl (by have := lim_some h80; simp at this ⊢ <;> omega) (by decide)) ?_
          rintro _ w85 ⟨A81, c82, rfl, hl83, hc84, hC, hF, hN⟩
          have hB := hBf78
          replace hBf78 := hB.app hM hN
          replace hM := hM.beside hB hF
          clear hB
          replace hD := hM.wide (H := [.box g46 23 [.slice Akf48_0_2 kf48_0_2.length ckf48_0_2]])
          refine ⟨hM, ?_⟩
          clear hF hN
          replace hC : Cx (fun _ => False) O0 w w85 ([.own 3 (.int .i64) (.slice A81 ((([] : List Int) ++ x_2).length) c82) (([] : List Int) ++ x_2), .own 3 (.int .i64) (.slice Ax_2 x_2.length cx_2) x_2, .obj l64 oB66, .obj D65 oK67, .box g2 5 [.int .u8 stop_1], .own 28 (.sl (.int .i64)) (.slice Al5_1 l5_1.length cl5_1) l5_1, .box g46 23 [.slice Akf48_0_2 kf48_0_2.length ckf48_0_2], .own 28 (.sl (.int .i64)) (.slice Akf48_0_2 kf48_0_2.length ckf48_0_2) kf48_0_2] ++ (marksF ms_1 ++ Tp)) := hC
          replace hC := hC.freeze (i := 0) rfl (hC.own_new (i := 0) rfl)
          refine mixE.op hM (hC.lit (s := (.sl (.int .i64))) (vs := [.slice A81 ((([] : List Int) ++ x_2).length) c82]) (xs := [(([] : List Int) ++ x_2)]) Try.underlying23 Try.type28 rfl rfl (Nat.le_of_ble_eq_true rfl) rfl rfl (by simp [Value.cells, Sh.n]) rfl (show Elems _ _ (.sl (.int .i64)) ([.slice A81 ((([] : List Int) ++ x_2).length) c82] ++ ([])) ([(([] : List Int) ++ x_2)] : List (List Int)) from Elems.cons (hC.rd (i := 0) rfl) (Elems.nil _ _ _))) ?_
          rintro _ w90 ⟨A86, c87, rfl, hl88, hc89, hC, hF, hN⟩
          have hBf91 := Beside.new hM hN
          have hUf91 := Beside.new (hM.wide (H := [.box g46 23 [.slice Akf48_0_2 kf48_0_2.length ckf48_0_2]])) hN
          replace hM := hM.none hF
          replace hD := hM.wide (H := [.box g46 23 [.slice Akf48_0_2 kf48_0_2.length ckf48_0_2]])
          refine ⟨hM, ?_⟩
          clear hF hN
          replace hC : Cx (fun _ => False) O0 w w90 ([.own 28 (.sl (.int .i64)) (.slice A86 ((([(([] : List Int) ++ x_2)] : List (List Int))).length) c87) ([(([] : List Int) ++ x_2)] : List (List Int)), .ro (.sl (.int .i64)) [.slice A81 ((([] : List Int) ++ x_2).length) c82] (([] : List Int) ++ x_2), .own 3 (.int .i64) (.slice Ax_2 x_2.length cx_2) x_2, .obj l64 oB66, .obj D65 oK67, .box g2 5 [.int .u8 stop_1], .own 28 (.sl (.int .i64)) (.slice Al5_1 l5_1.length cl5_1) l5_1, .box g46 23 [.slice Akf48_0_2 kf48_0_2.length ckf48_0_2], .own 28 (.sl (.int .i64)) (.slice Akf48_0_2 kf48_0_2.length ckf48_0_2) kf48_0_2] ++ (marksF ms_1 ++ Tp)) := hC
          obtain ⟨u92, h93, hb⟩ := bd hb
          refine mixE.op hM (hC.app (i := 8) (s := (.sl (.int .i64))) (xs := kf48_0_2) (ys := ([(([] : List Int) ++ x_2)] : List (List Int))) (m := ((([(([] : List Int) ++ x_2)] : List (List Int))).length)) rfl Try.underlying23 Try.underlying23 Try.type28 rfl rfl rfl (hC.srco (i := 0) rfl) rfl rfl (by have := lim_some h93; simp at this ⊢ <;> omega) (by decide)) ?_
          rintro _ w98 ⟨A94, c95, rfl, hl96, hc97, hC, hF, hN⟩
          have hB := hBFf48_0_2
          replace hBFf48_0_2 := hB.app hM hN
          replace hM := hM.beside hB hF
          clear hB
          replace hD := hM.wide (H := [.box g46 23 [.slice Akf48_0_2 kf48_0_2.length ckf48_0_2]])
          refine ⟨hM, ?_⟩
          clear hF hN
          replace hC : Cx (fun _ => False) O0 w w98 ([.own 28 (.sl (.int .i64)) (.slice A86 ((([(([] : List Int) ++ x_2)] : List (List Int))).length) c87) ([(([] : List Int) ++ x_2)] : List (List Int)), .ro (.sl (.int .i64)) [.slice A81 ((([] : List Int) ++ x_2).length) c82] (([] : List Int) ++ x_2), .own 3 (.int .i64) (.slice Ax_2 x_2.length cx_2) x_2, .obj l64 oB66, .obj D65 oK67, .box g2 5 [.int .u8 stop_1], .own 28 (.sl (.int .i64)) (.slice Al5_1 l5_1.length cl5_1) l5_1, .box g46 23 [.slice Akf48_0_2 kf48_0_2.length ckf48_0_2], .own 28 (.sl (.int .i64)) (.slice A94 ((kf48_0_2 ++ ([(([] : List Int) ++ x_2)] : List (List Int))).length) c95) (kf48_0_2 ++ ([(([] : List Int) ++ x_2)] : List (List Int)))] ++ (marksF ms_1 ++ Tp)) := hC
          refine mixE.sk hD (hC.setf (i := 7) (k := 0) (v := .slice A94 ((kf48_0_2 ++ ([(([] : List Int) ++ x_2)] : List (List Int))).length) c95) rfl Try.sizeOf23 rfl (by rw [Addr.add_zero']; exact e6) rfl rfl) ?_
          rintro w99 ⟨hC, hF⟩
          replace hD := hD.besideG hUf48 hF
          clear hF
          refine ⟨hD, ?_⟩
          refine mixE.nil ?_
          clear hS hM
          clear hD
          refine hK70 _ _ ?_
          refine Wc.seq fun K100 hK100 => ?_
          refine Wc.region (by decide +kernel) ?_
          replace hC : Cx (fun _ => False) O0 w w99 ([.own 28 (.sl (.int .i64)) (.slice A86 ((([(([] : List Int) ++ x_2)] : List (List Int))).length) c87) ([(([] : List Int) ++ x_2)] : List (List Int)), .ro (.sl (.int .i64)) [.slice A81 ((([] : List Int) ++ x_2).length) c82] (([] : List Int) ++ x_2), .own 3 (.int .i64) (.slice Ax_2 x_2.length cx_2) x_2, .obj l64 oB66, .obj D65 oK67, .box g2 5 [.int .u8 stop_1], .own 28 (.sl (.int .i64)) (.slice Al5_1 l5_1.length cl5_1) l5_1, .box g46 23 [.slice A94 ((kf48_0_2 ++ ([(([] : List Int) ++ x_2)] : List (List Int))).length) c95], .own 28 (.sl (.int .i64)) (.slice A94 ((kf48_0_2 ++ ([(([] : List Int) ++ x_2)] : List (List Int))).length) c95) (kf48_0_2 ++ ([(([] : List Int) ++ x_2)] : List (List Int)))] ++ (marksF ms_1 ++ Tp)) := hC
          refine lex.pure (v := .slice Ax_2 x_2.length cx_2) (pu_move e8) ?_
          refine lex.pure (v := .int .i64 (x_2.length : Int)) (pu_len (A := Ax_2) (n := x_2.length) (m := cx_2) Try.underlying29 rfl) ?_
          refine lex.pure (v := .int .i64 0) (pu_move rfl) ?_
          refine lex.nil ?_
          refine hK100 _ _ ?_
          obtain ⟨o101, hl3, hb⟩ := bd hb
          refine Wc.cut (fun E wv => ∃ (v44_3 : Int) (qR_2_3 : List Int), E 3 = .pointer (some ⟨g2, 0, none⟩) ∧ E 4 = .bool false ∧ E 5 = .slice Al5_1 l5_1.length cl5_1 ∧ E 6 = .pointer (some ⟨g46, 0, none⟩) ∧ E 8 = .slice Ax_2 x_2.length cx_2 ∧ E 43 = .int .i64 (x_2.length : Int) ∧ E 44 = .int .i64 v44_3 ∧ I64 v44_3 ∧ Cx (fun _ => False) O0 w wv ([.box g2 5 [.int .u8 stop_1], .own 28 (.sl (.int .i64)) (.slice Al5_1 l5_1.length cl5_1) l5_1, .box g46 23 [.slice A94 ((kf48_0_2 ++ ([(([] : List Int) ++ x_2)] : List (List Int))).length) c95], .own 28 (.sl (.int .i64)) (.slice A94 ((kf48_0_2 ++ ([(([] : List Int) ++ x_2)] : List (List Int))).length) c95) (kf48_0_2 ++ ([(([] : List Int) ++ x_2)] : List (List Int))), .own 3 (.int .i64) (.slice Ax_2 x_2.length cx_2) qR_2_3, .obj l64 oB66, .obj D65 oK67] ++ (marksF ms_1 ++ Tp)) ∧ (some (.inl (kf48_0_2 ++ ([(([] : List Int) ++ x_2)] : List (List Int)))) : Option (((List (List Int))) ⊕ ((List (List Int))))) = some o62) (fun K102 hK102 => ?_) ?_
          · refine Wc.block ?_
            refine Wc.loop (fun m E wv => ∃ (v44_3 : Int) (qR_2_3 : List Int), E 3 = .pointer (some ⟨g2, 0, none⟩) ∧ E 4 = .bool false ∧ E 5 = .slice Al5_1 l5_1.length cl5_1 ∧ E 6 = .pointer (some ⟨g46, 0, none⟩) ∧ E 8 = .slice Ax_2 x_2.length cx_2 ∧ E 43 = .int .i64 (x_2.length : Int) ∧ E 44 = .int .i64 v44_3 ∧ I64 v44_3 ∧ Cx (fun _ => False) O0 w wv ([.box g2 5 [.int .u8 stop_1], .own 28 (.sl (.int .i64)) (.slice Al5_1 l5_1.length cl5_1) l5_1, .box g46 23 [.slice A94 ((kf48_0_2 ++ ([(([] : List Int) ++ x_2)] : List (List Int))).length) c95], .own 28 (.sl (.int .i64)) (.slice A94 ((kf48_0_2 ++ ([(([] : List Int) ++ x_2)] : List (List Int))).length) c95) (kf48_0_2 ++ ([(([] : List Int) ++ x_2)] : List (List Int))), .own 3 (.int .i64) (.slice Ax_2 x_2.length cx_2) qR_2_3, .obj l64 oB66, .obj D65 oK67] ++ (marksF ms_1 ++ Tp)) ∧ loopN m (F.law30_PermAll_b3 n x_2) (v44_3, qR_2_3) = some o101) n ⟨0, x_2, e3, e4, e5, e6, e8, rfl, rfl, (show I64 0 from by unfold I64; omega), hC.selT [5, 6, 7, 8, 2, 3, 4] (by decide), hl3⟩ ?_
            have hbK3 := hb
            clear hb hC hl3
            rintro m104 E106 w105 ⟨v44_3, qR_2_3, e3, e4, e5, e6, e8, e43, e44, hrv44_3, hC, hl3⟩ K103 hK103
            obtain ⟨m104', o107, rfl, hb, hl3⟩ := loopN_some hl3
            unfold F.law30_PermAll_b3 at hb
            refine Wc.seq fun K108 hK108 => ?_
            refine Wc.region (by decide +kernel) ?_
            replace hC : Cx (fun _ => False) O0 w w105 ([.box g2 5 [.int .u8 stop_1], .own 28 (.sl (.int .i64)) (.slice Al5_1 l5_1.length cl5_1) l5_1, .box g46 23 [.slice A94 ((kf48_0_2 ++ ([(([] : List Int) ++ x_2)] : List (List Int))).length) c95], .own 28 (.sl (.int .i64)) (.slice A94 ((kf48_0_2 ++ ([(([] : List Int) ++ x_2)] : List (List Int))).length) c95) (kf48_0_2 ++ ([(([] : List Int) ++ x_2)] : List (List Int))), .own 3 (.int .i64) (.slice Ax_2 x_2.length cx_2) qR_2_3, .obj l64 oB66, .obj D65 oK67] ++ (marksF ms_1 ++ Tp)) := hC
            refine lex.pure (v := .bool (decide (v44_3 < (x_2.length : Int)))) (pu_lss (k := .i64) (a := v44_3) (b := (x_2.length : Int)) e44 e43) ?_
            refine lex.nil ?_
            refine hK108 _ _ ?_
            refine Wc.seq fun K109 hK109 => ?_
            refine Wc.cond (t := (decide (v44_3 < (x_2.length : Int)))) (rfl) (fun hq110 => ?_) (fun hq110 => ?_)
            · replace hb := (cT hq110).symm.trans hb
              refine Wc.skip ?_
              refine hK109 _ _ ?_
              refine Wc.seq fun K111 hK111 => ?_
              refine Wc.block ?_
              refine Wc.seq fun K112 hK112 => ?_
              refine Wc.region (by decide +kernel) ?_
              refine lex.pure (v := .int .i64 v44_3) (pu_move e44) ?_
              refine lex.pure (v := .int .i64 v44_3) (pu_assign rfl) ?_
              refine lex.nil ?_
              refine hK112 _ _ ?_
              refine Wc.region (by decide +kernel) ?_
              refine lex.pure (v := .slice Ax_2 x_2.length cx_2) (pu_move e8) ?_
              refine lex.pure (v := .int .i64 v44_3) (pu_move rfl) ?_
              obtain ⟨x113, h114, hb⟩ := bd hb
              obtain ⟨ad115, cs116, hA, hc117, hr118⟩ := hC.elo (i := 4) rfl (get_some h114).2
              subst hA
              refine lex.pure (v := .pointer (some (ad115.add (v44_3.toNat * 1)))) (pu_index (a := v44_3) Try.underlying29 Try.sizeOf3 rfl rfl (by rw [(hC.ow (i := 4) rfl).sl_len.1]; exact (get_some h114).1)) ?_
              replace hC : Cx (fun _ => False) O0 w w105 ([.box g2 5 [.int .u8 stop_1], .own 28 (.sl (.int .i64)) (.slice Al5_1 l5_1.length cl5_1) l5_1, .box g46 23 [.slice A94 ((kf48_0_2 ++ ([(([] : List Int) ++ x_2)] : List (List Int))).length) c95], .own 28 (.sl (.int .i64)) (.slice A94 ((kf48_0_2 ++ ([(([] : List Int) ++ x_2)] : List (List Int))).length) c95) (kf48_0_2 ++ ([(([] : List Int) ++ x_2)] : List (List Int))), .own 3 (.int .i64) (.slice (some ad115) x_2.length cx_2) qR_2_3, .obj l64 oB66, .obj D65 oK67] ++ (marksF ms_1 ++ Tp)) := hC
              refine lex.sk (hC.put (i := 4) rfl rfl Try.sizeOf3 (k := v44_3.toNat) (a := (-7)) (by have := (get_some h114).1; simp at this ⊢; omega) (⟨rfl, I64.wr (show I64 (-7) from by unfold I64; omega)⟩) rfl rfl rfl) ?_
              rintro w119 ⟨hC, hF⟩
              refine lex.nil ?_
              refine hK111 _ _ ?_
              refine Wc.region (by decide +kernel) ?_
              replace hC : Cx (fun _ => False) O0 w w119 ([.box g2 5 [.int .u8 stop_1], .own 28 (.sl (.int .i64)) (.slice Al5_1 l5_1.length cl5_1) l5_1, .box g46 23 [.slice A94 ((kf48_0_2 ++ ([(([] : List Int) ++ x_2)] : List (List Int))).length) c95], .own 28 (.sl (.int .i64)) (.slice A94 ((kf48_0_2 ++ ([(([] : List Int) ++ x_2)] : List (List Int))).length) c95) (kf48_0_2 ++ ([(([] : List Int) ++ x_2)] : List (List Int))), .own 3 (.int .i64) (.slice (some ad115) x_2.length cx_2) (qR_2_3.set v44_3.toNat (-7)), .obj l64 oB66, .obj D65 oK67] ++ (marksF ms_1 ++ Tp)) := hC
              obtain ⟨z120, h121, hb⟩ := bd hb
              refine lex.pure (v := .int .i64 z120) (pu_addc (a := v44_3) (b := 1) e44 rfl h121) ?_
              refine lex.pure (v := .int .i64 z120) (pu_move rfl) ?_
              refine lex.nil ?_
              obtain rfl := Option.some.inj hb
              exact hK103 m104' _ _ (Nat.lt_succ_self _) ⟨z120, (qR_2_3.set v44_3.toNat (-7)), e3, e4, e5, e6, e8, e43, rfl, (chk_rng h121), hC.selT [0, 1, 2, 3, 4, 5, 6] (by decide), lN hl3⟩
            · replace hb := (cF hq110).symm.trans hb
              refine Wc.exit rfl ?_
              obtain rfl := Option.some.inj hb
              obtain rfl := (lX hl3).symm
              exact hK102 _ _ ⟨v44_3, qR_2_3, e3, e4, e5, e6, e8, e43, e44, hrv44_3, hC.selT [0, 1, 2, 3, 4, 5, 6] (by decide), hbK3⟩
          · clear hb hC hl3
            rintro E123 w122 ⟨v44_3, qR_2_3, e3, e4, e5, e6, e8, e43, e44, hrv44_3, hC, hb⟩
            obtain rfl := Option.some.inj hb
            replace hC : Cx (fun _ => False) O0 w w122 ([.box g2 5 [.int .u8 stop_1], .own 28 (.sl (.int .i64)) (.slice Al5_1 l5_1.length cl5_1) l5_1, .box g46 23 [.slice A94 ((kf48_0_2 ++ ([(([] : List Int) ++ x_2)] : List (List Int))).length) c95], .own 28 (.sl (.int .i64)) (.slice A94 ((kf48_0_2 ++ ([(([] : List Int) ++ x_2)] : List (List Int))).length) c95) (kf48_0_2 ++ ([(([] : List Int) ++ x_2)] : List (List Int))), .own 3 (.int .i64) (.slice Ax_2 x_2.length cx_2) qR_2_3, .obj l64 oB66, .obj D65 oK67] ++ (marksF ms_1 ++ Tp)) := hC
            replace hC := hC.selT [5, 6, 0, 1, 2, 3] (by decide)
            replace hC : Cx (fun _ => False) O0 w w122 ([.obj l64 oB66, .obj D65 oK67, .box g2 5 [.int .u8 stop_1], .own 28 (.sl (.int .i64)) (.slice Al5_1 l5_1.length cl5_1) l5_1, .box g46 23 [.slice A94 ((kf48_0_2 ++ ([(([] : List Int) ++ x_2)] : List (List Int))).length) c95], .own 28 (.sl (.int .i64)) (.slice A94 ((kf48_0_2 ++ ([(([] : List Int) ++ x_2)] : List (List Int))).length) c95) (kf48_0_2 ++ ([(([] : List Int) ++ x_2)] : List (List Int)))] ++ (marksF ms_1 ++ Tp)) := hC
            exact hKn _ _ _ _ rfl ⟨(kf48_0_2 ++ ([(([] : List Int) ++ x_2)] : List (List Int))), A94, (kf48_0_2 ++ ([(([] : List Int) ++ x_2)] : List (List Int))).length, c95, rfl, rfl⟩ hC.assoc'
        · rintro s D_2 L wv rfl ⟨kf48_0_2, Akf48_0_2, mkf48_0_2, ckf48_0_2, rfl, rfl⟩ hC
          replace hC : Cx (fun _ => False) O0 w wv (.obj D_2 (.deferred (some [])) :: ([.box g50 3 [.int .i64 nx_0]] ++ ([.box g2 5 [.int .u8 stop_1], .own 28 (.sl (.int .i64)) (.slice Al5_1 l5_1.length cl5_1) l5_1, .box g46 23 [.slice Akf48_0_2 mkf48_0_2 ckf48_0_2], .own 28 (.sl (.int .i64)) (.slice Akf48_0_2 mkf48_0_2 ckf48_0_2) kf48_0_2] ++ marksF ms_1))) := hC
          replace hC := hC.markF
          replace hC : Cx (fun _ => False) O0 w wv ([.box g50 3 [.int .i64 nx_0], .box g2 5 [.int .u8 stop_1], .own 28 (.sl (.int .i64)) (.slice Al5_1 l5_1.length cl5_1) l5_1, .box g46 23 [.slice Akf48_0_2 mkf48_0_2 ckf48_0_2], .own 28 (.sl (.int .i64)) (.slice Akf48_0_2 mkf48_0_2 ckf48_0_2) kf48_0_2] ++ marksF (D_2 :: ms_1)) := hC
          obtain ⟨rfl, hlkf48_0_2, hckf48_0_2⟩ := (hC.ow (i := 4) rfl).sl_len
          replace hC : Cx (fun _ => False) O0 w wv ([.box g50 3 [.int .i64 nx_0], .box g2 5 [.int .u8 stop_1], .own 28 (.sl (.int .i64)) (.slice Al5_1 l5_1.length cl5_1) l5_1, .box g46 23 [.slice Akf48_0_2 kf48_0_2.length ckf48_0_2], .own 28 (.sl (.int .i64)) (.slice Akf48_0_2 kf48_0_2.length ckf48_0_2) kf48_0_2] ++ marksF (D_2 :: ms_1)) := hC
          exact hK59 _ _ ⟨(D_2 :: ms_1), kf48_0_2, Akf48_0_2, kf48_0_2.length, ckf48_0_2, e3, e4, e5, rfl, rfl, (congrArg (List.cons _) hms), hC.selT [1, 2, 3, 4, 0] (by decide), hb⟩
        · exact fun _ _ _ _ _ h => by cases h
        · exact fun _ _ _ _ _ _ _ _ h => h.elim
      · clear hb hC hl2
        rintro E125 w124 ⟨ms_2, kf48_0_2, Akf48_0_2, mkf48_0_2, ckf48_0_2, e3, e4, e5, e6, e7, hms, hC, hb⟩
        obtain ⟨rfl, hlkf48_0_2, hckf48_0_2⟩ := (hC.ow (i := 3) rfl).sl_len
        refine hK55 _ _ ?_
        refine Wc.seq fun K126 hK126 => ?_
        refine Wc.region (by decide +kernel) ?_
        replace hC : Cx (fun _ => False) O0 w w124 ([.box g2 5 [.int .u8 stop_1], .own 28 (.sl (.int .i64)) (.slice Al5_1 l5_1.length cl5_1) l5_1, .box g46 23 [.slice Akf48_0_2 kf48_0_2.length ckf48_0_2], .own 28 (.sl (.int .i64)) (.slice Akf48_0_2 kf48_0_2.length ckf48_0_2) kf48_0_2, .box g50 3 [.int .i64 nx_0]] ++ marksF ms_2) := hC
        refine lex.op (hC.alloc (cs := [.int .i64 0]) Try.zeroValue3 rfl) ?_
        rintro _ w128 ⟨g127, rfl, hC, hF, hG⟩
        clear hG
        replace hC : Cx (fun _ => False) O0 w w128 ([.box g127 3 [.int .i64 0], .box g2 5 [.int .u8 stop_1], .own 28 (.sl (.int .i64)) (.slice Al5_1 l5_1.length cl5_1) l5_1, .box g46 23 [.slice Akf48_0_2 kf48_0_2.length ckf48_0_2], .own 28 (.sl (.int .i64)) (.slice Akf48_0_2 kf48_0_2.length ckf48_0_2) kf48_0_2, .box g50 3 [.int .i64 nx_0]] ++ marksF ms_2) := hC
        refine lex.sk (hC.setf (i := 0) (k := 0) (v := .int .i64 0) rfl Try.sizeOf3 rfl (by rw [Addr.add_zero']; exact rfl) rfl rfl) ?_
        rintro w130 ⟨hC, hF⟩
        refine lex.nil ?_
        refine hK126 _ _ ?_
        refine Wc.seq fun K131 hK131 => ?_
        refine Wc.seq fun K132 hK132 => ?_
        refine Wc.region (by decide +kernel) ?_
        replace hC : Cx (fun _ => False) O0 w w130 ([.box g127 3 [.int .i64 0], .box g2 5 [.int .u8 stop_1], .own 28 (.sl (.int .i64)) (.slice Al5_1 l5_1.length cl5_1) l5_1, .box g46 23 [.slice Akf48_0_2 kf48_0_2.length ckf48_0_2], .own 28 (.sl (.int .i64)) (.slice Akf48_0_2 kf48_0_2.length ckf48_0_2) kf48_0_2, .box g50 3 [.int .i64 nx_0]] ++ marksF ms_2) := hC
        refine lex.pure (v := .func (.func 40) #[] #[.pointer (some ⟨g50, 0, none⟩)]) (pu_move e7) ?_
        refine lex.nil ?_
        refine hK132 _ _ ?_
        obtain ⟨o133, hl4, hb⟩ := bd hb
        refine Wc.cut (fun E wv => ∃ (ms_4 : List Nat) (bf129_0_4 : Int), E 3 = .pointer (some ⟨g2, 0, none⟩) ∧ E 4 = .bool false ∧ E 5 = .slice Al5_1 l5_1.length cl5_1 ∧ E 6 = .pointer (some ⟨g46, 0, none⟩) ∧ E 10 = .pointer (some ⟨g127, 0, none⟩) ∧ I64 bf129_0_4 ∧ E.ms = ms_4 ∧ Cx (fun _ => False) O0 w wv ([.box g2 5 [.int .u8 stop_1], .own 28 (.sl (.int .i64)) (.slice Al5_1 l5_1.length cl5_1) l5_1, .box g46 23 [.slice Akf48_0_2 kf48_0_2.length ckf48_0_2], .own 28 (.sl (.int .i64)) (.slice Akf48_0_2 kf48_0_2.length ckf48_0_2) kf48_0_2, .box g127 3 [.int .i64 bf129_0_4]] ++ marksF ms_4) ∧ ((F.ref01_Lists n kf48_0_2 l5_1).bind fun y154 => cond y154 (some (decide (bf129_0_4 = (min stop_1 (l5_1.length : Int))))) (some false) : Option (Bool)) = some r) (fun K134 hK134 => ?_) ?_
        · refine Wc.block ?_
          replace hC := hC.selT [5, 1, 2, 3, 4, 0] (by decide)
          replace hC : Cx (fun _ => False) O0 w w130 ([.box g50 3 [.int .i64 nx_0]] ++ ([.box g2 5 [.int .u8 stop_1], .own 28 (.sl (.int .i64)) (.slice Al5_1 l5_1.length cl5_1) l5_1, .box g46 23 [.slice Akf48_0_2 kf48_0_2.length ckf48_0_2], .own 28 (.sl (.int .i64)) (.slice Akf48_0_2 kf48_0_2.length ckf48_0_2) kf48_0_2, .box g127 3 [.int .i64 0]] ++ marksF ms_2)) := hC
          refine Wc.rangeF (fun s L => ∃ (bf129_0_4 : Int), I64 bf129_0_4 ∧ bf129_0_4 = s ∧ L = ([.box g2 5 [.int .u8 stop_1], .own 28 (.sl (.int .i64)) (.slice Al5_1 l5_1.length cl5_1) l5_1, .box g46 23 [.slice Akf48_0_2 kf48_0_2.length ckf48_0_2], .own 28 (.sl (.int .i64)) (.slice Akf48_0_2 kf48_0_2.length ckf48_0_2) kf48_0_2, .box g127 3 [.int .i64 bf129_0_4]] ++ marksF ms_2)) (fun s L => ∃ (bf129_0_4 : Int), I64 bf129_0_4 ∧ bf129_0_4 = s ∧ L = ([.box g2 5 [.int .u8 stop_1], .own 28 (.sl (.int .i64)) (.slice Al5_1 l5_1.length cl5_1) l5_1, .box g46 23 [.slice Akf48_0_2 kf48_0_2.length ckf48_0_2], .own 28 (.sl (.int .i64)) (.slice Akf48_0_2 kf48_0_2.length ckf48_0_2) kf48_0_2, .box g127 3 [.int .i64 bf129_0_4]] ++ marksF ms_2)) [4] (fun _ => some 4) rfl Try.call40 (perm_All_c1_it n ((F.law30_PermAll_b4 n stop_1) : List Int → Int → Option ((Int) ⊕ (Int))) hnx_0) rfl (by decide) (fun v => [(52, v)]) (fun v => by simp) hC ⟨0, (show I64 0 from by unfold I64; omega), rfl, rfl⟩ hl4 _ (fun l v W => Wc.skip ⟨rfl, rfl⟩) ?_ ?_ ?_ ?_
          · have hbK4 := hb
            clear hb hC hl4
            rintro s138 o137 x_4 Ax_4 cx_4 l139 D140 oB141 oK142 L Tp w135 ⟨bf129_0_4, hrbf129_0_4, rfl, rfl⟩ hb hC Kn Kr Kx hKn hKr hKx
            unfold F.law30_PermAll_b4 at hb
            replace hC : Cx (fun _ => False) O0 w w135 (([.own 3 (.int .i64) (.slice Ax_4 x_4.length cx_4) x_4, .obj l139 oB141, .obj D140 oK142, .box g2 5 [.int .u8 stop_1], .own 28 (.sl (.int .i64)) (.slice Al5_1 l5_1.length cl5_1) l5_1, .box g46 23 [.slice Akf48_0_2 kf48_0_2.length ckf48_0_2], .own 28 (.sl (.int .i64)) (.slice Akf48_0_2 kf48_0_2.length ckf48_0_2) kf48_0_2, .box g127 3 [.int .i64 bf129_0_4]] ++ marksF ms_2) ++ Tp) := hC
            replace hC := hC.assoc
            refine Wc.fresh fun E136 hE => ?_
            have e3 : E136 3 = .pointer (some ⟨g2, 0, none⟩) := (congrFun hE 3).trans e3
            have e4 : E136 4 = .bool false := (congrFun hE 4).trans e4
            have e5 : E136 5 = .slice Al5_1 l5_1.length cl5_1 := (congrFun hE 5).trans e5
            have e6 : E136 6 = .pointer (some ⟨g46, 0, none⟩) := (congrFun hE 6).trans e6
            have e10 : E136 10 = .pointer (some ⟨g127, 0, none⟩) := (congrFun hE 10).trans rfl
            have e52 : E136 52 = .slice Ax_4 x_4.length cx_4 := congrFun hE 52
            clear hE
            obtain ⟨-, hlx_4, hcx_4⟩ := (hC.ow (i := 0) rfl).sl_len
            refine Wc.block ?_
            refine Wc.seq fun K145 hK145 => ?_
            refine Wc.seq fun K146 hK146 => ?_
            refine Wc.region (by decide +kernel) ?_
            replace hC : Cx (fun _ => False) O0 w w135 ([.own 3 (.int .i64) (.slice Ax_4 x_4.length cx_4) x_4, .obj l139 oB141, .obj D140 oK142, .box g2 5 [.int .u8 stop_1], .own 28 (.sl (.int .i64)) (.slice Al5_1 l5_1.length cl5_1) l5_1, .box g46 23 [.slice Akf48_0_2 kf48_0_2.length ckf48_0_2], .own 28 (.sl (.int .i64)) (.slice Akf48_0_2 kf48_0_2.length ckf48_0_2) kf48_0_2, .box g127 3 [.int .i64 bf129_0_4]] ++ (marksF ms_2 ++ Tp)) := hC
            refine lex.val (v := .int .i64 bf129_0_4) (ld_one Try.isAgg3 e10 ((hC.bx (i := 7) rfl).cell (j := 0) rfl)) ?_
            refine lex.val (v := .int .u8 stop_1) (ld_one Try.isAgg5 e3 ((hC.bx (i := 3) rfl).cell (j := 0) rfl)) ?_
            refine lex.pure (v := .int .i64 stop_1) (pu_conv (k := .u8) (a := stop_1) Try.underlying5 Try.underlying3 rfl (small_u8 hstop_1).wr) ?_
            refine lex.pure (v := .bool (decide (bf129_0_4 = stop_1))) (pu_eql (k := .i64) (a := bf129_0_4) (b := stop_1) rfl rfl) ?_
            refine lex.nil ?_
            refine hK146 _ _ ?_
            refine Wc.cond (t := (decide (bf129_0_4 = stop_1))) (rfl) (fun hq147 => ?_) (fun hq147 => ?_)
            · replace hb := (cT hq147).symm.trans hb
              refine Wc.exit rfl ?_
              obtain rfl := Option.some.inj hb
              replace hC := hC.selT [1, 2, 3, 4, 5, 6, 7] (by decide)
              replace hC : Cx (fun _ => False) O0 w w135 ([.obj l139 oB141, .obj D140 oK142, .box g2 5 [.int .u8 stop_1], .own 28 (.sl (.int .i64)) (.slice Al5_1 l5_1.length cl5_1) l5_1, .box g46 23 [.slice Akf48_0_2 kf48_0_2.length ckf48_0_2], .own 28 (.sl (.int .i64)) (.slice Akf48_0_2 kf48_0_2.length ckf48_0_2) kf48_0_2, .box g127 3 [.int .i64 bf129_0_4]] ++ (marksF ms_2 ++ Tp)) := hC
              exact hKx _ _ _ _ _ rfl rfl ⟨bf129_0_4, hrbf129_0_4, rfl, rfl⟩ hC.assoc'
            · replace hb := (cF hq147).symm.trans hb
              refine Wc.skip ?_
              refine hK145 _ _ ?_
              refine Wc.region (by decide +kernel) ?_
              refine lex.val (v := .int .i64 bf129_0_4) (ld_one Try.isAgg3 e10 ((hC.bx (i := 7) rfl).cell (j := 0) rfl)) ?_
              obtain ⟨z148, h149, hb⟩ := bd hb
              refine lex.pure (v := .int .i64 z148) (pu_addc (a := bf129_0_4) (b := 1) rfl rfl h149) ?_
              refine lex.sk (hC.setf (i := 7) (k := 0) (v := .int .i64 z148) rfl Try.sizeOf3 rfl (by rw [Addr.add_zero']; exact e10) rfl rfl) ?_
              rintro w150 ⟨hC, hF⟩
              refine lex.nil ?_
              obtain rfl := Option.some.inj hb
              replace hC : Cx (fun _ => False) O0 w w150 ([.own 3 (.int .i64) (.slice Ax_4 x_4.length cx_4) x_4, .obj l139 oB141, .obj D140 oK142, .box g2 5 [.int .u8 stop_1], .own 28 (.sl (.int .i64)) (.slice Al5_1 l5_1.length cl5_1) l5_1, .box g46 23 [.slice Akf48_0_2 kf48_0_2.length ckf48_0_2], .own 28 (.sl (.int .i64)) (.slice Akf48_0_2 kf48_0_2.length ckf48_0_2) kf48_0_2, .box g127 3 [.int .i64 z148]] ++ (marksF ms_2 ++ Tp)) := hC
              replace hC := hC.selT [1, 2, 3, 4, 5, 6, 7] (by decide)
              replace hC : Cx (fun _ => False) O0 w w150 ([.obj l139 oB141, .obj D140 oK142, .box g2 5 [.int .u8 stop_1], .own 28 (.sl (.int .i64)) (.slice Al5_1 l5_1.length cl5_1) l5_1, .box g46 23 [.slice Akf48_0_2 kf48_0_2.length ckf48_0_2], .own 28 (.sl (.int .i64)) (.slice Akf48_0_2 kf48_0_2.length ckf48_0_2) kf48_0_2, .box g127 3 [.int .i64 z148]] ++ (marksF ms_2 ++ Tp)) := hC
              exact hKn _ _ _ _ rfl ⟨z148, (chk_rng h149), rfl, rfl⟩ hC.assoc'
          · rintro s D_4 L wv rfl ⟨bf129_0_4, hrbf129_0_4, rfl, rfl⟩ hC
            replace hC : Cx (fun _ => False) O0 w wv (.obj D_4 (.deferred (some [])) :: ([.box g50 3 [.int .i64 nx_0]] ++ ([.box g2 5 [.int .u8 stop_1], .own 28 (.sl (.int .i64)) (.slice Al5_1 l5_1.length cl5_1) l5_1, .box g46 23 [.slice Akf48_0_2 kf48_0_2.length ckf48_0_2], .own 28 (.sl (.int .i64)) (.slice Akf48_0_2 kf48_0_2.length ckf48_0_2) kf48_0_2, .box g127 3 [.int .i64 bf129_0_4]] ++ marksF ms_2))) := hC
            replace hC := hC.markF
            replace hC : Cx (fun _ => False) O0 w wv ([.box g50 3 [.int .i64 nx_0], .box g2 5 [.int .u8 stop_1], .own 28 (.sl (.int .i64)) (.slice Al5_1 l5_1.length cl5_1) l5_1, .box g46 23 [.slice Akf48_0_2 kf48_0_2.length ckf48_0_2], .own 28 (.sl (.int .i64)) (.slice Akf48_0_2 kf48_0_2.length ckf48_0_2) kf48_0_2, .box g127 3 [.int .i64 bf129_0_4]] ++ marksF (D_4 :: ms_2)) := hC
            replace hC : Cx (fun _ => False) O0 w wv ([.box g50 3 [.int .i64 nx_0], .box g2 5 [.int .u8 stop_1], .own 28 (.sl (.int .i64)) (.slice Al5_1 l5_1.length cl5_1) l5_1, .box g46 23 [.slice Akf48_0_2 kf48_0_2.length ckf48_0_2], .own 28 (.sl (.int .i64)) (.slice Akf48_0_2 kf48_0_2.length ckf48_0_2) kf48_0_2, .box g127 3 [.int .i64 bf129_0_4]] ++ marksF (D_4 :: ms_2)) := hC
            exact hK134 _ _ ⟨(D_4 :: ms_2), bf129_0_4, e3, e4, e5, e6, rfl, hrbf129_0_4, (congrArg (List.cons _) hms), hC.selT [1, 2, 3, 4, 5] (by decide), hb⟩
          · exact fun _ _ _ _ _ h => by cases h
          · rintro s id D_4 L wv rfl hxc hid ⟨bf129_0_4, hrbf129_0_4, rfl, rfl⟩ hC
            obtain rfl := List.mem_singleton.1 hid
            replace hC : Cx (fun _ => False) O0 w wv (.obj D_4 (.deferred (some [])) :: ([.box g50 3 [.int .i64 nx_0]] ++ ([.box g2 5 [.int .u8 stop_1], .own 28 (.sl (.int .i64)) (.slice Al5_1 l5_1.length cl5_1) l5_1, .box g46 23 [.slice Akf48_0_2 kf48_0_2.length ckf48_0_2], .own 28 (.sl (.int .i64)) (.slice Akf48_0_2 kf48_0_2.length ckf48_0_2) kf48_0_2, .box g127 3 [.int .i64 bf129_0_4]] ++ marksF ms_2))) := hC
            replace hC := hC.markF
            replace hC : Cx (fun _ => False) O0 w wv ([.box g50 3 [.int .i64 nx_0], .box g2 5 [.int .u8 stop_1], .own 28 (.sl (.int .i64)) (.slice Al5_1 l5_1.length cl5_1) l5_1, .box g46 23 [.slice Akf48_0_2 kf48_0_2.length ckf48_0_2], .own 28 (.sl (.int .i64)) (.slice Akf48_0_2 kf48_0_2.length ckf48_0_2) kf48_0_2, .box g127 3 [.int .i64 bf129_0_4]] ++ marksF (D_4 :: ms_2)) := hC
            replace hC : Cx (fun _ => False) O0 w wv ([.box g50 3 [.int .i64 nx_0], .box g2 5 [.int .u8 stop_1], .own 28 (.sl (.int .i64)) (.slice Al5_1 l5_1.length cl5_1) l5_1, .box g46 23 [.slice Akf48_0_2 kf48_0_2.length ckf48_0_2], .own 28 (.sl (.int .i64)) (.slice Akf48_0_2 kf48_0_2.length ckf48_0_2) kf48_0_2, .box g127 3 [.int .i64 bf129_0_4]] ++ marksF (D_4 :: ms_2)) := hC
            exact ⟨_, rfl, hK134 _ _ ⟨(D_4 :: ms_2), bf129_0_4, e3, e4, e5, e6, rfl, hrbf129_0_4, (congrArg (List.cons _) hms), hC.selT [1, 2, 3, 4, 5] (by decide), hb⟩⟩
        · clear hb hC hl4
          rintro E152 w151 ⟨ms_4, bf129_0_4, e3, e4, e5, e6, e10, hrbf129_0_4, hms, hC, hb⟩
          refine hK131 _ _ ?_
          refine Wc.seq fun K153 hK153 => ?_
          refine Wc.region (by decide +kernel) ?_
          replace hC : Cx (fun _ => False) O0 w w151 ([.box g2 5 [.int .u8 stop_1], .own 28 (.sl (.int .i64)) (.slice Al5_1 l5_1.length cl5_1) l5_1, .box g46 23 [.slice Akf48_0_2 kf48_0_2.length ckf48_0_2], .own 28 (.sl (.int .i64)) (.slice Akf48_0_2 kf48_0_2.length ckf48_0_2) kf48_0_2, .box g127 3 [.int .i64 bf129_0_4]] ++ marksF ms_4) := hC
          refine lex.val (v := .slice Akf48_0_2 kf48_0_2.length ckf48_0_2) (ld_one Try.isAgg23 e6 ((hC.bx (i := 2) rfl).cell (j := 0) rfl)) ?_
          refine lex.pure (v := .slice Al5_1 l5_1.length cl5_1) (pu_move e5) ?_
          obtain ⟨y154, h155, hb⟩ := bd hb
          refine lex.cl (⟨_, _, op_call (vs := [.slice Akf48_0_2 kf48_0_2.length ckf48_0_2, .slice Al5_1 l5_1.length cl5_1]) Try.call13 rfl rfl rfl, ref01_Lists_ok n (hC.lentLt [.slice Al5_1 l5_1.length cl5_1, .slice Akf48_0_2 kf48_0_2.length ckf48_0_2]) ((hC.ow (i := 3) rfl).lend (vs := [.slice Al5_1 l5_1.length cl5_1, .slice Akf48_0_2 kf48_0_2.length ckf48_0_2]) (by simp)) ((hC.ow (i := 1) rfl).lend (vs := [.slice Al5_1 l5_1.length cl5_1, .slice Akf48_0_2 kf48_0_2.length ckf48_0_2]) (by simp)) h155⟩) ?_
          rintro _ w156 ⟨rfl, hK⟩
          replace hC := hC.mergeF hK rfl
          clear hK
          replace hC : Cx (fun _ => False) O0 w w156 ([.box g2 5 [.int .u8 stop_1], .own 28 (.sl (.int .i64)) (.slice Al5_1 l5_1.length cl5_1) l5_1, .box g46 23 [.slice Akf48_0_2 kf48_0_2.length ckf48_0_2], .own 28 (.sl (.int .i64)) (.slice Akf48_0_2 kf48_0_2.length ckf48_0_2) kf48_0_2, .box g127 3 [.int .i64 bf129_0_4]] ++ marksF ms_4) := hC
          refine lex.pure (v := .bool y154) (pu_move rfl) ?_
          rcases bS y154 with hq157 | hq157
          · replace hb := (cT hq157).symm.trans hb
            refine lex.gval (want_t rfl rfl (show _ = Value.bool y154 from rfl) hq157) (v := .int .i64 bf129_0_4) (ld_one Try.isAgg3 e10 ((hC.bx (i := 4) rfl).cell (j := 0) rfl)) ?_
            refine lex.gval (want_t rfl rfl (show _ = Value.bool y154 from rfl) hq157) (v := .int .u8 stop_1) (ld_one Try.isAgg5 e3 ((hC.bx (i := 0) rfl).cell (j := 0) rfl)) ?_
            refine lex.gpure (want_t rfl rfl (show _ = Value.bool y154 from rfl) hq157) (v := .int .i64 stop_1) (pu_conv (k := .u8) (a := stop_1) Try.underlying5 Try.underlying3 rfl (small_u8 hstop_1).wr) ?_
            refine lex.gpure (want_t rfl rfl (show _ = Value.bool y154 from rfl) hq157) (v := .slice Al5_1 l5_1.length cl5_1) (pu_move e5) ?_
            refine lex.gpure (want_t rfl rfl (show _ = Value.bool y154 from rfl) hq157) (v := .int .i64 (l5_1.length : Int)) (pu_len (A := Al5_1) (n := l5_1.length) (m := cl5_1) Try.underlying23 rfl) ?_
            refine lex.gpure (want_t rfl rfl (show _ = Value.bool y154 from rfl) hq157) (v := .int .i64 (min stop_1 (l5_1.length : Int))) (pu_min (a := stop_1) (b := (l5_1.length : Int)) rfl rfl) ?_
            refine lex.gpure (want_t rfl rfl (show _ = Value.bool y154 from rfl) hq157) (v := .bool (decide (bf129_0_4 = (min stop_1 (l5_1.length : Int))))) (pu_eql (k := .i64) (a := bf129_0_4) (b := (min stop_1 (l5_1.length : Int))) rfl rfl) ?_
            refine lex.pure (v := .bool (decide (bf129_0_4 = (min stop_1 (l5_1.length : Int))))) (pu_pickT (q := y154) rfl hq157 rfl) ?_
            refine lex.pure (v := .bool (decide (bf129_0_4 = (min stop_1 (l5_1.length : Int))))) (pu_assign rfl) ?_
            refine lex.nil ?_
            refine hK153 _ _ ?_
            obtain rfl := Option.some.inj hb
            refine Wc.ret ?_
            replace hC : Cx (fun _ => False) O0 w w156 (marksF ms_4 ++ [.box g2 5 [.int .u8 stop_1], .own 28 (.sl (.int .i64)) (.slice Al5_1 l5_1.length cl5_1) l5_1, .box g46 23 [.slice Akf48_0_2 kf48_0_2.length ckf48_0_2], .own 28 (.sl (.int .i64)) (.slice Akf48_0_2 kf48_0_2.length ckf48_0_2) kf48_0_2, .box g127 3 [.int .i64 bf129_0_4]]) := hC.perm List.perm_append_comm
            refine hKR _ _ _ _ _ _ _ hms hC fun w158 hC => ?_
            refine ⟨_, res1 Try.results3 (show RV _ _ _ (.tmp _) (.bool (decide (bf129_0_4 = (min stop_1 (l5_1.length : Int))))) from rfl), _, rfl, rfl, hC.sel [] (by decide)⟩
          · replace hb := (cF hq157).symm.trans hb
            refine lex.gskip (want_f rfl rfl (show _ = Value.bool y154 from rfl) hq157) ?_
            refine lex.gskip (want_f rfl rfl (show _ = Value.bool y154 from rfl) hq157) ?_
            refine lex.gskip (want_f rfl rfl (show _ = Value.bool y154 from rfl) hq157) ?_
            refine lex.gskip (want_f rfl rfl (show _ = Value.bool y154 from rfl) hq157) ?_
            refine lex.gskip (want_f rfl rfl (show _ = Value.bool y154 from rfl) hq157) ?_
            refine lex.gskip (want_f rfl rfl (show _ = Value.bool y154 from rfl) hq157) ?_
            refine lex.gskip (want_f rfl rfl (show _ = Value.bool y154 from rfl) hq157) ?_
            refine lex.pure (v := .bool false) (pu_pickF (q := y154) rfl hq157 rfl) ?_
            refine lex.pure (v := .bool false) (pu_assign rfl) ?_
            refine lex.nil ?_
            refine hK153 _ _ ?_
            obtain rfl := Option.some.inj hb
            refine Wc.ret ?_
            replace hC : Cx (fun _ => False) O0 w w156 (marksF ms_4 ++ [.box g2 5 [.int .u8 stop_1], .own 28 (.sl (.int .i64)) (.slice Al5_1 l5_1.length cl5_1) l5_1, .box g46 23 [.slice Akf48_0_2 kf48_0_2.length ckf48_0_2], .own 28 (.sl (.int .i64)) (.slice Akf48_0_2 kf48_0_2.length ckf48_0_2) kf48_0_2, .box g127 3 [.int .i64 bf129_0_4]]) := hC.perm List.perm_append_comm
            refine hKR _ _ _ _ _ _ _ hms hC fun w159 hC => ?_
            refine ⟨_, res1 Try.results3 (show RV _ _ _ (.tmp _) (.bool false) from rfl), _, rfl, rfl, hC.sel [] (by decide)⟩
end Go.Proofs.Ytmlkiafidahnbaa
