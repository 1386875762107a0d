/- The walks: part 7. -/
import Derived.Test.YtmlkiafidahnbaaS
set_option linter.unusedVariables false
set_option linter.unusedSimpArgs false
namespace Go.Proofs.Ytmlkiafidahnbaa
open Ev
set_option maxRecDepth 100000 in
set_option maxHeartbeats 4000000 in
theorem ref30_Partition_ok (n : Nat) {w : World} {O0 : List Nat} (hO : ∀ k ∈ O0, k < w.heap.size) {Al_0 : Option Addr} {ml_0 cl_0 : Nat} {l_0 : List Int} (hl_0 : Rep O0 w (.sl (.int .i64)) [.slice Al_0 ml_0 cl_0] l_0) {nx_1 : Int} (hnx_1 : I64 nx_1) {r : Bool} (hb : F.ref30_Partition n l_0 nx_1 = some r) :
    Calls Try.prog 15 #[.slice Al_0 ml_0 cl_0, .int .i64 nx_1] w fun e w' => ∃ v, e = .returned v ∧ v = .bool r ∧ Cx (fun _ => False) O0 w w' [] := by
  unfold F.ref30_Partition at hb
  have hC := Cx.start hO
  replace hC := hC.arg rfl hl_0
  clear hO
  obtain ⟨rfl, hll_0, hcl_0⟩ := hl_0.sl_len
  refine calls_of_Wc Try.func15 rfl (by rw [Try.ntmps15]; exact Nat.le_of_ble_eq_true rfl) fun KR hKR => ?_
  refine Wc.seq fun K2 hK2 => ?_
  refine Wc.region (by decide +kernel) ?_
  refine lex.pure (v := .bool false) (pu_assign rfl) ?_
  refine lex.nil ?_
  refine hK2 _ _ ?_
  refine Wc.seq fun K3 hK3 => ?_
  refine Wc.seq fun K4 hK4 => ?_
  refine Wc.region (by decide +kernel) ?_
  refine lex.pure (v := .int .i64 0) (pu_assign rfl) ?_
  refine lex.nil ?_
  refine hK4 _ _ ?_
  obtain ⟨o5, hl0, hb⟩ := bd hb
  refine Wc.cut (fun E wv => ∃ (v1_0 : Int) (v5_0 : Int), E 1 = .int .i64 v1_0 ∧ E 4 = .bool false ∧ I64 v1_0 ∧ I64 v5_0 ∧ Cx (fun _ => False) O0 w wv [] ∧ (some (decide (v1_0 = 0)) : Option (Bool)) = some r) (fun K6 hK6 => ?_) ?_
  · refine Wc.block ?_
    refine Wc.loop (fun m E wv => ∃ (v1_0 : Int) (v5_0 : Int), E 0 = .slice Al_0 l_0.length cl_0 ∧ E 1 = .int .i64 v1_0 ∧ E 4 = .bool false ∧ E 5 = .int .i64 v5_0 ∧ I64 v1_0 ∧ I64 v5_0 ∧ Cx (fun _ => False) O0 w wv [.ro (.sl (.int .i64)) [.slice Al_0 l_0.length cl_0] l_0] ∧ loopN m (F.ref30_Partition_b0 n l_0) (v1_0, v5_0) = some o5) n ⟨nx_1, 0, rfl, rfl, rfl, rfl, hnx_1, (show I64 0 from by unfold I64; omega), hC.sel [0] (by decide), hl0⟩ ?_
    have hbK0 := hb
    clear hb hC hl0
    rintro m8 E10 w9 ⟨v1_0, v5_0, e0, e1, e4, e5, hrv1_0, hrv5_0, hC, hl0⟩ K7 hK7
    obtain ⟨m8', o11, rfl, hb, hl0⟩ := loopN_some hl0
    unfold F.ref30_Partition_b0 at hb
    refine Wc.seq fun K12 hK12 => ?_
    refine Wc.seq fun K13 hK13 => ?_
    refine Wc.region (by decide +kernel) ?_
    refine lex.pure (v := .int .i64 v5_0) (pu_move e5) ?_
    refine lex.pure (v := .slice Al_0 l_0.length cl_0) (pu_move e0) ?_
    refine lex.pure (v := .int .i64 (l_0.length : Int)) (pu_len (A := Al_0) (n := l_0.length) (m := cl_0) Try.underlying28 rfl) ?_
    refine lex.pure (v := .bool (decide (v5_0 < (l_0.length : Int)))) (pu_lss (k := .i64) (a := v5_0) (b := (l_0.length : Int)) rfl rfl) ?_
    refine lex.nil ?_
    refine hK13 _ _ ?_
    refine Wc.cond (t := (decide (v5_0 < (l_0.length : Int)))) (rfl) (fun hq14 => ?_) (fun hq14 => ?_)
    · replace hb := (cT hq14).symm.trans hb
      refine Wc.skip ?_
      refine hK12 _ _ ?_
      refine Wc.seq fun K15 hK15 => ?_
      refine Wc.block ?_
      refine Wc.seq fun K16 hK16 => ?_
      refine Wc.seq fun K17 hK17 => ?_
      refine Wc.regionMix [] (frm [] ([] : List Fact) ([] : List Fact)) (fun _ => rfl) mixed (by decide +kernel) (by decide +kernel) fun w19 hw18 => ?_
      replace hC := hC.step (Fr.of_drew hw18)
      have hM := Fr.refl (fun k => k ∈ blocks ([] : List Fact)) w19
      clear hw18
      have hS := hC
      refine mixE.pure (v := .slice Al_0 l_0.length cl_0) (pu_move e0) ?_
      refine mixE.pure (v := .int .i64 v5_0) (pu_move e5) ?_
      obtain ⟨x20, h21, hb⟩ := bd hb
      obtain ⟨ad22, cs23, hA, ho26, hc24, hr25⟩ := hS.elr2 (i := 0) rfl (get_some h21).2 []
      subst hA
      refine mixE.pure (v := .pointer (some (ad22.add (v5_0.toNat * 1)))) (pu_index (a := v5_0) Try.underlying28 Try.sizeOf3 rfl rfl (get_some h21).1) ?_
      obtain ⟨rfl, hr25'⟩ := hr25
      refine mixE.load hM (v := .int .i64 x20) (fun _ hF => ld_one Try.isAgg3 rfl (hF.cell (hc24 0 _ rfl) (off1 ho26))) ?_
      refine mixE.pure (v := .bool (decide (x20 < 1))) (pu_lss (k := .i64) (a := x20) (b := 1) rfl rfl) ?_
      refine mixE.pure (v := .bool (decide (x20 < 1))) (pu_move rfl) ?_
      rcases bS (decide (x20 < 1)) with hq27 | hq27
      · replace hb := (cT hq27).symm.trans hb
        refine mixE.gskip (want_f rfl rfl (show _ = Value.bool (decide (x20 < 1)) from rfl) hq27) ?_
        refine mixE.gskip (want_f rfl rfl (show _ = Value.bool (decide (x20 < 1)) from rfl) hq27) ?_
        refine mixE.gskip (want_f rfl rfl (show _ = Value.bool (decide (x20 < 1)) from rfl) hq27) ?_
        refine mixE.gskip (want_f rfl rfl (show _ = Value.bool (decide (x20 < 1)) from rfl) hq27) ?_
        refine mixE.gskip (want_f rfl rfl (show _ = Value.bool (decide (x20 < 1)) from rfl) hq27) ?_
        refine mixE.gskip (want_f rfl rfl (show _ = Value.bool (decide (x20 < 1)) from rfl) hq27) ?_
        refine mixE.pure (v := .bool true) (pu_pickT (q := (decide (x20 < 1))) rfl hq27 rfl) ?_
        refine mixE.pure (v := .bool true) (pu_move rfl) ?_
        refine mixE.gskip (want_f rfl rfl (show _ = Value.bool true from rfl) rfl) ?_
        refine mixE.gskip (want_f rfl rfl (show _ = Value.bool true from rfl) rfl) ?_
        refine mixE.gskip (want_f rfl rfl (show _ = Value.bool true from rfl) rfl) ?_
        refine mixE.gskip (want_n rfl rfl rfl) ?_
        refine mixE.gskip (want_n rfl rfl rfl) ?_
        refine mixE.gskip (want_n rfl rfl rfl) ?_
        refine mixE.gskip (want_n rfl rfl rfl) ?_
        refine mixE.gskip (want_n rfl rfl rfl) ?_
        refine mixE.gskip (want_n rfl rfl rfl) ?_
        refine mixE.gskip (want_n rfl rfl rfl) ?_
        refine mixE.gskip (want_n rfl rfl rfl) ?_
        refine mixE.gskip (want_n rfl rfl rfl) ?_
        refine mixE.gskip (want_n rfl rfl rfl) ?_
        refine mixE.gskip (want_f rfl rfl (show _ = Value.bool true from rfl) rfl) ?_
        refine mixE.pure (v := .bool true) (pu_pickT (q := true) rfl rfl rfl) ?_
        refine mixE.nil ?_
        clear hS hM
        refine hK17 _ _ ?_
        refine Wc.cond_true (rfl) ?_
        refine Wc.seq fun K28 hK28 => ?_
        refine Wc.region (by decide +kernel) ?_
        refine lex.pure (v := .bool false) (pu_assign rfl) ?_
        refine lex.nil ?_
        refine hK28 _ _ ?_
        obtain rfl := Option.some.inj hb
        obtain rfl := (lX hl0).symm
        replace hb := hbK0
        obtain rfl := Option.some.inj hb
        refine Wc.ret ?_
        refine hKR _ _ ?_
        refine ⟨_, res1 Try.results15 (show RV _ _ _ (.tmp _) (.bool false) from rfl), _, rfl, rfl, hC.sel [] (by decide)⟩
      · replace hb := (cF hq27).symm.trans hb
        refine mixE.gpure rfl (want_t rfl rfl (show _ = Value.bool (decide (x20 < 1)) from rfl) hq27) (v := .slice (some ad22) l_0.length cl_0) (pu_move e0) ?_
        refine mixE.gpure rfl (want_t rfl rfl (show _ = Value.bool (decide (x20 < 1)) from rfl) hq27) (v := .int .i64 v5_0) (pu_move e5) ?_
        obtain ⟨x29, h30, hb⟩ := bd hb
        obtain ⟨ad31, cs32, hA, ho35, hc33, hr34⟩ := hS.elr2 (i := 0) rfl (get_some h30).2 []
        obtain rfl := Option.some.inj hA
        refine mixE.gpure rfl (want_t rfl rfl (show _ = Value.bool (decide (x20 < 1)) from rfl) hq27) (v := .pointer (some (ad22.add (v5_0.toNat * 1)))) (pu_index (a := v5_0) Try.underlying28 Try.sizeOf3 rfl rfl (get_some h30).1) ?_
        obtain ⟨rfl, hr34'⟩ := hr34
        refine mixE.gload rfl (want_t rfl rfl (show _ = Value.bool (decide (x20 < 1)) from rfl) hq27) hM (v := .int .i64 x29) (fun _ hF => ld_one Try.isAgg3 rfl (hF.cell (hc33 0 _ rfl) (off1 ho35))) ?_
        refine mixE.gpure rfl (want_t rfl rfl (show _ = Value.bool (decide (x20 < 1)) from rfl) hq27) (v := .int .i64 v1_0) (pu_move e1) ?_
        refine mixE.gpure rfl (want_t rfl rfl (show _ = Value.bool (decide (x20 < 1)) from rfl) hq27) (v := .bool (decide (v1_0 < x29))) (pu_gtr (k := .i64) (a := x29) (b := v1_0) rfl rfl) ?_
        refine mixE.pure (v := .bool (decide (v1_0 < x29))) (pu_pickF (q := (decide (x20 < 1))) rfl hq27 rfl) ?_
        refine mixE.pure (v := .bool (decide (v1_0 < x29))) (pu_move rfl) ?_
        rcases bS (decide (v1_0 < x29)) with hq36 | hq36
        · replace hb := (cT hq36).symm.trans hb
          refine mixE.gskip (want_f rfl rfl (show _ = Value.bool (decide (v1_0 < x29)) from rfl) hq36) ?_
          refine mixE.gskip (want_f rfl rfl (show _ = Value.bool (decide (v1_0 < x29)) from rfl) hq36) ?_
          refine mixE.gskip (want_f rfl rfl (show _ = Value.bool (decide (v1_0 < x29)) from rfl) hq36) ?_
          refine mixE.gskip (want_n rfl rfl rfl) ?_
          refine mixE.gskip (want_n rfl rfl rfl) ?_
          refine mixE.gskip (want_n rfl rfl rfl) ?_
          refine mixE.gskip (want_n rfl rfl rfl) ?_
          refine mixE.gskip (want_n rfl rfl rfl) ?_
          refine mixE.gskip (want_n rfl rfl rfl) ?_
          refine mixE.gskip (want_n rfl rfl rfl) ?_
          refine mixE.gskip (want_n rfl rfl rfl) ?_
          refine mixE.gskip (want_n rfl rfl rfl) ?_
          refine mixE.gskip (want_n rfl rfl rfl) ?_
          refine mixE.gskip (want_f rfl rfl (show _ = Value.bool (decide (v1_0 < x29)) from rfl) hq36) ?_
          refine mixE.pure (v := .bool true) (pu_pickT (q := (decide (v1_0 < x29))) rfl hq36 rfl) ?_
          refine mixE.nil ?_
          clear hS hM
          refine hK17 _ _ ?_
          refine Wc.cond_true (rfl) ?_
          refine Wc.seq fun K37 hK37 => ?_
          refine Wc.region (by decide +kernel) ?_
          refine lex.pure (v := .bool false) (pu_assign rfl) ?_
          refine lex.nil ?_
          refine hK37 _ _ ?_
          obtain rfl := Option.some.inj hb
          obtain rfl := (lX hl0).symm
          replace hb := hbK0
          obtain rfl := Option.some.inj hb
          refine Wc.ret ?_
          refine hKR _ _ ?_
          refine ⟨_, res1 Try.results15 (show RV _ _ _ (.tmp _) (.bool false) from rfl), _, rfl, rfl, hC.sel [] (by decide)⟩
        · replace hb := (cF hq36).symm.trans hb
          refine mixE.gpure rfl (want_t rfl rfl (show _ = Value.bool (decide (v1_0 < x29)) from rfl) hq36) (v := .int .i64 v5_0) (pu_move e5) ?_
          refine mixE.gpure rfl (want_t rfl rfl (show _ = Value.bool (decide (v1_0 < x29)) from rfl) hq36) (v := .bool (decide (0 < v5_0))) (pu_gtr (k := .i64) (a := v5_0) (b := 0) rfl rfl) ?_
          refine mixE.gpure rfl (want_t rfl rfl (show _ = Value.bool (decide (v1_0 < x29)) from rfl) hq36) (v := .bool (decide (0 < v5_0))) (pu_move rfl) ?_
          rcases bS (decide (0 < v5_0)) with hq38 | hq38
          · replace hb := (cT hq38).symm.trans hb
            refine mixE.gpure rfl (want_t rfl rfl (show _ = Value.bool (decide (0 < v5_0)) from rfl) hq38) (v := .slice (some ad22) l_0.length cl_0) (pu_move e0) ?_
            refine mixE.gpure rfl (want_t rfl rfl (show _ = Value.bool (decide (0 < v5_0)) from rfl) hq38) (v := .int .i64 v5_0) (pu_move e5) ?_
            obtain ⟨x39, h40, hb⟩ := bd hb
            obtain ⟨ad41, cs42, hA, ho45, hc43, hr44⟩ := hS.elr2 (i := 0) rfl (get_some h40).2 []
            obtain rfl := Option.some.inj hA
            refine mixE.gpure rfl (want_t rfl rfl (show _ = Value.bool (decide (0 < v5_0)) from rfl) hq38) (v := .pointer (some (ad22.add (v5_0.toNat * 1)))) (pu_index (a := v5_0) Try.underlying28 Try.sizeOf3 rfl rfl (get_some h40).1) ?_
            obtain ⟨rfl, hr44'⟩ := hr44
            refine mixE.gload rfl (want_t rfl rfl (show _ = Value.bool (decide (0 < v5_0)) from rfl) hq38) hM (v := .int .i64 x39) (fun _ hF => ld_one Try.isAgg3 rfl (hF.cell (hc43 0 _ rfl) (off1 ho45))) ?_
            refine mixE.gpure rfl (want_t rfl rfl (show _ = Value.bool (decide (0 < v5_0)) from rfl) hq38) (v := .slice (some ad22) l_0.length cl_0) (pu_move e0) ?_
            refine mixE.gpure rfl (want_t rfl rfl (show _ = Value.bool (decide (0 < v5_0)) from rfl) hq38) (v := .int .i64 v5_0) (pu_move e5) ?_
            obtain ⟨z46, h47, hb⟩ := bd hb
            refine mixE.gpure rfl (want_t rfl rfl (show _ = Value.bool (decide (0 < v5_0)) from rfl) hq38) (v := .int .i64 z46) (pu_subc (a := v5_0) (b := 1) rfl rfl h47) ?_
            obtain ⟨x48, h49, hb⟩ := bd hb
            obtain ⟨ad50, cs51, hA, ho54, hc52, hr53⟩ := hS.elr2 (i := 0) rfl (get_some h49).2 []
            obtain rfl := Option.some.inj hA
            refine mixE.gpure rfl (want_t rfl rfl (show _ = Value.bool (decide (0 < v5_0)) from rfl) hq38) (v := .pointer (some (ad22.add (z46.toNat * 1)))) (pu_index (a := z46) Try.underlying28 Try.sizeOf3 rfl rfl (get_some h49).1) ?_
            obtain ⟨rfl, hr53'⟩ := hr53
            refine mixE.gload rfl (want_t rfl rfl (show _ = Value.bool (decide (0 < v5_0)) from rfl) hq38) hM (v := .int .i64 x48) (fun _ hF => ld_one Try.isAgg3 rfl (hF.cell (hc52 0 _ rfl) (off1 ho54))) ?_
            refine mixE.gpure rfl (want_t rfl rfl (show _ = Value.bool (decide (0 < v5_0)) from rfl) hq38) (v := .bool (decide (x48 < x39))) (pu_gtr (k := .i64) (a := x39) (b := x48) rfl rfl) ?_
            refine mixE.gpure rfl (want_t rfl rfl (show _ = Value.bool (decide (v1_0 < x29)) from rfl) hq36) (v := .bool (decide (x48 < x39))) (pu_pickT (q := (decide (0 < v5_0))) rfl hq38 rfl) ?_
            refine mixE.pure (v := .bool (decide (x48 < x39))) (pu_pickF (q := (decide (v1_0 < x29))) rfl hq36 rfl) ?_
            refine mixE.nil ?_
            clear hS hM
            refine hK17 _ _ ?_
            refine Wc.cond (t := (decide (x48 < x39))) (rfl) (fun hq55 => ?_) (fun hq55 => ?_)
            · replace hb := (cT hq55).symm.trans hb
              refine Wc.seq fun K56 hK56 => ?_
              refine Wc.region (by decide +kernel) ?_
              refine lex.pure (v := .bool false) (pu_assign rfl) ?_
              refine lex.nil ?_
              refine hK56 _ _ ?_
              obtain rfl := Option.some.inj hb
              obtain rfl := (lX hl0).symm
              replace hb := hbK0
              obtain rfl := Option.some.inj hb
              refine Wc.ret ?_
              refine hKR _ _ ?_
              refine ⟨_, res1 Try.results15 (show RV _ _ _ (.tmp _) (.bool false) from rfl), _, rfl, rfl, hC.sel [] (by decide)⟩
            · replace hb := (cF hq55).symm.trans hb
              refine Wc.skip ?_
              refine hK16 _ _ ?_
              refine Wc.fresh fun E57 hE => ?_
              have e0 : E57 0 = .slice (some ad22) l_0.length cl_0 := (congrFun hE 0).trans e0
              have e1 : E57 1 = .int .i64 v1_0 := (congrFun hE 1).trans e1
              have e4 : E57 4 = .bool false := (congrFun hE 4).trans e4
              have e5 : E57 5 = .int .i64 v5_0 := (congrFun hE 5).trans e5
              have e9 : E57 9 = .bool (decide (v5_0 < (l_0.length : Int))) := (congrFun hE 9).trans rfl
              have e40 : E57 40 = .bool (decide (x48 < x39)) := (congrFun hE 40).trans rfl
              clear hE
              refine Wc.region (by decide +kernel) ?_
              refine lex.pure (v := .int .i64 v1_0) (pu_move e1) ?_
              refine lex.pure (v := .slice (some ad22) l_0.length cl_0) (pu_move e0) ?_
              refine lex.pure (v := .int .i64 v5_0) (pu_move e5) ?_
              obtain ⟨x58, h59, hb⟩ := bd hb
              obtain ⟨ad60, cs61, hA, hc62, hr63⟩ := hC.elr (i := 0) rfl (get_some h59).2
              obtain rfl := Option.some.inj hA
              refine lex.pure (v := .pointer (some (ad22.add (v5_0.toNat * 1)))) (pu_index (a := v5_0) Try.underlying28 Try.sizeOf3 rfl rfl (get_some h59).1) ?_
              obtain ⟨rfl, hr63'⟩ := hr63
              refine lex.val (v := .int .i64 x58) (ld_one Try.isAgg3 rfl (hc62 0 _ rfl)) ?_
              obtain ⟨z64, h65, hb⟩ := bd hb
              refine lex.pure (v := .int .i64 z64) (pu_subc (a := v1_0) (b := x58) rfl rfl h65) ?_
              refine lex.pure (v := .int .i64 z64) (pu_assign rfl) ?_
              refine lex.nil ?_
              refine hK15 _ _ ?_
              refine Wc.region (by decide +kernel) ?_
              refine lex.pure (v := .int .i64 v5_0) (pu_move e5) ?_
              obtain ⟨z66, h67, hb⟩ := bd hb
              refine lex.pure (v := .int .i64 z66) (pu_addc (a := v5_0) (b := 1) rfl rfl h67) ?_
              refine lex.pure (v := .int .i64 z66) (pu_assign rfl) ?_
              refine lex.nil ?_
              obtain rfl := Option.some.inj hb
              exact hK7 m8' _ _ (Nat.lt_succ_self _) ⟨z64, z66, e0, rfl, e4, rfl, (chk_rng h65), (chk_rng h67), hC.sel [0] (by decide), lN hl0⟩
          · replace hb := (cF hq38).symm.trans hb
            refine mixE.gskip (want_f rfl rfl (show _ = Value.bool (decide (0 < v5_0)) from rfl) hq38) ?_
            refine mixE.gskip (want_f rfl rfl (show _ = Value.bool (decide (0 < v5_0)) from rfl) hq38) ?_
            refine mixE.gskip (want_f rfl rfl (show _ = Value.bool (decide (0 < v5_0)) from rfl) hq38) ?_
            refine mixE.gskip (want_f rfl rfl (show _ = Value.bool (decide (0 < v5_0)) from rfl) hq38) ?_
            refine mixE.gskip (want_f rfl rfl (show _ = Value.bool (decide (0 < v5_0)) from rfl) hq38) ?_
            refine mixE.gskip (want_f rfl rfl (show _ = Value.bool (decide (0 < v5_0)) from rfl) hq38) ?_
            refine mixE.gskip (want_f rfl rfl (show _ = Value.bool (decide (0 < v5_0)) from rfl) hq38) ?_
            refine mixE.gskip (want_f rfl rfl (show _ = Value.bool (decide (0 < v5_0)) from rfl) hq38) ?_
            refine mixE.gskip (want_f rfl rfl (show _ = Value.bool (decide (0 < v5_0)) from rfl) hq38) ?_
            refine mixE.gskip (want_f rfl rfl (show _ = Value.bool (decide (0 < v5_0)) from rfl) hq38) ?_
            refine mixE.gpure rfl (want_t rfl rfl (show _ = Value.bool (decide (v1_0 < x29)) from rfl) hq36) (v := .bool false) (pu_pickF (q := (decide (0 < v5_0))) rfl hq38 rfl) ?_
            refine mixE.pure (v := .bool false) (pu_pickF (q := (decide (v1_0 < x29))) rfl hq36 rfl) ?_
            refine mixE.nil ?_
            clear hS hM
            refine hK17 _ _ ?_
            refine Wc.cond_false (rfl) ?_
            refine Wc.skip ?_
            refine hK16 _ _ ?_
            refine Wc.fresh fun E68 hE => ?_
            have e0 : E68 0 = .slice (some ad22) l_0.length cl_0 := (congrFun hE 0).trans e0
            have e1 : E68 1 = .int .i64 v1_0 := (congrFun hE 1).trans e1
            have e4 : E68 4 = .bool false := (congrFun hE 4).trans e4
            have e5 : E68 5 = .int .i64 v5_0 := (congrFun hE 5).trans e5
            have e9 : E68 9 = .bool (decide (v5_0 < (l_0.length : Int))) := (congrFun hE 9).trans rfl
            have e40 : E68 40 = .bool false := (congrFun hE 40).trans rfl
            clear hE
            refine Wc.region (by decide +kernel) ?_
            refine lex.pure (v := .int .i64 v1_0) (pu_move e1) ?_
            refine lex.pure (v := .slice (some ad22) l_0.length cl_0) (pu_move e0) ?_
            refine lex.pure (v := .int .i64 v5_0) (pu_move e5) ?_
            obtain ⟨x69, h70, hb⟩ := bd hb
            obtain ⟨ad71, cs72, hA, hc73, hr74⟩ := hC.elr (i := 0) rfl (get_some h70).2
            obtain rfl := Option.some.inj hA
            refine lex.pure (v := .pointer (some (ad22.add (v5_0.toNat * 1)))) (pu_index (a := v5_0) Try.underlying28 Try.sizeOf3 rfl rfl (get_some h70).1) ?_
            obtain ⟨rfl, hr74'⟩ := hr74
            refine lex.val (v := .int .i64 x69) (ld_one Try.isAgg3 rfl (hc73 0 _ rfl)) ?_
            obtain ⟨z75, h76, hb⟩ := bd hb
            refine lex.pure (v := .int .i64 z75) (pu_subc (a := v1_0) (b := x69) rfl rfl h76) ?_
            refine lex.pure (v := .int .i64 z75) (pu_assign rfl) ?_
            refine lex.nil ?_
            refine hK15 _ _ ?_
            refine Wc.region (by decide +kernel) ?_
            refine lex.pure (v := .int .i64 v5_0) (pu_move e5) ?_
            obtain ⟨z77, h78, hb⟩ := bd hb
            refine lex.pure (v := .int .i64 z77) (pu_addc (a := v5_0) (b := 1) rfl rfl h78) ?_
            refine lex.pure (v := .int .i64 z77) (pu_assign rfl) ?_
            refine lex.nil ?_
            obtain rfl := Option.some.inj hb
            exact hK7 m8' _ _ (Nat.lt_succ_self _) ⟨z75, z77, e0, rfl, e4, rfl, (chk_rng h76), (chk_rng h78), hC.sel [0] (by decide), lN hl0⟩
    · replace hb := (cF hq14).symm.trans hb
      refine Wc.exit rfl ?_
      obtain rfl := Option.some.inj hb
      obtain rfl := (lX hl0).symm
      exact hK6 _ _ ⟨v1_0, v5_0, e1, e4, hrv1_0, hrv5_0, hC.sel [] (by decide), hbK0⟩
  · clear hb hC hl0
    rintro E80 w79 ⟨v1_0, v5_0, e1, e4, hrv1_0, hrv5_0, hC, hb⟩
    refine hK3 _ _ ?_
    refine Wc.seq fun K81 hK81 => ?_
    refine Wc.region (by decide +kernel) ?_
    refine lex.pure (v := .int .i64 v1_0) (pu_move e1) ?_
    refine lex.pure (v := .bool (decide (v1_0 = 0))) (pu_eql (k := .i64) (a := v1_0) (b := 0) rfl rfl) ?_
    refine lex.pure (v := .bool (decide (v1_0 = 0))) (pu_assign rfl) ?_
    refine lex.nil ?_
    refine hK81 _ _ ?_
    obtain rfl := Option.some.inj hb
    refine Wc.ret ?_
    refine hKR _ _ ?_
    refine ⟨_, res1 Try.results15 (show RV _ _ _ (.tmp _) (.bool (decide (v1_0 = 0))) from rfl), _, rfl, rfl, hC.sel [] (by decide)⟩
end Go.Proofs.Ytmlkiafidahnbaa
