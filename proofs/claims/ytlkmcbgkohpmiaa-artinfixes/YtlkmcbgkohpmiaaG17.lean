/- The walks: part 17. -/
import Derived.Test.YtlkmcbgkohpmiaaS
import Derived.Test.YtlkmcbgkohpmiaaG0
import Derived.Test.YtlkmcbgkohpmiaaG1
import Derived.Test.YtlkmcbgkohpmiaaG2
import Derived.Test.YtlkmcbgkohpmiaaG3
import Derived.Test.YtlkmcbgkohpmiaaG5
import Derived.Test.YtlkmcbgkohpmiaaG6
set_option linter.unusedVariables false
set_option linter.unusedSimpArgs false
namespace Go.Proofs.Ytlkmcbgkohpmiaa
open Ev
set_option maxRecDepth 100000 in
set_option maxHeartbeats 4000000 in
theorem word_least_ok (n : Nat) {w : World} {O0 : List Nat} (hO : ∀ k ∈ O0, k < w.heap.size) {Awx_0 : Option Addr} {mwx_0 cwx_0 : Nat} {wx_0 : List Int} (hwx_0 : Rep O0 w (.sl (.int .i64)) [.slice Awx_0 mwx_0 cwx_0] wx_0) {r : Int} (hb : F.word_least n wx_0 = some r) :
    Calls Try.prog 60 #[.slice Awx_0 mwx_0 cwx_0] w fun e w' => ∃ v, e = .returned v ∧ v = .int .i64 r ∧ I64 r ∧ Cx (fun _ => False) O0 w w' [] := by
  unfold F.word_least at hb
  have hC := Cx.start hO
  replace hC := hC.arg rfl hwx_0
  clear hO
  obtain ⟨rfl, hlwx_0, hcwx_0⟩ := hwx_0.sl_len
  refine calls_of_Wc Try.func60 rfl (by rw [Try.ntmps60]; exact Nat.le_of_ble_eq_true rfl) fun KR hKR => ?_
  refine Wc.seq fun K2 hK2 => ?_
  refine Wc.region (by decide +kernel) ?_
  refine lex.pure (v := .int .i64 0) (pu_assign rfl) ?_
  refine lex.nil ?_
  refine hK2 _ _ ?_
  refine Wc.seq fun K3 hK3 => ?_
  refine Wc.region (by decide +kernel) ?_
  refine lex.pure (v := .slice Awx_0 wx_0.length cwx_0) (pu_move rfl) ?_
  refine lex.pure (v := .int .i64 (wx_0.length : Int)) (pu_len (A := Awx_0) (n := wx_0.length) (m := cwx_0) Try.underlying27 rfl) ?_
  refine lex.pure (v := .int .i64 (wx_0.length : Int)) (pu_assign rfl) ?_
  refine lex.nil ?_
  refine hK3 _ _ ?_
  refine Wc.seq fun K4 hK4 => ?_
  refine Wc.region (by decide +kernel) ?_
  refine lex.pure (v := .int .i64 0) (pu_assign rfl) ?_
  refine lex.pure (v := .int .i64 1) (pu_assign rfl) ?_
  refine lex.pure (v := .int .i64 0) (pu_assign rfl) ?_
  refine lex.nil ?_
  refine hK4 _ _ ?_
  refine Wc.seq fun K5 hK5 => ?_
  obtain ⟨o6, hl0, hb⟩ := bd hb
  refine Wc.cut (fun E wv => ∃ (v4_0 : Int) (v5_0 : Int) (v6_0 : Int), E 2 = .int .i64 0 ∧ E 4 = .int .i64 v4_0 ∧ E 5 = .int .i64 v5_0 ∧ I64 v4_0 ∧ I64 v5_0 ∧ I64 v6_0 ∧ Cx (fun _ => False) O0 w wv [] ∧ (some (min v4_0 v5_0) : Option (Int)) = some r) (fun K7 hK7 => ?_) ?_
  · refine Wc.block ?_
    refine Wc.loop (fun m E wv => ∃ (v4_0 : Int) (v5_0 : Int) (v6_0 : Int), E 0 = .slice Awx_0 wx_0.length cwx_0 ∧ E 2 = .int .i64 0 ∧ E 3 = .int .i64 (wx_0.length : Int) ∧ E 4 = .int .i64 v4_0 ∧ E 5 = .int .i64 v5_0 ∧ E 6 = .int .i64 v6_0 ∧ I64 v4_0 ∧ I64 v5_0 ∧ I64 v6_0 ∧ Cx (fun _ => False) O0 w wv [.ro (.sl (.int .i64)) [.slice Awx_0 wx_0.length cwx_0] wx_0] ∧ loopN m (F.word_least_b0 n wx_0) (v4_0, v5_0, v6_0) = some o6) n ⟨0, 1, 0, rfl, rfl, rfl, rfl, rfl, rfl, (show I64 0 from by unfold I64; omega), (show I64 1 from by unfold I64; omega), (show I64 0 from by unfold I64; omega), hC.sel [0] (by decide), hl0⟩ ?_
    have hbK0 := hb
    clear hb hC hl0
    rintro m9 E11 w10 ⟨v4_0, v5_0, v6_0, e0, e2, e3, e4, e5, e6, hrv4_0, hrv5_0, hrv6_0, hC, hl0⟩ K8 hK8
    obtain ⟨m9', o12, rfl, hb, hl0⟩ := loopN_some hl0
    unfold F.word_least_b0 at hb
    refine Wc.seq fun K13 hK13 => ?_
    refine Wc.seq fun K14 hK14 => ?_
    refine Wc.region (by decide +kernel) ?_
    refine lex.pure (v := .int .i64 v4_0) (pu_move e4) ?_
    refine lex.pure (v := .int .i64 (wx_0.length : Int)) (pu_move e3) ?_
    refine lex.pure (v := .bool (decide (v4_0 < (wx_0.length : Int)))) (pu_lss (k := .i64) (a := v4_0) (b := (wx_0.length : Int)) rfl rfl) ?_
    refine lex.pure (v := .bool (decide (v4_0 < (wx_0.length : Int)))) (pu_move rfl) ?_
    rcases bS (decide (v4_0 < (wx_0.length : Int))) with hq15 | hq15
    · replace hb := (cT hq15).symm.trans hb
      refine lex.gpure (want_t rfl rfl (show _ = Value.bool (decide (v4_0 < (wx_0.length : Int))) from rfl) hq15) (v := .int .i64 v5_0) (pu_move e5) ?_
      refine lex.gpure (want_t rfl rfl (show _ = Value.bool (decide (v4_0 < (wx_0.length : Int))) from rfl) hq15) (v := .int .i64 (wx_0.length : Int)) (pu_move e3) ?_
      refine lex.gpure (want_t rfl rfl (show _ = Value.bool (decide (v4_0 < (wx_0.length : Int))) from rfl) hq15) (v := .bool (decide (v5_0 < (wx_0.length : Int)))) (pu_lss (k := .i64) (a := v5_0) (b := (wx_0.length : Int)) rfl rfl) ?_
      refine lex.pure (v := .bool (decide (v5_0 < (wx_0.length : Int)))) (pu_pickT (q := (decide (v4_0 < (wx_0.length : Int)))) rfl hq15 rfl) ?_
      refine lex.pure (v := .bool (decide (v5_0 < (wx_0.length : Int)))) (pu_move rfl) ?_
      rcases bS (decide (v5_0 < (wx_0.length : Int))) with hq16 | hq16
      · replace hb := (cT hq16).symm.trans hb
        refine lex.gpure (want_t rfl rfl (show _ = Value.bool (decide (v5_0 < (wx_0.length : Int))) from rfl) hq16) (v := .int .i64 v6_0) (pu_move e6) ?_
        refine lex.gpure (want_t rfl rfl (show _ = Value.bool (decide (v5_0 < (wx_0.length : Int))) from rfl) hq16) (v := .int .i64 (wx_0.length : Int)) (pu_move e3) ?_
        refine lex.gpure (want_t rfl rfl (show _ = Value.bool (decide (v5_0 < (wx_0.length : Int))) from rfl) hq16) (v := .bool (decide (v6_0 < (wx_0.length : Int)))) (pu_lss (k := .i64) (a := v6_0) (b := (wx_0.length : Int)) rfl rfl) ?_
        refine lex.pure (v := .bool (decide (v6_0 < (wx_0.length : Int)))) (pu_pickT (q := (decide (v5_0 < (wx_0.length : Int)))) rfl hq16 rfl) ?_
        refine lex.nil ?_
        refine hK14 _ _ ?_
        refine Wc.cond (t := (decide (v6_0 < (wx_0.length : Int)))) (rfl) (fun hq17 => ?_) (fun hq17 => ?_)
        · replace hb := (cT hq17).symm.trans hb
          refine Wc.skip ?_
          refine hK13 _ _ ?_
          refine Wc.fresh fun E18 hE => ?_
          have e0 : E18 0 = .slice Awx_0 wx_0.length cwx_0 := (congrFun hE 0).trans e0
          have e2 : E18 2 = .int .i64 0 := (congrFun hE 2).trans e2
          have e3 : E18 3 = .int .i64 (wx_0.length : Int) := (congrFun hE 3).trans e3
          have e4 : E18 4 = .int .i64 v4_0 := (congrFun hE 4).trans e4
          have e5 : E18 5 = .int .i64 v5_0 := (congrFun hE 5).trans e5
          have e6 : E18 6 = .int .i64 v6_0 := (congrFun hE 6).trans e6
          have e23 : E18 23 = .bool (decide (v6_0 < (wx_0.length : Int))) := (congrFun hE 23).trans rfl
          clear hE
          refine Wc.block ?_
          refine Wc.seq fun K19 hK19 => ?_
          refine Wc.regionMix [] (frm [] ([] : List Fact) ([] : List Fact)) (fun _ => rfl) mixed (by decide +kernel) (by decide +kernel) fun w21 hw20 => ?_
          replace hC := hC.step (Fr.of_drew hw20)
          have hM := Fr.refl (fun k => k ∈ blocks ([] : List Fact)) w21
          clear hw20
          have hS := hC
          refine mixE.pure (v := .slice Awx_0 wx_0.length cwx_0) (pu_move e0) ?_
          refine mixE.pure (v := .int .i64 v4_0) (pu_move e4) ?_
          refine mixE.pure (v := .int .i64 v6_0) (pu_move e6) ?_
          obtain ⟨z22, h23, hb⟩ := bd hb
          refine mixE.pure (v := .int .i64 z22) (pu_addc (a := v4_0) (b := v6_0) rfl rfl h23) ?_
          refine mixE.pure (v := .int .i64 (wx_0.length : Int)) (pu_move e3) ?_
          obtain ⟨u24, h25, hb⟩ := bd hb
          refine mixE.pure (v := .int .i64 (Int.tmod z22 (wx_0.length : Int))) (pu_remc (a := z22) (b := (wx_0.length : Int)) rfl rfl h25) ?_
          obtain ⟨x26, h27, hb⟩ := bd hb
          obtain ⟨ad28, cs29, hA, ho32, hc30, hr31⟩ := hS.elr2 (i := 0) rfl (get_some h27).2 []
          subst hA
          refine mixE.pure (v := .pointer (some (ad28.add ((Int.tmod z22 (wx_0.length : Int)).toNat * 1)))) (pu_index (a := (Int.tmod z22 (wx_0.length : Int))) Try.underlying27 Try.sizeOf3 rfl rfl (get_some h27).1) ?_
          obtain ⟨rfl, hr31'⟩ := hr31
          refine mixE.load hM (v := .int .i64 x26) (fun _ hF => ld_one Try.isAgg3 rfl (hF.cell (hc30 0 _ rfl) (off1 ho32))) ?_
          refine mixE.pure (v := .slice (some ad28) wx_0.length cwx_0) (pu_move e0) ?_
          refine mixE.pure (v := .int .i64 v5_0) (pu_move e5) ?_
          refine mixE.pure (v := .int .i64 v6_0) (pu_move e6) ?_
          obtain ⟨z33, h34, hb⟩ := bd hb
          refine mixE.pure (v := .int .i64 z33) (pu_addc (a := v5_0) (b := v6_0) rfl rfl h34) ?_
          refine mixE.pure (v := .int .i64 (wx_0.length : Int)) (pu_move e3) ?_
          obtain ⟨u35, h36, hb⟩ := bd hb
          refine mixE.pure (v := .int .i64 (Int.tmod z33 (wx_0.length : Int))) (pu_remc (a := z33) (b := (wx_0.length : Int)) rfl rfl h36) ?_
          obtain ⟨x37, h38, hb⟩ := bd hb
          obtain ⟨ad39, cs40, hA, ho43, hc41, hr42⟩ := hS.elr2 (i := 0) rfl (get_some h38).2 []
          obtain rfl := Option.some.inj hA
          refine mixE.pure (v := .pointer (some (ad28.add ((Int.tmod z33 (wx_0.length : Int)).toNat * 1)))) (pu_index (a := (Int.tmod z33 (wx_0.length : Int))) Try.underlying27 Try.sizeOf3 rfl rfl (get_some h38).1) ?_
          obtain ⟨rfl, hr42'⟩ := hr42
          refine mixE.load hM (v := .int .i64 x37) (fun _ hF => ld_one Try.isAgg3 rfl (hF.cell (hc41 0 _ rfl) (off1 ho43))) ?_
          refine mixE.pure (v := .int .i64 x26) (pu_assign rfl) ?_
          refine mixE.pure (v := .int .i64 x37) (pu_assign rfl) ?_
          refine mixE.nil ?_
          clear hS hM
          refine hK19 _ _ ?_
          refine Wc.fresh fun E44 hE => ?_
          have e0 : E44 0 = .slice (some ad28) wx_0.length cwx_0 := (congrFun hE 0).trans e0
          have e2 : E44 2 = .int .i64 0 := (congrFun hE 2).trans e2
          have e3 : E44 3 = .int .i64 (wx_0.length : Int) := (congrFun hE 3).trans e3
          have e4 : E44 4 = .int .i64 v4_0 := (congrFun hE 4).trans e4
          have e5 : E44 5 = .int .i64 v5_0 := (congrFun hE 5).trans e5
          have e6 : E44 6 = .int .i64 v6_0 := (congrFun hE 6).trans e6
          have e7 : E44 7 = .int .i64 x26 := (congrFun hE 7).trans rfl
          have e8 : E44 8 = .int .i64 x37 := (congrFun hE 8).trans rfl
          have e23 : E44 23 = .bool (decide (v6_0 < (wx_0.length : Int))) := (congrFun hE 23).trans e23
          clear hE
          refine Wc.seq fun K45 hK45 => ?_
          refine Wc.block ?_
          refine Wc.seq fun K46 hK46 => ?_
          refine Wc.region (by decide +kernel) ?_
          refine lex.pure (v := .int .i64 x26) (pu_move e7) ?_
          refine lex.pure (v := .int .i64 x37) (pu_move e8) ?_
          refine lex.pure (v := .bool (decide (x26 = x37))) (pu_eql (k := .i64) (a := x26) (b := x37) rfl rfl) ?_
          refine lex.pure (v := .bool (decide (x26 = x37))) (pu_assign rfl) ?_
          refine lex.nil ?_
          refine hK46 _ _ ?_
          refine Wc.cond (t := (decide (x26 = x37))) (rfl) (fun hq47 => ?_) (fun hq47 => ?_)
          · replace hb := (cT hq47).symm.trans hb
            refine Wc.seq fun K48 hK48 => ?_
            refine Wc.region (by decide +kernel) ?_
            refine lex.pure (v := .int .i64 v6_0) (pu_move e6) ?_
            obtain ⟨z49, h50, hb⟩ := bd hb
            refine lex.pure (v := .int .i64 z49) (pu_addc (a := v6_0) (b := 1) rfl rfl h50) ?_
            refine lex.pure (v := .int .i64 z49) (pu_assign rfl) ?_
            refine lex.nil ?_
            refine hK48 _ _ ?_
            refine Wc.exit rfl ?_
            obtain rfl := Option.some.inj hb
            exact hK8 m9' _ _ (Nat.lt_succ_self _) ⟨v4_0, v5_0, z49, e0, e2, e3, e4, e5, rfl, hrv4_0, hrv5_0, (chk_rng h50), hC.sel [0] (by decide), lN hl0⟩
          · replace hb := (cF hq47).symm.trans hb
            refine Wc.seq fun K51 hK51 => ?_
            refine Wc.region (by decide +kernel) ?_
            refine lex.pure (v := .int .i64 x26) (pu_move e7) ?_
            refine lex.pure (v := .int .i64 x37) (pu_move e8) ?_
            refine lex.pure (v := .bool (decide (x37 < x26))) (pu_gtr (k := .i64) (a := x26) (b := x37) rfl rfl) ?_
            refine lex.pure (v := .bool (decide (x37 < x26))) (pu_assign rfl) ?_
            refine lex.nil ?_
            refine hK51 _ _ ?_
            refine Wc.cond (t := (decide (x37 < x26))) (rfl) (fun hq52 => ?_) (fun hq52 => ?_)
            · replace hb := (cT hq52).symm.trans hb
              refine Wc.region (by decide +kernel) ?_
              refine lex.pure (v := .int .i64 v4_0) (pu_move e4) ?_
              refine lex.pure (v := .int .i64 v6_0) (pu_move e6) ?_
              obtain ⟨z53, h54, hb⟩ := bd hb
              refine lex.pure (v := .int .i64 z53) (pu_addc (a := v6_0) (b := 1) rfl rfl h54) ?_
              obtain ⟨z55, h56, hb⟩ := bd hb
              refine lex.pure (v := .int .i64 z55) (pu_addc (a := v4_0) (b := z53) rfl rfl h56) ?_
              refine lex.pure (v := .int .i64 z55) (pu_assign rfl) ?_
              refine lex.nil ?_
              refine hK45 _ _ ?_
              refine Wc.fresh fun E57 hE => ?_
              have e0 : E57 0 = .slice (some ad28) wx_0.length cwx_0 := (congrFun hE 0).trans e0
              have e2 : E57 2 = .int .i64 0 := (congrFun hE 2).trans e2
              have e3 : E57 3 = .int .i64 (wx_0.length : Int) := (congrFun hE 3).trans e3
              have e4 : E57 4 = .int .i64 z55 := (congrFun hE 4).trans rfl
              have e5 : E57 5 = .int .i64 v5_0 := (congrFun hE 5).trans e5
              have e6 : E57 6 = .int .i64 v6_0 := (congrFun hE 6).trans e6
              have e7 : E57 7 = .int .i64 x26 := (congrFun hE 7).trans e7
              have e8 : E57 8 = .int .i64 x37 := (congrFun hE 8).trans e8
              have e23 : E57 23 = .bool (decide (v6_0 < (wx_0.length : Int))) := (congrFun hE 23).trans e23
              have e44 : E57 44 = .bool (decide (x26 = x37)) := (congrFun hE 44).trans rfl
              have e50 : E57 50 = .bool (decide (x37 < x26)) := (congrFun hE 50).trans rfl
              clear hE
              refine Wc.seq fun K58 hK58 => ?_
              refine Wc.seq fun K59 hK59 => ?_
              refine Wc.region (by decide +kernel) ?_
              refine lex.pure (v := .int .i64 z55) (pu_move e4) ?_
              refine lex.pure (v := .int .i64 v5_0) (pu_move e5) ?_
              refine lex.pure (v := .bool (decide (z55 = v5_0))) (pu_eql (k := .i64) (a := z55) (b := v5_0) rfl rfl) ?_
              refine lex.nil ?_
              refine hK59 _ _ ?_
              refine Wc.cond (t := (decide (z55 = v5_0))) (rfl) (fun hq60 => ?_) (fun hq60 => ?_)
              · replace hb := (cT hq60).symm.trans hb
                refine Wc.region (by decide +kernel) ?_
                refine lex.pure (v := .int .i64 v5_0) (pu_move e5) ?_
                obtain ⟨z61, h62, hb⟩ := bd hb
                refine lex.pure (v := .int .i64 z61) (pu_addc (a := v5_0) (b := 1) rfl rfl h62) ?_
                refine lex.pure (v := .int .i64 z61) (pu_assign rfl) ?_
                refine lex.nil ?_
                refine hK58 _ _ ?_
                refine Wc.region (by decide +kernel) ?_
                refine lex.pure (v := .int .i64 0) (pu_assign rfl) ?_
                refine lex.nil ?_
                obtain rfl := Option.some.inj hb
                exact hK8 m9' _ _ (Nat.lt_succ_self _) ⟨z55, z61, 0, e0, e2, e3, e4, rfl, rfl, (chk_rng h56), (chk_rng h62), (show I64 0 from by unfold I64; omega), hC.sel [0] (by decide), lN hl0⟩
              · replace hb := (cF hq60).symm.trans hb
                refine Wc.skip ?_
                refine hK58 _ _ ?_
                refine Wc.region (by decide +kernel) ?_
                refine lex.pure (v := .int .i64 0) (pu_assign rfl) ?_
                refine lex.nil ?_
                obtain rfl := Option.some.inj hb
                exact hK8 m9' _ _ (Nat.lt_succ_self _) ⟨z55, v5_0, 0, e0, e2, e3, e4, e5, rfl, (chk_rng h56), hrv5_0, (show I64 0 from by unfold I64; omega), hC.sel [0] (by decide), lN hl0⟩
            · replace hb := (cF hq52).symm.trans hb
              refine Wc.region (by decide +kernel) ?_
              refine lex.pure (v := .int .i64 v5_0) (pu_move e5) ?_
              refine lex.pure (v := .int .i64 v6_0) (pu_move e6) ?_
              obtain ⟨z63, h64, hb⟩ := bd hb
              refine lex.pure (v := .int .i64 z63) (pu_addc (a := v6_0) (b := 1) rfl rfl h64) ?_
              obtain ⟨z65, h66, hb⟩ := bd hb
              refine lex.pure (v := .int .i64 z65) (pu_addc (a := v5_0) (b := z63) rfl rfl h66) ?_
              refine lex.pure (v := .int .i64 z65) (pu_assign rfl) ?_
              refine lex.nil ?_
              refine hK45 _ _ ?_
              refine Wc.fresh fun E67 hE => ?_
              have e0 : E67 0 = .slice (some ad28) wx_0.length cwx_0 := (congrFun hE 0).trans e0
              have e2 : E67 2 = .int .i64 0 := (congrFun hE 2).trans e2
              have e3 : E67 3 = .int .i64 (wx_0.length : Int) := (congrFun hE 3).trans e3
              have e4 : E67 4 = .int .i64 v4_0 := (congrFun hE 4).trans e4
              have e5 : E67 5 = .int .i64 z65 := (congrFun hE 5).trans rfl
              have e6 : E67 6 = .int .i64 v6_0 := (congrFun hE 6).trans e6
              have e7 : E67 7 = .int .i64 x26 := (congrFun hE 7).trans e7
              have e8 : E67 8 = .int .i64 x37 := (congrFun hE 8).trans e8
              have e23 : E67 23 = .bool (decide (v6_0 < (wx_0.length : Int))) := (congrFun hE 23).trans e23
              have e44 : E67 44 = .bool (decide (x26 = x37)) := (congrFun hE 44).trans rfl
              have e50 : E67 50 = .bool (decide (x37 < x26)) := (congrFun hE 50).trans rfl
              clear hE
              refine Wc.seq fun K68 hK68 => ?_
              refine Wc.seq fun K69 hK69 => ?_
              refine Wc.region (by decide +kernel) ?_
              refine lex.pure (v := .int .i64 v4_0) (pu_move e4) ?_
              refine lex.pure (v := .int .i64 z65) (pu_move e5) ?_
              refine lex.pure (v := .bool (decide (v4_0 = z65))) (pu_eql (k := .i64) (a := v4_0) (b := z65) rfl rfl) ?_
              refine lex.nil ?_
              refine hK69 _ _ ?_
              refine Wc.cond (t := (decide (v4_0 = z65))) (rfl) (fun hq70 => ?_) (fun hq70 => ?_)
              · replace hb := (cT hq70).symm.trans hb
                refine Wc.region (by decide +kernel) ?_
                refine lex.pure (v := .int .i64 z65) (pu_move e5) ?_
                obtain ⟨z71, h72, hb⟩ := bd hb
                refine lex.pure (v := .int .i64 z71) (pu_addc (a := z65) (b := 1) rfl rfl h72) ?_
                refine lex.pure (v := .int .i64 z71) (pu_assign rfl) ?_
                refine lex.nil ?_
                refine hK68 _ _ ?_
                refine Wc.region (by decide +kernel) ?_
                refine lex.pure (v := .int .i64 0) (pu_assign rfl) ?_
                refine lex.nil ?_
                obtain rfl := Option.some.inj hb
                exact hK8 m9' _ _ (Nat.lt_succ_self _) ⟨v4_0, z71, 0, e0, e2, e3, e4, rfl, rfl, hrv4_0, (chk_rng h72), (show I64 0 from by unfold I64; omega), hC.sel [0] (by decide), lN hl0⟩
              · replace hb := (cF hq70).symm.trans hb
                refine Wc.skip ?_
                refine hK68 _ _ ?_
                refine Wc.region (by decide +kernel) ?_
                refine lex.pure (v := .int .i64 0) (pu_assign rfl) ?_
                refine lex.nil ?_
                obtain rfl := Option.some.inj hb
                exact hK8 m9' _ _ (Nat.lt_succ_self _) ⟨v4_0, z65, 0, e0, e2, e3, e4, e5, rfl, hrv4_0, (chk_rng h66), (show I64 0 from by unfold I64; omega), hC.sel [0] (by decide), lN hl0⟩
        · replace hb := (cF hq17).symm.trans hb
          refine Wc.exit rfl ?_
          obtain rfl := Option.some.inj hb
          obtain rfl := (lX hl0).symm
          exact hK7 _ _ ⟨v4_0, v5_0, v6_0, e2, e4, e5, hrv4_0, hrv5_0, hrv6_0, hC.sel [] (by decide), hbK0⟩
      · replace hb := (cF hq16).symm.trans hb
        refine lex.gskip (want_f rfl rfl (show _ = Value.bool (decide (v5_0 < (wx_0.length : Int))) from rfl) hq16) ?_
        refine lex.gskip (want_f rfl rfl (show _ = Value.bool (decide (v5_0 < (wx_0.length : Int))) from rfl) hq16) ?_
        refine lex.gskip (want_f rfl rfl (show _ = Value.bool (decide (v5_0 < (wx_0.length : Int))) from rfl) hq16) ?_
        refine lex.pure (v := .bool false) (pu_pickF (q := (decide (v5_0 < (wx_0.length : Int)))) rfl hq16 rfl) ?_
        refine lex.nil ?_
        refine hK14 _ _ ?_
        refine Wc.cond_false (rfl) ?_
        refine Wc.exit rfl ?_
        obtain rfl := Option.some.inj hb
        obtain rfl := (lX hl0).symm
        exact hK7 _ _ ⟨v4_0, v5_0, v6_0, e2, e4, e5, hrv4_0, hrv5_0, hrv6_0, hC.sel [] (by decide), hbK0⟩
    · replace hb := (cF hq15).symm.trans hb
      refine lex.gskip (want_f rfl rfl (show _ = Value.bool (decide (v4_0 < (wx_0.length : Int))) from rfl) hq15) ?_
      refine lex.gskip (want_f rfl rfl (show _ = Value.bool (decide (v4_0 < (wx_0.length : Int))) from rfl) hq15) ?_
      refine lex.gskip (want_f rfl rfl (show _ = Value.bool (decide (v4_0 < (wx_0.length : Int))) from rfl) hq15) ?_
      refine lex.pure (v := .bool false) (pu_pickF (q := (decide (v4_0 < (wx_0.length : Int)))) rfl hq15 rfl) ?_
      refine lex.pure (v := .bool false) (pu_move rfl) ?_
      refine lex.gskip (want_f rfl rfl (show _ = Value.bool false from rfl) rfl) ?_
      refine lex.gskip (want_f rfl rfl (show _ = Value.bool false from rfl) rfl) ?_
      refine lex.gskip (want_f rfl rfl (show _ = Value.bool false from rfl) rfl) ?_
      refine lex.pure (v := .bool false) (pu_pickF (q := false) rfl rfl rfl) ?_
      refine lex.nil ?_
      refine hK14 _ _ ?_
      refine Wc.cond_false (rfl) ?_
      refine Wc.exit rfl ?_
      obtain rfl := Option.some.inj hb
      obtain rfl := (lX hl0).symm
      exact hK7 _ _ ⟨v4_0, v5_0, v6_0, e2, e4, e5, hrv4_0, hrv5_0, hrv6_0, hC.sel [] (by decide), hbK0⟩
  · clear hb hC hl0
    rintro E74 w73 ⟨v4_0, v5_0, v6_0, e2, e4, e5, hrv4_0, hrv5_0, hrv6_0, hC, hb⟩
    refine hK5 _ _ ?_
    refine Wc.seq fun K75 hK75 => ?_
    refine Wc.region (by decide +kernel) ?_
    refine lex.pure (v := .int .i64 v4_0) (pu_move e4) ?_
    refine lex.pure (v := .int .i64 v5_0) (pu_move e5) ?_
    refine lex.pure (v := .int .i64 (min v4_0 v5_0)) (pu_min (a := v4_0) (b := v5_0) rfl rfl) ?_
    refine lex.pure (v := .int .i64 (min v4_0 v5_0)) (pu_assign rfl) ?_
    refine lex.nil ?_
    refine hK75 _ _ ?_
    obtain rfl := Option.some.inj hb
    refine Wc.ret ?_
    refine hKR _ _ ?_
    refine ⟨_, res1 Try.results60 (show RV _ _ _ (.tmp _) (.int .i64 (min v4_0 v5_0)) from rfl), _, rfl, rfl, (I64.min hrv4_0 hrv5_0), hC.sel [] (by decide)⟩

set_option maxRecDepth 100000 in
set_option maxHeartbeats 4000000 in
theorem word_Cyclic_ok (n : Nat) {w : World} {O0 : List Nat} (hO : ∀ k ∈ O0, k < w.heap.size) {Awx_0 : Option Addr} {mwx_0 cwx_0 : Nat} {wx_0 : List Int} (hwx_0 : Rep O0 w (.sl (.int .i64)) [.slice Awx_0 mwx_0 cwx_0] wx_0) {r : (List Int)} (hb : F.word_Cyclic n wx_0 = some r) :
    Calls Try.prog 42 #[.slice Awx_0 mwx_0 cwx_0] w fun e w' => ∃ v, e = .returned v ∧ ∃ (A0 : Option Addr) (m0 c0 : Nat), v = .slice A0 m0 c0 ∧ Cx (fun _ => False) O0 w w' [.own 3 (.int .i64) (.slice A0 m0 c0) r] := by
  unfold F.word_Cyclic at hb
  have hC := Cx.start hO
  replace hC := hC.arg rfl hwx_0
  clear hO
  obtain ⟨rfl, hlwx_0, hcwx_0⟩ := hwx_0.sl_len
  refine calls_of_Wc Try.func42 rfl (by rw [Try.ntmps42]; exact Nat.le_of_ble_eq_true rfl) fun KR hKR => ?_
  refine Wc.seq fun K2 hK2 => ?_
  refine Wc.region (by decide +kernel) ?_
  refine lex.pure (v := .slice none 0 0) (pu_assign rfl) ?_
  refine lex.nil ?_
  refine hK2 _ _ ?_
  refine Wc.seq fun K3 hK3 => ?_
  refine Wc.region (by decide +kernel) ?_
  refine lex.pure (v := .slice Awx_0 wx_0.length cwx_0) (pu_move rfl) ?_
  obtain ⟨y4, h5, hb⟩ := bd hb
  refine lex.cl (⟨_, _, op_call (vs := [.slice Awx_0 wx_0.length cwx_0]) Try.call34 rfl rfl rfl, word_Reduce_ok n hC.lt (hC.rd (i := 0) rfl) h5⟩) ?_
  rintro _ w10 ⟨A6, m7, c8, rfl, hK⟩
  replace hC := hC.merge hK
  clear hK
  obtain ⟨rfl, hl11, hc12⟩ := (hC.ow (i := 0) rfl).sl_len
  refine lex.pure (v := .slice A6 y4.length c8) (pu_assign rfl) ?_
  refine lex.nil ?_
  refine hK3 _ _ ?_
  refine Wc.seq fun K13 hK13 => ?_
  replace hC := hC.freeze (i := 0) rfl (hC.own_new (i := 0) rfl)
  obtain ⟨o14, hl0, hb⟩ := bd hb
  refine Wc.cut (fun E wv => ∃ (l3_0 : List Int) (Al3_0 : Option Addr) (ml3_0 cl3_0 : Nat), E 2 = .slice none 0 0 ∧ E 3 = .slice Al3_0 ml3_0 cl3_0 ∧ Cx (fun _ => False) O0 w wv [.ro (.sl (.int .i64)) [.slice Al3_0 ml3_0 cl3_0] l3_0] ∧ ((F.word_least n l3_0).bind fun y60 => (pos (l3_0.length : Int)).bind fun u65 => cond (decide (0 < (l3_0.length : Int))) ((cut y60 (l3_0.length : Int) l3_0.length).bind fun u79 => (lim (([] : List Int).length + ((l3_0.drop y60.toNat).take ((l3_0.length : Int).toNat - y60.toNat)).length)).bind fun u88 => (cut 0 y60 l3_0.length).bind fun u95 => (lim ((([] : List Int) ++ ((l3_0.drop y60.toNat).take ((l3_0.length : Int).toNat - y60.toNat))).length + ((l3_0.drop (0 : Int).toNat).take (y60.toNat - (0 : Int).toNat)).length)).bind fun u104 => some ((([] : List Int) ++ ((l3_0.drop y60.toNat).take ((l3_0.length : Int).toNat - y60.toNat))) ++ ((l3_0.drop (0 : Int).toNat).take (y60.toNat - (0 : Int).toNat)))) (some ([] : List Int)) : Option ((List Int))) = some r) (fun K15 hK15 => ?_) ?_
  · refine Wc.block ?_
    refine Wc.loop (fun m E wv => ∃ (l3_0 : List Int) (Al3_0 : Option Addr) (ml3_0 cl3_0 : Nat), E 2 = .slice none 0 0 ∧ E 3 = .slice Al3_0 ml3_0 cl3_0 ∧ Cx (fun _ => False) O0 w wv [.ro (.sl (.int .i64)) [.slice Al3_0 ml3_0 cl3_0] l3_0] ∧ loopN m (F.word_Cyclic_b0 n) l3_0 = some o14) n ⟨y4, A6, y4.length, c8, rfl, rfl, hC.sel [0] (by decide), hl0⟩ ?_
    have hbK0 := hb
    clear hb hC hl0
    rintro m17 E19 w18 ⟨l3_0, Al3_0, ml3_0, cl3_0, e2, e3, hC, hl0⟩ K16 hK16
    obtain ⟨m17', o20, rfl, hb, hl0⟩ := loopN_some hl0
    unfold F.word_Cyclic_b0 at hb
    obtain ⟨rfl, hll3_0, hcl3_0⟩ := (hC.rd (i := 0) rfl).sl_len
    refine Wc.seq fun K21 hK21 => ?_
    refine Wc.seq fun K22 hK22 => ?_
    refine Wc.regionMix [] (frm [] ([] : List Fact) ([] : List Fact)) (fun _ => rfl) mixed (by decide +kernel) (by decide +kernel) fun w24 hw23 => ?_
    replace hC := hC.step (Fr.of_drew hw23)
    have hM := Fr.refl (fun k => k ∈ blocks ([] : List Fact)) w24
    clear hw23
    have hS := hC
    refine mixE.pure (v := .slice Al3_0 l3_0.length cl3_0) (pu_move e3) ?_
    refine mixE.pure (v := .int .i64 (l3_0.length : Int)) (pu_len (A := Al3_0) (n := l3_0.length) (m := cl3_0) Try.underlying27 rfl) ?_
    refine mixE.pure (v := .bool (decide (2 ≤ (l3_0.length : Int)))) (pu_geq (k := .i64) (a := (l3_0.length : Int)) (b := 2) rfl rfl) ?_
    refine mixE.pure (v := .bool (decide (2 ≤ (l3_0.length : Int)))) (pu_move rfl) ?_
    rcases bS (decide (2 ≤ (l3_0.length : Int))) with hq25 | hq25
    · replace hb := (cT hq25).symm.trans hb
      refine mixE.gpure rfl (want_t rfl rfl (show _ = Value.bool (decide (2 ≤ (l3_0.length : Int))) from rfl) hq25) (v := .slice Al3_0 l3_0.length cl3_0) (pu_move e3) ?_
      obtain ⟨x26, h27, hb⟩ := bd hb
      obtain ⟨ad28, cs29, hA, ho32, hc30, hr31⟩ := hS.elr2 (i := 0) rfl (get_some h27).2 []
      subst hA
      refine mixE.gpure rfl (want_t rfl rfl (show _ = Value.bool (decide (2 ≤ (l3_0.length : Int))) from rfl) hq25) (v := .pointer (some (ad28.add ((0 : Int).toNat * 1)))) (pu_index (a := 0) Try.underlying27 Try.sizeOf3 rfl rfl (get_some h27).1) ?_
      obtain ⟨rfl, hr31'⟩ := hr31
      refine mixE.gload rfl (want_t rfl rfl (show _ = Value.bool (decide (2 ≤ (l3_0.length : Int))) from rfl) hq25) hM (v := .int .i64 x26) (fun _ hF => ld_one Try.isAgg3 rfl (hF.cell (hc30 0 _ rfl) (off1 ho32))) ?_
      refine mixE.gpure rfl (want_t rfl rfl (show _ = Value.bool (decide (2 ≤ (l3_0.length : Int))) from rfl) hq25) (v := .slice (some ad28) l3_0.length cl3_0) (pu_move e3) ?_
      refine mixE.gpure rfl (want_t rfl rfl (show _ = Value.bool (decide (2 ≤ (l3_0.length : Int))) from rfl) hq25) (v := .slice (some ad28) l3_0.length cl3_0) (pu_move e3) ?_
      refine mixE.gpure rfl (want_t rfl rfl (show _ = Value.bool (decide (2 ≤ (l3_0.length : Int))) from rfl) hq25) (v := .int .i64 (l3_0.length : Int)) (pu_len (A := (some ad28)) (n := l3_0.length) (m := cl3_0) Try.underlying27 rfl) ?_
      obtain ⟨z33, h34, hb⟩ := bd hb
      refine mixE.gpure rfl (want_t rfl rfl (show _ = Value.bool (decide (2 ≤ (l3_0.length : Int))) from rfl) hq25) (v := .int .i64 z33) (pu_subc (a := (l3_0.length : Int)) (b := 1) rfl rfl h34) ?_
      obtain ⟨x35, h36, hb⟩ := bd hb
      obtain ⟨ad37, cs38, hA, ho41, hc39, hr40⟩ := hS.elr2 (i := 0) rfl (get_some h36).2 []
      obtain rfl := Option.some.inj hA
      refine mixE.gpure rfl (want_t rfl rfl (show _ = Value.bool (decide (2 ≤ (l3_0.length : Int))) from rfl) hq25) (v := .pointer (some (ad28.add (z33.toNat * 1)))) (pu_index (a := z33) Try.underlying27 Try.sizeOf3 rfl rfl (get_some h36).1) ?_
      obtain ⟨rfl, hr40'⟩ := hr40
      refine mixE.gload rfl (want_t rfl rfl (show _ = Value.bool (decide (2 ≤ (l3_0.length : Int))) from rfl) hq25) hM (v := .int .i64 x35) (fun _ hF => ld_one Try.isAgg3 rfl (hF.cell (hc39 0 _ rfl) (off1 ho41))) ?_
      obtain ⟨z42, h43, hb⟩ := bd hb
      refine mixE.gpure rfl (want_t rfl rfl (show _ = Value.bool (decide (2 ≤ (l3_0.length : Int))) from rfl) hq25) (v := .int .i64 z42) (pu_negc (a := x35) rfl h43) ?_
      refine mixE.gpure rfl (want_t rfl rfl (show _ = Value.bool (decide (2 ≤ (l3_0.length : Int))) from rfl) hq25) (v := .bool (decide (x26 = z42))) (pu_eql (k := .i64) (a := x26) (b := z42) rfl rfl) ?_
      refine mixE.pure (v := .bool (decide (x26 = z42))) (pu_pickT (q := (decide (2 ≤ (l3_0.length : Int)))) rfl hq25 rfl) ?_
      refine mixE.nil ?_
      clear hS hM
      refine hK22 _ _ ?_
      refine Wc.cond (t := (decide (x26 = z42))) (rfl) (fun hq44 => ?_) (fun hq44 => ?_)
      · replace hb := (cT hq44).symm.trans hb
        refine Wc.skip ?_
        refine hK21 _ _ ?_
        refine Wc.fresh fun E45 hE => ?_
        have e2 : E45 2 = .slice none 0 0 := (congrFun hE 2).trans e2
        have e3 : E45 3 = .slice (some ad28) l3_0.length cl3_0 := (congrFun hE 3).trans e3
        have e23 : E45 23 = .bool (decide (x26 = z42)) := (congrFun hE 23).trans rfl
        clear hE
        refine Wc.block ?_
        refine Wc.region (by decide +kernel) ?_
        refine lex.pure (v := .slice (some ad28) l3_0.length cl3_0) (pu_move e3) ?_
        refine lex.pure (v := .slice (some ad28) l3_0.length cl3_0) (pu_move e3) ?_
        refine lex.pure (v := .int .i64 (l3_0.length : Int)) (pu_len (A := (some ad28)) (n := l3_0.length) (m := cl3_0) Try.underlying27 rfl) ?_
        obtain ⟨z46, h47, hb⟩ := bd hb
        refine lex.pure (v := .int .i64 z46) (pu_subc (a := (l3_0.length : Int)) (b := 1) rfl rfl h47) ?_
        obtain ⟨u48, h49, hb⟩ := bd hb
        obtain ⟨A50, c51, hp54, hR55⟩ := pu_part_lh (a := 1) (b := z46) Try.underlying27 Try.sizeOf3 (hC.rd (i := 0) rfl) rfl (cut_some h49)
        refine lex.pure (v := .slice A50 (((l3_0.drop (1 : Int).toNat).take (z46.toNat - (1 : Int).toNat)).length) c51) (hp54 rfl rfl rfl) ?_
        replace hC := hC.ro hR55
        obtain ⟨-, hl52, hc53⟩ := (hC.rd (i := 0) rfl).sl_len
        refine lex.pure (v := .slice A50 (((l3_0.drop (1 : Int).toNat).take (z46.toNat - (1 : Int).toNat)).length) c51) (pu_assign rfl) ?_
        refine lex.nil ?_
        obtain rfl := Option.some.inj hb
        exact hK16 m17' _ _ (Nat.lt_succ_self _) ⟨((l3_0.drop (1 : Int).toNat).take (z46.toNat - (1 : Int).toNat)), A50, ((l3_0.drop (1 : Int).toNat).take (z46.toNat - (1 : Int).toNat)).length, c51, e2, rfl, hC.sel [0] (by decide), lN hl0⟩
      · replace hb := (cF hq44).symm.trans hb
        refine Wc.exit rfl ?_
        obtain rfl := Option.some.inj hb
        obtain rfl := (lX hl0).symm
        exact hK15 _ _ ⟨l3_0, (some ad28), l3_0.length, cl3_0, e2, e3, hC.sel [0] (by decide), hbK0⟩
    · replace hb := (cF hq25).symm.trans hb
      refine mixE.gskip (want_f rfl rfl (show _ = Value.bool (decide (2 ≤ (l3_0.length : Int))) from rfl) hq25) ?_
      refine mixE.gskip (want_f rfl rfl (show _ = Value.bool (decide (2 ≤ (l3_0.length : Int))) from rfl) hq25) ?_
      refine mixE.gskip (want_f rfl rfl (show _ = Value.bool (decide (2 ≤ (l3_0.length : Int))) from rfl) hq25) ?_
      refine mixE.gskip (want_f rfl rfl (show _ = Value.bool (decide (2 ≤ (l3_0.length : Int))) from rfl) hq25) ?_
      refine mixE.gskip (want_f rfl rfl (show _ = Value.bool (decide (2 ≤ (l3_0.length : Int))) from rfl) hq25) ?_
      refine mixE.gskip (want_f rfl rfl (show _ = Value.bool (decide (2 ≤ (l3_0.length : Int))) from rfl) hq25) ?_
      refine mixE.gskip (want_f rfl rfl (show _ = Value.bool (decide (2 ≤ (l3_0.length : Int))) from rfl) hq25) ?_
      refine mixE.gskip (want_f rfl rfl (show _ = Value.bool (decide (2 ≤ (l3_0.length : Int))) from rfl) hq25) ?_
      refine mixE.gskip (want_f rfl rfl (show _ = Value.bool (decide (2 ≤ (l3_0.length : Int))) from rfl) hq25) ?_
      refine mixE.gskip (want_f rfl rfl (show _ = Value.bool (decide (2 ≤ (l3_0.length : Int))) from rfl) hq25) ?_
      refine mixE.gskip (want_f rfl rfl (show _ = Value.bool (decide (2 ≤ (l3_0.length : Int))) from rfl) hq25) ?_
      refine mixE.pure (v := .bool false) (pu_pickF (q := (decide (2 ≤ (l3_0.length : Int)))) rfl hq25 rfl) ?_
      refine mixE.nil ?_
      clear hS hM
      refine hK22 _ _ ?_
      refine Wc.cond_false (rfl) ?_
      refine Wc.exit rfl ?_
      obtain rfl := Option.some.inj hb
      obtain rfl := (lX hl0).symm
      exact hK15 _ _ ⟨l3_0, Al3_0, l3_0.length, cl3_0, e2, e3, hC.sel [0] (by decide), hbK0⟩
  · clear hb hC hl0
    rintro E58 w57 ⟨l3_0, Al3_0, ml3_0, cl3_0, e2, e3, hC, hb⟩
    obtain ⟨rfl, hll3_0, hcl3_0⟩ := (hC.rd (i := 0) rfl).sl_len
    refine hK13 _ _ ?_
    refine Wc.seq fun K59 hK59 => ?_
    refine Wc.region (by decide +kernel) ?_
    refine lex.pure (v := .slice Al3_0 l3_0.length cl3_0) (pu_move e3) ?_
    obtain ⟨y60, h61, hb⟩ := bd hb
    refine lex.cl (⟨_, _, op_call (vs := [.slice Al3_0 l3_0.length cl3_0]) Try.call60 rfl rfl rfl, word_least_ok n hC.lt (hC.rd (i := 0) rfl) h61⟩) ?_
    rintro _ w63 ⟨rfl, hr62, hK⟩
    replace hC := hC.merge hK
    clear hK
    refine lex.pure (v := .int .i64 y60) (pu_assign rfl) ?_
    refine lex.nil ?_
    refine hK59 _ _ ?_
    refine Wc.seq fun K64 hK64 => ?_
    refine Wc.region (by decide +kernel) ?_
    refine lex.pure (v := .slice Al3_0 l3_0.length cl3_0) (pu_move e3) ?_
    refine lex.pure (v := .int .i64 (l3_0.length : Int)) (pu_len (A := Al3_0) (n := l3_0.length) (m := cl3_0) Try.underlying27 rfl) ?_
    obtain ⟨u65, h66, hb⟩ := bd hb
    refine lex.op (hC.make0 (s := (.int .i64)) (n := (l3_0.length : Int)) Try.underlying27 Try.type3 rfl rfl rfl rfl (pos_some h66).1 (pos_some h66).2 (by decide)) ?_
    rintro _ w71 ⟨A67, c68, rfl, hl69, hc70, hC, hF, hN⟩
    clear hF hN
    refine lex.pure (v := .slice A67 ((([] : List Int)).length) c68) (pu_assign rfl) ?_
    refine lex.nil ?_
    refine hK64 _ _ ?_
    refine Wc.seq fun K73 hK73 => ?_
    refine Wc.seq fun K74 hK74 => ?_
    refine Wc.region (by decide +kernel) ?_
    refine lex.pure (v := .slice Al3_0 l3_0.length cl3_0) (pu_move e3) ?_
    refine lex.pure (v := .int .i64 (l3_0.length : Int)) (pu_len (A := Al3_0) (n := l3_0.length) (m := cl3_0) Try.underlying27 rfl) ?_
    refine lex.pure (v := .bool (decide (0 < (l3_0.length : Int)))) (pu_gtr (k := .i64) (a := (l3_0.length : Int)) (b := 0) rfl rfl) ?_
    refine lex.nil ?_
    refine hK74 _ _ ?_
    refine Wc.fresh fun E75 hE => ?_
    have e2 : E75 2 = .slice none 0 0 := (congrFun hE 2).trans e2
    have e3 : E75 3 = .slice Al3_0 l3_0.length cl3_0 := (congrFun hE 3).trans e3
    have e4 : E75 4 = .int .i64 y60 := (congrFun hE 4).trans rfl
    have e5 : E75 5 = .slice A67 ((([] : List Int)).length) c68 := (congrFun hE 5).trans rfl
    have e36 : E75 36 = .bool (decide (0 < (l3_0.length : Int))) := (congrFun hE 36).trans rfl
    clear hE
    refine Wc.cond (t := (decide (0 < (l3_0.length : Int)))) (e36) (fun hq76 => ?_) (fun hq76 => ?_)
    · replace hb := (cT hq76).symm.trans hb
      refine Wc.regionMix [] (frm [] [.own 3 (.int .i64) (.slice A67 ((([] : List Int)).length) c68) ([] : List Int)] ([] : List Fact)) (fun _ => rfl) mixed (by decide +kernel) (by decide +kernel) fun w78 hw77 => ?_
      replace hC := hC.step (Fr.of_drew hw77)
      have hM := Fr.refl (fun k => k ∈ blocks [.own 3 (.int .i64) (.slice A67 ((([] : List Int)).length) c68) ([] : List Int)]) w78
      clear hw77
      have hS := hC
      have hBf72 : Beside [.own 3 (.int .i64) (.slice A67 ((([] : List Int)).length) c68) ([] : List Int)] w78 (.slice A67 ((([] : List Int)).length) c68) := Beside.of (i := 0) rfl
      refine mixE.pure (v := .slice A67 ((([] : List Int)).length) c68) (pu_move e5) ?_
      refine mixE.pure (v := .slice Al3_0 l3_0.length cl3_0) (pu_move e3) ?_
      refine mixE.pure (v := .int .i64 y60) (pu_move e4) ?_
      obtain ⟨u79, h80, hb⟩ := bd hb
      obtain ⟨A81, c82, hp85, hR86⟩ := pu_part_l (a := y60)  Try.underlying27 Try.sizeOf3 (hC.rd (i := 1) rfl) rfl (cut_some h80)
      refine mixE.pure (v := .slice A81 (((l3_0.drop y60.toNat).take ((l3_0.length : Int).toNat - y60.toNat)).length) c82) (hp85 rfl rfl ) ?_
      replace hC := hC.ro hR86
      obtain ⟨-, hl83, hc84⟩ := (hC.rd (i := 0) rfl).sl_len
      obtain ⟨u88, h89, hb⟩ := bd hb
      refine mixE.op hM (hC.app (i := 1) (s := (.int .i64)) (xs := ([] : List Int)) (ys := ((l3_0.drop y60.toNat).take ((l3_0.length : Int).toNat - y60.toNat))) (m := (((l3_0.drop y60.toNat).take ((l3_0.length : Int).toNat - y60.toNat)).length)) rfl Try.underlying27 Try.underlying27 Try.type3 rfl rfl rfl (hC.srcr (i := 0) rfl) rfl rfl (by have := lim_some h89; simp at this ⊢ <;> omega) (by decide)) ?_
      rintro _ w94 ⟨A90, c91, rfl, hl92, hc93, hC, hF, hN⟩
      have hB := hBf72
      replace hBf72 := hB.app hM hN
      replace hM := hM.beside hB hF
      clear hB
      refine ⟨hM, ?_⟩
      clear hF hN
      refine mixE.pure (v := .slice Al3_0 l3_0.length cl3_0) (pu_move e3) ?_
      refine mixE.pure (v := .int .i64 y60) (pu_move e4) ?_
      obtain ⟨u95, h96, hb⟩ := bd hb
      obtain ⟨A97, c98, hp101, hR102⟩ := pu_part_h (b := y60) Try.underlying27 Try.sizeOf3 (hC.rd (i := 2) rfl) rfl (cut_some h96)
      refine mixE.pure (v := .slice A97 (((l3_0.drop (0 : Int).toNat).take (y60.toNat - (0 : Int).toNat)).length) c98) (hp101 rfl  rfl) ?_
      replace hC := hC.ro hR102
      obtain ⟨-, hl99, hc100⟩ := (hC.rd (i := 0) rfl).sl_len
      obtain ⟨u104, h105, hb⟩ := bd hb
      refine mixE.op hM (hC.app (i := 2) (s := (.int .i64)) (xs := (([] : List Int) ++ ((l3_0.drop y60.toNat).take ((l3_0.length : Int).toNat - y60.toNat)))) (ys := ((l3_0.drop (0 : Int).toNat).take (y60.toNat - (0 : Int).toNat))) (m := (((l3_0.drop (0 : Int).toNat).take (y60.toNat - (0 : Int).toNat)).length)) rfl Try.underlying27 Try.underlying27 Try.type3 rfl rfl rfl (hC.srcr (i := 0) rfl) rfl rfl (by have := lim_some h105; simp at this ⊢ <;> omega) (by decide)) ?_
      rintro _ w110 ⟨A106, c107, rfl, hl108, hc109, hC, hF, hN⟩
      have hB := hBf72
      replace hBf72 := hB.app hM hN
      replace hM := hM.beside hB hF
      clear hB
      refine ⟨hM, ?_⟩
      clear hF hN
      refine mixE.pure (v := .slice A106 (((([] : List Int) ++ ((l3_0.drop y60.toNat).take ((l3_0.length : Int).toNat - y60.toNat))) ++ ((l3_0.drop (0 : Int).toNat).take (y60.toNat - (0 : Int).toNat))).length) c107) (pu_assign rfl) ?_
      refine mixE.nil ?_
      clear hS hM
      refine hK73 _ _ ?_
      refine Wc.seq fun K111 hK111 => ?_
      refine Wc.region (by decide +kernel) ?_
      refine lex.pure (v := .slice A106 (((([] : List Int) ++ ((l3_0.drop y60.toNat).take ((l3_0.length : Int).toNat - y60.toNat))) ++ ((l3_0.drop (0 : Int).toNat).take (y60.toNat - (0 : Int).toNat))).length) c107) (pu_move rfl) ?_
      refine lex.pure (v := .slice A106 (((([] : List Int) ++ ((l3_0.drop y60.toNat).take ((l3_0.length : Int).toNat - y60.toNat))) ++ ((l3_0.drop (0 : Int).toNat).take (y60.toNat - (0 : Int).toNat))).length) c107) (pu_assign rfl) ?_
      refine lex.nil ?_
      refine hK111 _ _ ?_
      obtain rfl := Option.some.inj hb
      refine Wc.ret ?_
      refine hKR _ _ ?_
      refine ⟨_, res1 Try.results42 (show RV _ _ _ (.tmp _) (.slice A106 (((([] : List Int) ++ ((l3_0.drop y60.toNat).take ((l3_0.length : Int).toNat - y60.toNat))) ++ ((l3_0.drop (0 : Int).toNat).take (y60.toNat - (0 : Int).toNat))).length) c107) from rfl), _, rfl, A106, ((([] : List Int) ++ ((l3_0.drop y60.toNat).take ((l3_0.length : Int).toNat - y60.toNat))) ++ ((l3_0.drop (0 : Int).toNat).take (y60.toNat - (0 : Int).toNat))).length, c107, rfl, hC.sel [2] (by decide)⟩
    · replace hb := (cF hq76).symm.trans hb
      refine Wc.skip ?_
      refine hK73 _ _ ?_
      refine Wc.seq fun K112 hK112 => ?_
      refine Wc.region (by decide +kernel) ?_
      refine lex.pure (v := .slice A67 ((([] : List Int)).length) c68) (pu_move e5) ?_
      refine lex.pure (v := .slice A67 ((([] : List Int)).length) c68) (pu_assign rfl) ?_
      refine lex.nil ?_
      refine hK112 _ _ ?_
      obtain rfl := Option.some.inj hb
      refine Wc.ret ?_
      refine hKR _ _ ?_
      refine ⟨_, res1 Try.results42 (show RV _ _ _ (.tmp _) (.slice A67 ((([] : List Int)).length) c68) from rfl), _, rfl, A67, (([] : List Int)).length, c68, rfl, hC.sel [0] (by decide)⟩

set_option maxRecDepth 100000 in
set_option maxHeartbeats 4000000 in
theorem word_Conjugate_ok (n : Nat) {w : World} {O0 : List Nat} (hO : ∀ k ∈ O0, k < w.heap.size) {Aa_0 : Option Addr} {ma_0 ca_0 : Nat} {a_0 : List Int} (ha_0 : Rep O0 w (.sl (.int .i64)) [.slice Aa_0 ma_0 ca_0] a_0) {Ab_1 : Option Addr} {mb_1 cb_1 : Nat} {b_1 : List Int} (hb_1 : Rep O0 w (.sl (.int .i64)) [.slice Ab_1 mb_1 cb_1] b_1) {r : Bool} (hb : F.word_Conjugate n a_0 b_1 = some r) :
    Calls Try.prog 25 #[.slice Aa_0 ma_0 ca_0, .slice Ab_1 mb_1 cb_1] w fun e w' => ∃ v, e = .returned v ∧ v = .bool r ∧ Cx (fun _ => False) O0 w w' [] := by
  unfold F.word_Conjugate at hb
  have hC := Cx.start hO
  replace hC := hC.arg rfl ha_0
  replace hC := hC.arg rfl hb_1
  clear hO
  obtain ⟨rfl, hla_0, hca_0⟩ := ha_0.sl_len
  obtain ⟨rfl, hlb_1, hcb_1⟩ := hb_1.sl_len
  refine calls_of_Wc Try.func25 rfl (by rw [Try.ntmps25]; exact Nat.le_of_ble_eq_true rfl) fun KR hKR => ?_
  refine Wc.seq fun K3 hK3 => ?_
  refine Wc.region (by decide +kernel) ?_
  refine lex.pure (v := .bool false) (pu_assign rfl) ?_
  refine lex.nil ?_
  refine hK3 _ _ ?_
  refine Wc.seq fun K4 hK4 => ?_
  refine Wc.region (by decide +kernel) ?_
  refine lex.pure (v := .slice Aa_0 a_0.length ca_0) (pu_move rfl) ?_
  obtain ⟨y5, h6, hb⟩ := bd hb
  refine lex.cl (⟨_, _, op_call (vs := [.slice Aa_0 a_0.length ca_0]) Try.call42 rfl rfl rfl, word_Cyclic_ok n hC.lt (hC.rd (i := 1) rfl) h6⟩) ?_
  rintro _ w11 ⟨A7, m8, c9, rfl, hK⟩
  replace hC := hC.merge hK
  clear hK
  obtain ⟨rfl, hl12, hc13⟩ := (hC.ow (i := 0) rfl).sl_len
  refine lex.pure (v := .slice Ab_1 b_1.length cb_1) (pu_move rfl) ?_
  obtain ⟨y14, h15, hb⟩ := bd hb
  refine lex.cl (⟨_, _, op_call (vs := [.slice Ab_1 b_1.length cb_1]) Try.call42 rfl rfl rfl, word_Cyclic_ok n hC.lt (hC.rd (i := 1) rfl) h15⟩) ?_
  rintro _ w20 ⟨A16, m17, c18, rfl, hK⟩
  replace hC := hC.merge hK
  clear hK
  obtain ⟨rfl, hl21, hc22⟩ := (hC.ow (i := 0) rfl).sl_len
  obtain ⟨y23, h24, hb⟩ := bd hb
  refine lex.cl (⟨_, _, op_call (vs := [.slice A7 y5.length c9, .slice A16 y14.length c18]) Try.call24 rfl rfl rfl, slices_Equal_Word_int_ok n (hC.lentLt [.slice A7 y5.length c9, .slice A16 y14.length c18]) ((hC.ow (i := 1) rfl).lend (vs := [.slice A7 y5.length c9, .slice A16 y14.length c18]) (by simp)) ((hC.ow (i := 0) rfl).lend (vs := [.slice A7 y5.length c9, .slice A16 y14.length c18]) (by simp)) h24⟩) ?_
  rintro _ w25 ⟨rfl, hK⟩
  replace hC := hC.mergeF hK rfl
  clear hK
  refine lex.pure (v := .bool y23) (pu_assign rfl) ?_
  refine lex.nil ?_
  refine hK4 _ _ ?_
  obtain rfl := Option.some.inj hb
  refine Wc.ret ?_
  refine hKR _ _ ?_
  refine ⟨_, res1 Try.results25 (show RV _ _ _ (.tmp _) (.bool y23) from rfl), _, rfl, rfl, hC.sel [] (by decide)⟩

set_option maxRecDepth 100000 in
set_option maxHeartbeats 4000000 in
theorem law35_ArtinFixes_ok (n : Nat) {w : World} {O0 : List Nat} (hO : ∀ k ∈ O0, k < w.heap.size) {b_0_0 : Int} (hb_0_0 : I64 b_0_0) {Ab_0_1 : Option Addr} {mb_0_1 cb_0_1 : Nat} {b_0_1 : List Int} (hb_0_1 : Rep O0 w (.sl (.int .i64)) [.slice Ab_0_1 mb_0_1 cb_0_1] b_0_1) {r : Bool} (hb : F.law35_ArtinFixes n b_0_0 b_0_1 = some r) :
    Calls Try.prog 6 #[.agg #[.int .i64 b_0_0, .slice Ab_0_1 mb_0_1 cb_0_1]] w fun e w' => ∃ v, e = .returned v ∧ v = .bool r ∧ Cx (fun _ => False) O0 w w' [] := by
  unfold F.law35_ArtinFixes at hb
  have hC := Cx.start hO
  replace hC := hC.arg rfl hb_0_1
  clear hO
  obtain ⟨rfl, hlb_0_1, hcb_0_1⟩ := hb_0_1.sl_len
  refine calls_of_Wc Try.func6 rfl (by rw [Try.ntmps6]; exact Nat.le_of_ble_eq_true rfl) fun KR hKR => ?_
  refine Wc.seq fun K2 hK2 => ?_
  refine Wc.region (by decide +kernel) ?_
  refine lex.op (hC.box (cs := [.int .i64 b_0_0, .slice Ab_0_1 b_0_1.length cb_0_1]) rfl rfl) ?_
  rintro _ w4 ⟨g3, rfl, hC, hF, hG⟩
  clear hG
  refine lex.pure (v := .bool false) (pu_assign rfl) ?_
  refine lex.nil ?_
  refine hK2 _ _ ?_
  refine Wc.seq fun K6 hK6 => ?_
  refine Wc.seq fun K7 hK7 => ?_
  refine Wc.region (by decide +kernel) ?_
  obtain ⟨y8, h9, hb⟩ := bd hb
  refine lex.cl (⟨_, _, op_call (vs := []) Try.call9 rfl rfl rfl, law35_awake_ok n hC.lt  h9⟩) ?_
  rintro _ w10 ⟨rfl, hK⟩
  replace hC := hC.merge hK
  clear hK
  refine lex.pure (v := .bool (!y8)) (pu_not (q := y8) rfl) ?_
  refine lex.nil ?_
  refine hK7 _ _ ?_
  refine Wc.cond (t := (!y8)) (rfl) (fun hq11 => ?_) (fun hq11 => ?_)
  · replace hb := (cT hq11).symm.trans hb
    refine Wc.seq fun K12 hK12 => ?_
    refine Wc.region (by decide +kernel) ?_
    refine lex.pure (v := .bool false) (pu_assign rfl) ?_
    refine lex.nil ?_
    refine hK12 _ _ ?_
    obtain rfl := Option.some.inj hb
    refine Wc.ret ?_
    refine hKR _ _ ?_
    refine ⟨_, res1 Try.results6 (show RV _ _ _ (.tmp _) (.bool false) from rfl), _, rfl, rfl, hC.sel [] (by decide)⟩
  · replace hb := (cF hq11).symm.trans hb
    refine Wc.skip ?_
    refine hK6 _ _ ?_
    refine Wc.seq fun K13 hK13 => ?_
    refine Wc.seq fun K14 hK14 => ?_
    refine Wc.region (by decide +kernel) ?_
    refine lex.val (v := .agg #[.int .i64 b_0_0, .slice Ab_0_1 b_0_1.length cb_0_1]) (ld_blk (hC.bx (i := 0) rfl) Try.isAgg24 Try.sizeOf24 rfl) ?_
    obtain ⟨y15, h16, hb⟩ := bd hb
    refine lex.cl (⟨_, _, op_call (vs := [.agg #[.int .i64 b_0_0, .slice Ab_0_1 b_0_1.length cb_0_1]]) Try.call10 rfl rfl rfl, law35_great_ok n hC.lt hb_0_0 (hC.rd (i := 1) rfl) h16⟩) ?_
    rintro _ w17 ⟨rfl, hK⟩
    replace hC := hC.merge hK
    clear hK
    refine lex.pure (v := .bool y15) (pu_move rfl) ?_
    rcases bS y15 with hq18 | hq18
    · replace hb := (cT hq18).symm.trans hb
      refine lex.gskip (want_f rfl rfl (show _ = Value.bool y15 from rfl) hq18) ?_
      refine lex.gskip (want_f rfl rfl (show _ = Value.bool y15 from rfl) hq18) ?_
      refine lex.gskip (want_f rfl rfl (show _ = Value.bool y15 from rfl) hq18) ?_
      refine lex.pure (v := .bool true) (pu_pickT (q := y15) rfl hq18 rfl) ?_
      refine lex.nil ?_
      refine hK14 _ _ ?_
      refine Wc.cond_true (rfl) ?_
      refine Wc.seq fun K19 hK19 => ?_
      refine Wc.region (by decide +kernel) ?_
      refine lex.pure (v := .bool true) (pu_assign rfl) ?_
      refine lex.nil ?_
      refine hK19 _ _ ?_
      obtain rfl := Option.some.inj hb
      refine Wc.ret ?_
      refine hKR _ _ ?_
      refine ⟨_, res1 Try.results6 (show RV _ _ _ (.tmp _) (.bool true) from rfl), _, rfl, rfl, hC.sel [] (by decide)⟩
    · replace hb := (cF hq18).symm.trans hb
      refine lex.gval (want_t rfl rfl (show _ = Value.bool y15 from rfl) hq18) (v := .agg #[.int .i64 b_0_0, .slice Ab_0_1 b_0_1.length cb_0_1]) (ld_blk (hC.bx (i := 0) rfl) Try.isAgg24 Try.sizeOf24 rfl) ?_
      obtain ⟨y20, h21, hb⟩ := bd hb
      refine lex.gcl (want_t rfl rfl (show _ = Value.bool y15 from rfl) hq18) (⟨_, _, op_call (vs := [.agg #[.int .i64 b_0_0, .slice Ab_0_1 b_0_1.length cb_0_1]]) Try.call16 rfl rfl rfl, braid_Valid_ok n hC.lt hb_0_0 (hC.rd (i := 1) rfl) h21⟩) ?_
      rintro _ w22 ⟨rfl, hK⟩
      replace hC := hC.merge hK
      clear hK
      refine lex.gpure (want_t rfl rfl (show _ = Value.bool y15 from rfl) hq18) (v := .bool (!y20)) (pu_not (q := y20) rfl) ?_
      refine lex.pure (v := .bool (!y20)) (pu_pickF (q := y15) rfl hq18 rfl) ?_
      refine lex.nil ?_
      refine hK14 _ _ ?_
      refine Wc.cond (t := (!y20)) (rfl) (fun hq23 => ?_) (fun hq23 => ?_)
      · replace hb := (cT hq23).symm.trans hb
        refine Wc.seq fun K24 hK24 => ?_
        refine Wc.region (by decide +kernel) ?_
        refine lex.pure (v := .bool true) (pu_assign rfl) ?_
        refine lex.nil ?_
        refine hK24 _ _ ?_
        obtain rfl := Option.some.inj hb
        refine Wc.ret ?_
        refine hKR _ _ ?_
        refine ⟨_, res1 Try.results6 (show RV _ _ _ (.tmp _) (.bool true) from rfl), _, rfl, rfl, hC.sel [] (by decide)⟩
      · replace hb := (cF hq23).symm.trans hb
        refine Wc.skip ?_
        refine hK13 _ _ ?_
        refine Wc.fresh fun E25 hE => ?_
        have e1 : E25 1 = .pointer (some ⟨g3, 0, none⟩) := (congrFun hE 1).trans rfl
        have e2 : E25 2 = .bool false := (congrFun hE 2).trans rfl
        clear hE
        refine Wc.seq fun K26 hK26 => ?_
        refine Wc.region (by decide +kernel) ?_
        refine lex.pure (v := .slice none 0 0) (pu_assign rfl) ?_
        refine lex.nil ?_
        refine hK26 _ _ ?_
        refine Wc.seq fun K27 hK27 => ?_
        refine Wc.seq fun K28 hK28 => ?_
        refine Wc.region (by decide +kernel) ?_
        refine lex.pure (v := .pointer (some ((⟨g3, 0, none⟩ : Addr).add 0))) (pu_field (sz := 1) Try.underlying24 rfl Try.sizeOf3 (by decide) rfl e1) ?_
        refine lex.val (v := .int .i64 b_0_0) (ld_fld (hC.bx (i := 0) rfl) Try.isAgg3 rfl rfl) ?_
        refine lex.pure (v := .int .i64 0) (pu_move rfl) ?_
        refine lex.nil ?_
        refine hK28 _ _ ?_
        replace hC := hC.nil 3 (.int .i64)
        obtain ⟨o30, hl0, hb⟩ := bd hb
        refine Wc.cut (fun E wv => ∃ (l3_0 : List Int) (v23_0 : Int) (Al3_0 : Option Addr) (ml3_0 cl3_0 : Nat), E 1 = .pointer (some ⟨g3, 0, none⟩) ∧ E 2 = .bool false ∧ E 3 = .slice Al3_0 ml3_0 cl3_0 ∧ I64 v23_0 ∧ Cx (fun _ => False) O0 w wv [.box g3 24 [.int .i64 b_0_0, .slice Ab_0_1 b_0_1.length cb_0_1], .ro (.sl (.int .i64)) [.slice Ab_0_1 b_0_1.length cb_0_1] b_0_1, .own 3 (.int .i64) (.slice Al3_0 ml3_0 cl3_0) l3_0] ∧ ((F.artin_Act n b_0_0 b_0_1 l3_0).bind fun y62 => (F.artin_Images n b_0_0 b_0_1).bind fun y73 => (F.braid_Perm n b_0_0 b_0_1).bind fun y85 => cond (!(decide (y62.2 = 0))) (some false) (cond (!(decide (y73.2 = 0))) (some false) ((F.slices_Equal_Word_int n y62.1 l3_0).bind fun y100 => cond (!y100) (some false) (cond (!(decide ((y73.1.length : Int) = b_0_0))) (some false) (cond (!(decide ((y85.length : Int) = b_0_0))) (some false) (((loopN n (F.law35_ArtinFixes_b1 n y73 y85) 0).bind fun o112 => match o112 with     | (.inl v73_1) => some true     | (.inr q) => some q)))))) : Option (Bool)) = some r) (fun K31 hK31 => ?_) ?_
        · refine Wc.block ?_
          refine Wc.loop (fun m E wv => ∃ (l3_0 : List Int) (v23_0 : Int) (Al3_0 : Option Addr) (ml3_0 cl3_0 : Nat), E 1 = .pointer (some ⟨g3, 0, none⟩) ∧ E 2 = .bool false ∧ E 3 = .slice Al3_0 ml3_0 cl3_0 ∧ E 22 = .int .i64 b_0_0 ∧ E 23 = .int .i64 v23_0 ∧ I64 v23_0 ∧ Cx (fun _ => False) O0 w wv [.box g3 24 [.int .i64 b_0_0, .slice Ab_0_1 b_0_1.length cb_0_1], .ro (.sl (.int .i64)) [.slice Ab_0_1 b_0_1.length cb_0_1] b_0_1, .own 3 (.int .i64) (.slice Al3_0 ml3_0 cl3_0) l3_0] ∧ loopN m (F.law35_ArtinFixes_b0 n b_0_0) (l3_0, v23_0) = some o30) n ⟨([] : List Int), 0, none, 0, 0, e1, e2, rfl, rfl, rfl, (show I64 0 from by unfold I64; omega), hC.sel [1, 2, 0] (by decide), hl0⟩ ?_
          have hbK0 := hb
          clear hb hC hl0
          rintro m33 E35 w34 ⟨l3_0, v23_0, Al3_0, ml3_0, cl3_0, e1, e2, e3, e22, e23, hrv23_0, hC, hl0⟩ K32 hK32
          obtain ⟨m33', o36, rfl, hb, hl0⟩ := loopN_some hl0
          unfold F.law35_ArtinFixes_b0 at hb
          obtain ⟨rfl, hll3_0, hcl3_0⟩ := (hC.ow (i := 2) rfl).sl_len
          refine Wc.seq fun K37 hK37 => ?_
          refine Wc.region (by decide +kernel) ?_
          refine lex.pure (v := .bool (decide (v23_0 < b_0_0))) (pu_lss (k := .i64) (a := v23_0) (b := b_0_0) e23 e22) ?_
          refine lex.nil ?_
          refine hK37 _ _ ?_
          refine Wc.seq fun K38 hK38 => ?_
          refine Wc.cond (t := (decide (v23_0 < b_0_0))) (rfl) (fun hq39 => ?_) (fun hq39 => ?_)
          · replace hb := (cT hq39).symm.trans hb
            refine Wc.skip ?_
            refine hK38 _ _ ?_
            refine Wc.seq fun K40 hK40 => ?_
            refine Wc.block ?_
            refine Wc.seq fun K41 hK41 => ?_
            refine Wc.region (by decide +kernel) ?_
            refine lex.pure (v := .int .i64 v23_0) (pu_move e23) ?_
            refine lex.pure (v := .int .i64 v23_0) (pu_assign rfl) ?_
            refine lex.nil ?_
            refine hK41 _ _ ?_
            refine Wc.region (by decide +kernel) ?_
            refine lex.pure (v := .slice Al3_0 l3_0.length cl3_0) (pu_move e3) ?_
            refine lex.pure (v := .int .i64 v23_0) (pu_move rfl) ?_
            obtain ⟨z42, h43, hb⟩ := bd hb
            refine lex.pure (v := .int .i64 z42) (pu_addc (a := v23_0) (b := 1) rfl rfl h43) ?_
            refine lex.op (hC.lit (s := (.int .i64)) (vs := [.int .i64 z42]) (xs := [z42]) Try.underlying27 Try.type3 rfl rfl (Nat.le_of_ble_eq_true rfl) rfl rfl (by simp [Value.cells, Sh.n]) rfl (show Elems _ _ (.int .i64) ([.int .i64 z42] ++ ([])) ([z42] : List Int) from Elems.cons (⟨rfl, I64.wr (chk_rng h43)⟩) (Elems.nil _ _ _))) ?_
            rintro _ w48 ⟨A44, c45, rfl, hl46, hc47, hC, hF, hN⟩
            clear hF hN
            obtain ⟨u50, h51, hb⟩ := bd hb
            refine lex.op (hC.app (i := 3) (s := (.int .i64)) (xs := l3_0) (ys := ([z42] : List Int)) (m := ((([z42] : List Int)).length)) rfl Try.underlying27 Try.underlying27 Try.type3 rfl rfl rfl (hC.srco (i := 0) rfl) rfl rfl (by have := lim_some h51; simp at this ⊢ <;> omega) (by decide)) ?_
            rintro _ w56 ⟨A52, c53, rfl, hl54, hc55, hC, hF, hN⟩
            clear hF hN
            refine lex.pure (v := .slice A52 ((l3_0 ++ ([z42] : List Int)).length) c53) (pu_assign rfl) ?_
            refine lex.nil ?_
            refine hK40 _ _ ?_
            refine Wc.region (by decide +kernel) ?_
            obtain ⟨z57, h58, hb⟩ := bd hb
            refine lex.pure (v := .int .i64 z57) (pu_addc (a := v23_0) (b := 1) e23 rfl h58) ?_
            refine lex.pure (v := .int .i64 z57) (pu_move rfl) ?_
            refine lex.nil ?_
            obtain rfl := Option.some.inj hb
            exact hK32 m33' _ _ (Nat.lt_succ_self _) ⟨(l3_0 ++ ([z42] : List Int)), z57, A52, (l3_0 ++ ([z42] : List Int)).length, c53, e1, e2, rfl, e22, rfl, (chk_rng h58), hC.sel [1, 2, 3] (by decide), lN hl0⟩
          · replace hb := (cF hq39).symm.trans hb
            refine Wc.exit rfl ?_
            obtain rfl := Option.some.inj hb
            obtain rfl := (lX hl0).symm
            exact hK31 _ _ ⟨l3_0, v23_0, Al3_0, l3_0.length, cl3_0, e1, e2, e3, hrv23_0, hC.sel [0, 1, 2] (by decide), hbK0⟩
        · clear hb hC hl0
          rintro E60 w59 ⟨l3_0, v23_0, Al3_0, ml3_0, cl3_0, e1, e2, e3, hrv23_0, hC, hb⟩
          obtain ⟨rfl, hll3_0, hcl3_0⟩ := (hC.ow (i := 2) rfl).sl_len
          refine hK27 _ _ ?_
          refine Wc.seq fun K61 hK61 => ?_
          refine Wc.region (by decide +kernel) ?_
          refine lex.val (v := .agg #[.int .i64 b_0_0, .slice Ab_0_1 b_0_1.length cb_0_1]) (ld_blk (hC.bx (i := 0) rfl) Try.isAgg24 Try.sizeOf24 e1) ?_
          refine lex.pure (v := .slice Al3_0 l3_0.length cl3_0) (pu_move e3) ?_
          obtain ⟨y62, h63, hb⟩ := bd hb
          refine lex.cl (⟨_, _, op_call (vs := [.agg #[.int .i64 b_0_0, .slice Ab_0_1 b_0_1.length cb_0_1], .slice Al3_0 l3_0.length cl3_0]) Try.call11 rfl rfl rfl, artin_Act_ok n (hC.lentLt [.slice Al3_0 l3_0.length cl3_0]) hb_0_0 ((hC.rd (i := 1) rfl).lent [.slice Al3_0 l3_0.length cl3_0]) ((hC.ow (i := 2) rfl).lend (vs := [.slice Al3_0 l3_0.length cl3_0]) (by simp)) h63⟩) ?_
          rintro _ w69 ⟨A64, m65, c66, rfl, hr68, hK⟩
          replace hC := hC.mergeF hK rfl
          clear hK
          obtain ⟨rfl, hl70, hc71⟩ := (hC.ow (i := 0) rfl).sl_len
          refine lex.pure (v := .tuple #[.slice A64 y62.1.length c66, .int .i64 y62.2]) (pu_move rfl) ?_
          refine lex.pure (v := .slice A64 y62.1.length c66) (pu_extract rfl rfl) ?_
          refine lex.pure (v := .int .i64 y62.2) (pu_extract rfl rfl) ?_
          refine lex.pure (v := .slice A64 y62.1.length c66) (pu_assign rfl) ?_
          refine lex.pure (v := .int .i64 y62.2) (pu_assign rfl) ?_
          refine lex.nil ?_
          refine hK61 _ _ ?_
          refine Wc.seq fun K72 hK72 => ?_
          refine Wc.region (by decide +kernel) ?_
          refine lex.val (v := .agg #[.int .i64 b_0_0, .slice Ab_0_1 b_0_1.length cb_0_1]) (ld_blk (hC.bx (i := 1) rfl) Try.isAgg24 Try.sizeOf24 e1) ?_
          obtain ⟨y73, h74, hb⟩ := bd hb
          refine lex.cl (⟨_, _, op_call (vs := [.agg #[.int .i64 b_0_0, .slice Ab_0_1 b_0_1.length cb_0_1]]) Try.call17 rfl rfl rfl, artin_Images_ok n hC.lt hb_0_0 (hC.rd (i := 2) rfl) h74⟩) ?_
          rintro _ w80 ⟨A75, m76, c77, rfl, hr79, hK⟩
          replace hC := hC.merge hK
          clear hK
          obtain ⟨rfl, hl81, hc82⟩ := (hC.ow (i := 0) rfl).sl_len
          refine lex.pure (v := .tuple #[.slice A75 y73.1.length c77, .int .i64 y73.2]) (pu_move rfl) ?_
          refine lex.pure (v := .slice A75 y73.1.length c77) (pu_extract rfl rfl) ?_
          refine lex.pure (v := .int .i64 y73.2) (pu_extract rfl rfl) ?_
          refine lex.pure (v := .slice A75 y73.1.length c77) (pu_assign rfl) ?_
          refine lex.pure (v := .int .i64 y73.2) (pu_assign rfl) ?_
          refine lex.nil ?_
          refine hK72 _ _ ?_
          refine Wc.fresh fun E83 hE => ?_
          have e1 : E83 1 = .pointer (some ⟨g3, 0, none⟩) := (congrFun hE 1).trans e1
          have e2 : E83 2 = .bool false := (congrFun hE 2).trans e2
          have e3 : E83 3 = .slice Al3_0 l3_0.length cl3_0 := (congrFun hE 3).trans e3
          have e5 : E83 5 = .slice A64 y62.1.length c66 := (congrFun hE 5).trans rfl
          have e6 : E83 6 = .int .i64 y62.2 := (congrFun hE 6).trans rfl
          have e7 : E83 7 = .slice A75 y73.1.length c77 := (congrFun hE 7).trans rfl
          have e8 : E83 8 = .int .i64 y73.2 := (congrFun hE 8).trans rfl
          clear hE
          refine Wc.seq fun K84 hK84 => ?_
          refine Wc.region (by decide +kernel) ?_
          refine lex.val (v := .agg #[.int .i64 b_0_0, .slice Ab_0_1 b_0_1.length cb_0_1]) (ld_blk (hC.bx (i := 2) rfl) Try.isAgg24 Try.sizeOf24 e1) ?_
          obtain ⟨y85, h86, hb⟩ := bd hb
          refine lex.cl (⟨_, _, op_call (vs := [.agg #[.int .i64 b_0_0, .slice Ab_0_1 b_0_1.length cb_0_1]]) Try.call23 rfl rfl rfl, braid_Perm_ok n hC.lt hb_0_0 (hC.rd (i := 3) rfl) h86⟩) ?_
          rintro _ w91 ⟨A87, m88, c89, rfl, hK⟩
          replace hC := hC.merge hK
          clear hK
          obtain ⟨rfl, hl92, hc93⟩ := (hC.ow (i := 0) rfl).sl_len
          refine lex.pure (v := .slice A87 y85.length c89) (pu_assign rfl) ?_
          refine lex.nil ?_
          refine hK84 _ _ ?_
          refine Wc.seq fun K94 hK94 => ?_
          refine Wc.seq fun K95 hK95 => ?_
          refine Wc.region (by decide +kernel) ?_
          refine lex.pure (v := .int .i64 y62.2) (pu_move e6) ?_
          refine lex.pure (v := .bool (!(decide (y62.2 = 0)))) (pu_neq (k := .i64) (a := y62.2) (b := 0) rfl rfl) ?_
          refine lex.pure (v := .bool (!(decide (y62.2 = 0)))) (pu_move rfl) ?_
          rcases bS (!(decide (y62.2 = 0))) with hq96 | hq96
          · replace hb := (cT hq96).symm.trans hb
            refine lex.gskip (want_f rfl rfl (show _ = Value.bool (!(decide (y62.2 = 0))) from rfl) hq96) ?_
            refine lex.gskip (want_f rfl rfl (show _ = Value.bool (!(decide (y62.2 = 0))) from rfl) hq96) ?_
            refine lex.pure (v := .bool true) (pu_pickT (q := (!(decide (y62.2 = 0)))) rfl hq96 rfl) ?_
            refine lex.pure (v := .bool true) (pu_move rfl) ?_
            refine lex.gskip (want_f rfl rfl (show _ = Value.bool true from rfl) rfl) ?_
            refine lex.gskip (want_f rfl rfl (show _ = Value.bool true from rfl) rfl) ?_
            refine lex.gskip (want_f rfl rfl (show _ = Value.bool true from rfl) rfl) ?_
            refine lex.gskip (want_f rfl rfl (show _ = Value.bool true from rfl) rfl) ?_
            refine lex.pure (v := .bool true) (pu_pickT (q := true) rfl rfl rfl) ?_
            refine lex.pure (v := .bool true) (pu_move rfl) ?_
            refine lex.gskip (want_f rfl rfl (show _ = Value.bool true from rfl) rfl) ?_
            refine lex.gskip (want_f rfl rfl (show _ = Value.bool true from rfl) rfl) ?_
            refine lex.gskip (want_f rfl rfl (show _ = Value.bool true from rfl) rfl) ?_
            refine lex.gskip (want_f rfl rfl (show _ = Value.bool true from rfl) rfl) ?_
            refine lex.gskip (want_f rfl rfl (show _ = Value.bool true from rfl) rfl) ?_
            refine lex.pure (v := .bool true) (pu_pickT (q := true) rfl rfl rfl) ?_
            refine lex.pure (v := .bool true) (pu_move rfl) ?_
            refine lex.gskip (want_f rfl rfl (show _ = Value.bool true from rfl) rfl) ?_
            refine lex.gskip (want_f rfl rfl (show _ = Value.bool true from rfl) rfl) ?_
            refine lex.gskip (want_f rfl rfl (show _ = Value.bool true from rfl) rfl) ?_
            refine lex.gskip (want_f rfl rfl (show _ = Value.bool true from rfl) rfl) ?_
            refine lex.gskip (want_f rfl rfl (show _ = Value.bool true from rfl) rfl) ?_
            refine lex.pure (v := .bool true) (pu_pickT (q := true) rfl rfl rfl) ?_
            refine lex.nil ?_
            refine hK95 _ _ ?_
            refine Wc.cond_true (rfl) ?_
            refine Wc.seq fun K97 hK97 => ?_
            refine Wc.region (by decide +kernel) ?_
            refine lex.pure (v := .bool false) (pu_assign rfl) ?_
            refine lex.nil ?_
            refine hK97 _ _ ?_
            obtain rfl := Option.some.inj hb
            refine Wc.ret ?_
            refine hKR _ _ ?_
            refine ⟨_, res1 Try.results6 (show RV _ _ _ (.tmp _) (.bool false) from rfl), _, rfl, rfl, hC.sel [] (by decide)⟩
          · replace hb := (cF hq96).symm.trans hb
            refine lex.gpure (want_t rfl rfl (show _ = Value.bool (!(decide (y62.2 = 0))) from rfl) hq96) (v := .int .i64 y73.2) (pu_move e8) ?_
            refine lex.gpure (want_t rfl rfl (show _ = Value.bool (!(decide (y62.2 = 0))) from rfl) hq96) (v := .bool (!(decide (y73.2 = 0)))) (pu_neq (k := .i64) (a := y73.2) (b := 0) rfl rfl) ?_
            refine lex.pure (v := .bool (!(decide (y73.2 = 0)))) (pu_pickF (q := (!(decide (y62.2 = 0)))) rfl hq96 rfl) ?_
            refine lex.pure (v := .bool (!(decide (y73.2 = 0)))) (pu_move rfl) ?_
            rcases bS (!(decide (y73.2 = 0))) with hq98 | hq98
            · replace hb := (cT hq98).symm.trans hb
              refine lex.gskip (want_f rfl rfl (show _ = Value.bool (!(decide (y73.2 = 0))) from rfl) hq98) ?_
              refine lex.gskip (want_f rfl rfl (show _ = Value.bool (!(decide (y73.2 = 0))) from rfl) hq98) ?_
              refine lex.gskip (want_f rfl rfl (show _ = Value.bool (!(decide (y73.2 = 0))) from rfl) hq98) ?_
              refine lex.gskip (want_f rfl rfl (show _ = Value.bool (!(decide (y73.2 = 0))) from rfl) hq98) ?_
              refine lex.pure (v := .bool true) (pu_pickT (q := (!(decide (y73.2 = 0)))) rfl hq98 rfl) ?_
              refine lex.pure (v := .bool true) (pu_move rfl) ?_
              refine lex.gskip (want_f rfl rfl (show _ = Value.bool true from rfl) rfl) ?_
              refine lex.gskip (want_f rfl rfl (show _ = Value.bool true from rfl) rfl) ?_
              refine lex.gskip (want_f rfl rfl (show _ = Value.bool true from rfl) rfl) ?_
              refine lex.gskip (want_f rfl rfl (show _ = Value.bool true from rfl) rfl) ?_
              refine lex.gskip (want_f rfl rfl (show _ = Value.bool true from rfl) rfl) ?_
              refine lex.pure (v := .bool true) (pu_pickT (q := true) rfl rfl rfl) ?_
              refine lex.pure (v := .bool true) (pu_move rfl) ?_
              refine lex.gskip (want_f rfl rfl (show _ = Value.bool true from rfl) rfl) ?_
              refine lex.gskip (want_f rfl rfl (show _ = Value.bool true from rfl) rfl) ?_
              refine lex.gskip (want_f rfl rfl (show _ = Value.bool true from rfl) rfl) ?_
              refine lex.gskip (want_f rfl rfl (show _ = Value.bool true from rfl) rfl) ?_
              refine lex.gskip (want_f rfl rfl (show _ = Value.bool true from rfl) rfl) ?_
              refine lex.pure (v := .bool true) (pu_pickT (q := true) rfl rfl rfl) ?_
              refine lex.nil ?_
              refine hK95 _ _ ?_
              refine Wc.cond_true (rfl) ?_
              refine Wc.seq fun K99 hK99 => ?_
              refine Wc.region (by decide +kernel) ?_
              refine lex.pure (v := .bool false) (pu_assign rfl) ?_
              refine lex.nil ?_
              refine hK99 _ _ ?_
              obtain rfl := Option.some.inj hb
              refine Wc.ret ?_
              refine hKR _ _ ?_
              refine ⟨_, res1 Try.results6 (show RV _ _ _ (.tmp _) (.bool false) from rfl), _, rfl, rfl, hC.sel [] (by decide)⟩
            · replace hb := (cF hq98).symm.trans hb
              refine lex.gpure (want_t rfl rfl (show _ = Value.bool (!(decide (y73.2 = 0))) from rfl) hq98) (v := .slice A64 y62.1.length c66) (pu_move e5) ?_
              refine lex.gpure (want_t rfl rfl (show _ = Value.bool (!(decide (y73.2 = 0))) from rfl) hq98) (v := .slice Al3_0 l3_0.length cl3_0) (pu_move e3) ?_
              obtain ⟨y100, h101, hb⟩ := bd hb
              refine lex.gcl (want_t rfl rfl (show _ = Value.bool (!(decide (y73.2 = 0))) from rfl) hq98) (⟨_, _, op_call (vs := [.slice A64 y62.1.length c66, .slice Al3_0 l3_0.length cl3_0]) Try.call24 rfl rfl rfl, slices_Equal_Word_int_ok n (hC.lentLt [.slice Al3_0 l3_0.length cl3_0, .slice A64 y62.1.length c66]) ((hC.ow (i := 2) rfl).lend (vs := [.slice Al3_0 l3_0.length cl3_0, .slice A64 y62.1.length c66]) (by simp)) ((hC.ow (i := 5) rfl).lend (vs := [.slice Al3_0 l3_0.length cl3_0, .slice A64 y62.1.length c66]) (by simp)) h101⟩) ?_
              rintro _ w102 ⟨rfl, hK⟩
              replace hC := hC.mergeF hK rfl
              clear hK
              refine lex.gpure (want_t rfl rfl (show _ = Value.bool (!(decide (y73.2 = 0))) from rfl) hq98) (v := .bool (!y100)) (pu_not (q := y100) rfl) ?_
              refine lex.pure (v := .bool (!y100)) (pu_pickF (q := (!(decide (y73.2 = 0)))) rfl hq98 rfl) ?_
              refine lex.pure (v := .bool (!y100)) (pu_move rfl) ?_
              rcases bS (!y100) with hq103 | hq103
              · replace hb := (cT hq103).symm.trans hb
                refine lex.gskip (want_f rfl rfl (show _ = Value.bool (!y100) from rfl) hq103) ?_
                refine lex.gskip (want_f rfl rfl (show _ = Value.bool (!y100) from rfl) hq103) ?_
                refine lex.gskip (want_f rfl rfl (show _ = Value.bool (!y100) from rfl) hq103) ?_
                refine lex.gskip (want_f rfl rfl (show _ = Value.bool (!y100) from rfl) hq103) ?_
                refine lex.gskip (want_f rfl rfl (show _ = Value.bool (!y100) from rfl) hq103) ?_
                refine lex.pure (v := .bool true) (pu_pickT (q := (!y100)) rfl hq103 rfl) ?_
                refine lex.pure (v := .bool true) (pu_move rfl) ?_
                refine lex.gskip (want_f rfl rfl (show _ = Value.bool true from rfl) rfl) ?_
                refine lex.gskip (want_f rfl rfl (show _ = Value.bool true from rfl) rfl) ?_
                refine lex.gskip (want_f rfl rfl (show _ = Value.bool true from rfl) rfl) ?_
                refine lex.gskip (want_f rfl rfl (show _ = Value.bool true from rfl) rfl) ?_
                refine lex.gskip (want_f rfl rfl (show _ = Value.bool true from rfl) rfl) ?_
                refine lex.pure (v := .bool true) (pu_pickT (q := true) rfl rfl rfl) ?_
                refine lex.nil ?_
                refine hK95 _ _ ?_
                refine Wc.cond_true (rfl) ?_
                refine Wc.seq fun K104 hK104 => ?_
                refine Wc.region (by decide +kernel) ?_
                refine lex.pure (v := .bool false) (pu_assign rfl) ?_
                refine lex.nil ?_
                refine hK104 _ _ ?_
                obtain rfl := Option.some.inj hb
                refine Wc.ret ?_
                refine hKR _ _ ?_
                refine ⟨_, res1 Try.results6 (show RV _ _ _ (.tmp _) (.bool false) from rfl), _, rfl, rfl, hC.sel [] (by decide)⟩
              · replace hb := (cF hq103).symm.trans hb
                refine lex.gpure (want_t rfl rfl (show _ = Value.bool (!y100) from rfl) hq103) (v := .slice A75 y73.1.length c77) (pu_move e7) ?_
                refine lex.gpure (want_t rfl rfl (show _ = Value.bool (!y100) from rfl) hq103) (v := .int .i64 (y73.1.length : Int)) (pu_len (A := A75) (n := y73.1.length) (m := c77) Try.underlying37 rfl) ?_
                refine lex.gpure (want_t rfl rfl (show _ = Value.bool (!y100) from rfl) hq103) (v := .pointer (some ((⟨g3, 0, none⟩ : Addr).add 0))) (pu_field (sz := 1) Try.underlying24 rfl Try.sizeOf3 (by decide) rfl e1) ?_
                refine lex.gval (want_t rfl rfl (show _ = Value.bool (!y100) from rfl) hq103) (v := .int .i64 b_0_0) (ld_fld (hC.bx (i := 3) rfl) Try.isAgg3 rfl rfl) ?_
                refine lex.gpure (want_t rfl rfl (show _ = Value.bool (!y100) from rfl) hq103) (v := .bool (!(decide ((y73.1.length : Int) = b_0_0)))) (pu_neq (k := .i64) (a := (y73.1.length : Int)) (b := b_0_0) rfl rfl) ?_
                refine lex.pure (v := .bool (!(decide ((y73.1.length : Int) = b_0_0)))) (pu_pickF (q := (!y100)) rfl hq103 rfl) ?_
                refine lex.pure (v := .bool (!(decide ((y73.1.length : Int) = b_0_0)))) (pu_move rfl) ?_
                rcases bS (!(decide ((y73.1.length : Int) = b_0_0))) with hq105 | hq105
                · replace hb := (cT hq105).symm.trans hb
                  refine lex.gskip (want_f rfl rfl (show _ = Value.bool (!(decide ((y73.1.length : Int) = b_0_0))) from rfl) hq105) ?_
                  refine lex.gskip (want_f rfl rfl (show _ = Value.bool (!(decide ((y73.1.length : Int) = b_0_0))) from rfl) hq105) ?_
                  refine lex.gskip (want_f rfl rfl (show _ = Value.bool (!(decide ((y73.1.length : Int) = b_0_0))) from rfl) hq105) ?_
                  refine lex.gskip (want_f rfl rfl (show _ = Value.bool (!(decide ((y73.1.length : Int) = b_0_0))) from rfl) hq105) ?_
                  refine lex.gskip (want_f rfl rfl (show _ = Value.bool (!(decide ((y73.1.length : Int) = b_0_0))) from rfl) hq105) ?_
                  refine lex.pure (v := .bool true) (pu_pickT (q := (!(decide ((y73.1.length : Int) = b_0_0)))) rfl hq105 rfl) ?_
                  refine lex.nil ?_
                  refine hK95 _ _ ?_
                  refine Wc.cond_true (rfl) ?_
                  refine Wc.seq fun K106 hK106 => ?_
                  refine Wc.region (by decide +kernel) ?_
                  refine lex.pure (v := .bool false) (pu_assign rfl) ?_
                  refine lex.nil ?_
                  refine hK106 _ _ ?_
                  obtain rfl := Option.some.inj hb
                  refine Wc.ret ?_
                  refine hKR _ _ ?_
                  refine ⟨_, res1 Try.results6 (show RV _ _ _ (.tmp _) (.bool false) from rfl), _, rfl, rfl, hC.sel [] (by decide)⟩
                · replace hb := (cF hq105).symm.trans hb
                  refine lex.gpure (want_t rfl rfl (show _ = Value.bool (!(decide ((y73.1.length : Int) = b_0_0))) from rfl) hq105) (v := .slice A87 y85.length c89) (pu_move rfl) ?_
                  refine lex.gpure (want_t rfl rfl (show _ = Value.bool (!(decide ((y73.1.length : Int) = b_0_0))) from rfl) hq105) (v := .int .i64 (y85.length : Int)) (pu_len (A := A87) (n := y85.length) (m := c89) Try.underlying52 rfl) ?_
                  refine lex.gpure (want_t rfl rfl (show _ = Value.bool (!(decide ((y73.1.length : Int) = b_0_0))) from rfl) hq105) (v := .pointer (some ((⟨g3, 0, none⟩ : Addr).add 0))) (pu_field (sz := 1) Try.underlying24 rfl Try.sizeOf3 (by decide) rfl e1) ?_
                  refine lex.gval (want_t rfl rfl (show _ = Value.bool (!(decide ((y73.1.length : Int) = b_0_0))) from rfl) hq105) (v := .int .i64 b_0_0) (ld_fld (hC.bx (i := 3) rfl) Try.isAgg3 rfl rfl) ?_
                  refine lex.gpure (want_t rfl rfl (show _ = Value.bool (!(decide ((y73.1.length : Int) = b_0_0))) from rfl) hq105) (v := .bool (!(decide ((y85.length : Int) = b_0_0)))) (pu_neq (k := .i64) (a := (y85.length : Int)) (b := b_0_0) rfl rfl) ?_
                  refine lex.pure (v := .bool (!(decide ((y85.length : Int) = b_0_0)))) (pu_pickF (q := (!(decide ((y73.1.length : Int) = b_0_0)))) rfl hq105 rfl) ?_
                  refine lex.nil ?_
                  refine hK95 _ _ ?_
                  refine Wc.cond (t := (!(decide ((y85.length : Int) = b_0_0)))) (rfl) (fun hq107 => ?_) (fun hq107 => ?_)
                  · replace hb := (cT hq107).symm.trans hb
                    refine Wc.seq fun K108 hK108 => ?_
                    refine Wc.region (by decide +kernel) ?_
                    refine lex.pure (v := .bool false) (pu_assign rfl) ?_
                    refine lex.nil ?_
                    refine hK108 _ _ ?_
                    obtain rfl := Option.some.inj hb
                    refine Wc.ret ?_
                    refine hKR _ _ ?_
                    refine ⟨_, res1 Try.results6 (show RV _ _ _ (.tmp _) (.bool false) from rfl), _, rfl, rfl, hC.sel [] (by decide)⟩
                  · replace hb := (cF hq107).symm.trans hb
                    refine Wc.skip ?_
                    refine hK94 _ _ ?_
                    refine Wc.fresh fun E109 hE => ?_
                    have e2 : E109 2 = .bool false := (congrFun hE 2).trans e2
                    have e7 : E109 7 = .slice A75 y73.1.length c77 := (congrFun hE 7).trans e7
                    have e9 : E109 9 = .slice A87 y85.length c89 := (congrFun hE 9).trans rfl
                    clear hE
                    refine Wc.seq fun K110 hK110 => ?_
                    refine Wc.seq fun K111 hK111 => ?_
                    refine Wc.region (by decide +kernel) ?_
                    refine lex.pure (v := .slice A75 y73.1.length c77) (pu_move e7) ?_
                    refine lex.pure (v := .int .i64 (y73.1.length : Int)) (pu_len (A := A75) (n := y73.1.length) (m := c77) Try.underlying37 rfl) ?_
                    refine lex.pure (v := .int .i64 0) (pu_move rfl) ?_
                    refine lex.nil ?_
                    refine hK111 _ _ ?_
                    obtain ⟨o112, hl1, hb⟩ := bd hb
                    refine Wc.cut (fun E wv => ∃ (v73_1 : Int), E 2 = .bool false ∧ I64 v73_1 ∧ Cx (fun _ => False) O0 w wv [] ∧ (some true : Option (Bool)) = some r) (fun K113 hK113 => ?_) ?_
                    · refine Wc.block ?_
                      refine Wc.loop (fun m E wv => ∃ (v73_1 : Int), E 2 = .bool false ∧ E 9 = .slice A87 y85.length c89 ∧ E 71 = .slice A75 y73.1.length c77 ∧ E 72 = .int .i64 (y73.1.length : Int) ∧ E 73 = .int .i64 v73_1 ∧ I64 v73_1 ∧ Cx (fun _ => False) O0 w wv [.own 3 (.int .i64) (.slice A87 y85.length c89) y85, .own 27 (.sl (.int .i64)) (.slice A75 y73.1.length c77) y73.1] ∧ loopN m (F.law35_ArtinFixes_b1 n y73 y85) v73_1 = some o112) n ⟨0, e2, e9, rfl, rfl, rfl, (show I64 0 from by unfold I64; omega), hC.sel [0, 1] (by decide), hl1⟩ ?_
                      have hbK1 := hb
                      clear hb hC hl1
                      rintro m115 E117 w116 ⟨v73_1, e2, e9, e71, e72, e73, hrv73_1, hC, hl1⟩ K114 hK114
                      obtain ⟨m115', o118, rfl, hb, hl1⟩ := loopN_some hl1
                      unfold F.law35_ArtinFixes_b1 at hb
                      refine Wc.seq fun K119 hK119 => ?_
                      refine Wc.region (by decide +kernel) ?_
                      refine lex.pure (v := .bool (decide (v73_1 < (y73.1.length : Int)))) (pu_lss (k := .i64) (a := v73_1) (b := (y73.1.length : Int)) e73 e72) ?_
                      refine lex.nil ?_
                      refine hK119 _ _ ?_
                      refine Wc.seq fun K120 hK120 => ?_
                      refine Wc.cond (t := (decide (v73_1 < (y73.1.length : Int)))) (rfl) (fun hq121 => ?_) (fun hq121 => ?_)
                      · replace hb := (cT hq121).symm.trans hb
                        refine Wc.skip ?_
                        refine hK120 _ _ ?_
                        refine Wc.seq fun K122 hK122 => ?_
                        refine Wc.block ?_
                        refine Wc.seq fun K123 hK123 => ?_
                        refine Wc.region (by decide +kernel) ?_
                        refine lex.pure (v := .int .i64 v73_1) (pu_move e73) ?_
                        obtain ⟨x124, h125, hb⟩ := bd hb
                        obtain ⟨ad126, cs127, hA, hc128, hr129⟩ := hC.elo (i := 1) rfl (get_some h125).2
                        subst hA
                        refine lex.pure (v := .pointer (some (ad126.add (v73_1.toNat * 1)))) (pu_index (a := v73_1) Try.underlying37 Try.sizeOf27 e71 e73 (get_some h125).1) ?_
                        have hR := hr129
                        obtain ⟨A130, c131, rfl, hl132, hc133, _⟩ := hr129
                        replace hC := hC.ro hR
                        clear hR
                        refine lex.val (v := .slice A130 x124.length c131) (ld_one Try.isAgg27 rfl (hc128 0 _ rfl)) ?_
                        refine lex.pure (v := .int .i64 v73_1) (pu_assign rfl) ?_
                        refine lex.pure (v := .slice A130 x124.length c131) (pu_assign rfl) ?_
                        refine lex.nil ?_
                        refine hK123 _ _ ?_
                        refine Wc.seq fun K135 hK135 => ?_
                        refine Wc.region (by decide +kernel) ?_
                        refine lex.pure (v := .slice A130 x124.length c131) (pu_move rfl) ?_
                        refine lex.pure (v := .slice A87 y85.length c89) (pu_move e9) ?_
                        refine lex.pure (v := .int .i64 v73_1) (pu_move rfl) ?_
                        obtain ⟨x136, h137, hb⟩ := bd hb
                        obtain ⟨ad138, cs139, hA, hc140, hr141⟩ := hC.elo (i := 1) rfl (get_some h137).2
                        subst hA
                        refine lex.pure (v := .pointer (some (ad138.add (v73_1.toNat * 1)))) (pu_index (a := v73_1) Try.underlying52 Try.sizeOf3 rfl rfl (get_some h137).1) ?_
                        obtain ⟨rfl, hr141'⟩ := hr141
                        refine lex.val (v := .int .i64 x136) (ld_one Try.isAgg3 rfl (hc140 0 _ rfl)) ?_
                        obtain ⟨z142, h143, hb⟩ := bd hb
                        refine lex.pure (v := .int .i64 z142) (pu_addc (a := x136) (b := 1) rfl rfl h143) ?_
                        refine lex.op (hC.lit (s := (.int .i64)) (vs := [.int .i64 z142]) (xs := [z142]) Try.underlying27 Try.type3 rfl rfl (Nat.le_of_ble_eq_true rfl) rfl rfl (by simp [Value.cells, Sh.n]) rfl (show Elems _ _ (.int .i64) ([.int .i64 z142] ++ ([])) ([z142] : List Int) from Elems.cons (⟨rfl, I64.wr (chk_rng h143)⟩) (Elems.nil _ _ _))) ?_
                        rintro _ w148 ⟨A144, c145, rfl, hl146, hc147, hC, hF, hN⟩
                        clear hF hN
                        obtain ⟨y150, h151, hb⟩ := bd hb
                        refine lex.cl (⟨_, _, op_call (vs := [.slice A130 x124.length c131, .slice A144 ((([z142] : List Int)).length) c145]) Try.call25 rfl rfl rfl, word_Conjugate_ok n (hC.lentLt [.slice A144 ((([z142] : List Int)).length) c145]) ((hC.rd (i := 1) rfl).lent [.slice A144 ((([z142] : List Int)).length) c145]) ((hC.ow (i := 0) rfl).lend (vs := [.slice A144 ((([z142] : List Int)).length) c145]) (by simp)) h151⟩) ?_
                        rintro _ w152 ⟨rfl, hK⟩
                        replace hC := hC.mergeF hK rfl
                        clear hK
                        refine lex.pure (v := .bool (!y150)) (pu_not (q := y150) rfl) ?_
                        refine lex.nil ?_
                        refine hK135 _ _ ?_
                        refine Wc.cond (t := (!y150)) (rfl) (fun hq153 => ?_) (fun hq153 => ?_)
                        · replace hb := (cT hq153).symm.trans hb
                          refine Wc.seq fun K154 hK154 => ?_
                          refine Wc.region (by decide +kernel) ?_
                          refine lex.pure (v := .bool false) (pu_assign rfl) ?_
                          refine lex.nil ?_
                          refine hK154 _ _ ?_
                          obtain rfl := Option.some.inj hb
                          obtain rfl := (lX hl1).symm
                          replace hb := hbK1
                          obtain rfl := Option.some.inj hb
                          refine Wc.ret ?_
                          refine hKR _ _ ?_
                          refine ⟨_, res1 Try.results6 (show RV _ _ _ (.tmp _) (.bool false) from rfl), _, rfl, rfl, hC.sel [] (by decide)⟩
                        · replace hb := (cF hq153).symm.trans hb
                          refine Wc.skip ?_
                          refine hK122 _ _ ?_
                          refine Wc.region (by decide +kernel) ?_
                          obtain ⟨z155, h156, hb⟩ := bd hb
                          refine lex.pure (v := .int .i64 z155) (pu_addc (a := v73_1) (b := 1) e73 rfl h156) ?_
                          refine lex.pure (v := .int .i64 z155) (pu_move rfl) ?_
                          refine lex.nil ?_
                          obtain rfl := Option.some.inj hb
                          exact hK114 m115' _ _ (Nat.lt_succ_self _) ⟨z155, e2, e9, e71, e72, rfl, (chk_rng h156), hC.sel [2, 3] (by decide), lN hl1⟩
                      · replace hb := (cF hq121).symm.trans hb
                        refine Wc.exit rfl ?_
                        obtain rfl := Option.some.inj hb
                        obtain rfl := (lX hl1).symm
                        exact hK113 _ _ ⟨v73_1, e2, hrv73_1, hC.sel [] (by decide), hbK1⟩
                    · clear hb hC hl1
                      rintro E158 w157 ⟨v73_1, e2, hrv73_1, hC, hb⟩
                      refine hK110 _ _ ?_
                      refine Wc.seq fun K159 hK159 => ?_
                      refine Wc.region (by decide +kernel) ?_
                      refine lex.pure (v := .bool true) (pu_assign rfl) ?_
                      refine lex.nil ?_
                      refine hK159 _ _ ?_
                      obtain rfl := Option.some.inj hb
                      refine Wc.ret ?_
                      refine hKR _ _ ?_
                      refine ⟨_, res1 Try.results6 (show RV _ _ _ (.tmp _) (.bool true) from rfl), _, rfl, rfl, hC.sel [] (by decide)⟩
end Go.Proofs.Ytlkmcbgkohpmiaa
