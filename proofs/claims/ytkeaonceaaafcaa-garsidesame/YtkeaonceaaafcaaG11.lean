/- The walks: part 11. -/
import Derived.Test.YtkeaonceaaafcaaS
set_option linter.unusedVariables false
set_option linter.unusedSimpArgs false
namespace Go.Proofs.Ytkeaonceaaafcaa
open Ev
set_option maxRecDepth 100000 in
set_option maxHeartbeats 4000000 in
theorem ref21_less_ok (n : Nat) {w : World} {O0 : List Nat} (hO : ∀ k ∈ O0, k < w.heap.size) {Aa_0 : Option Addr} {ma_0 ca_0 : Nat} {a_0 : List Int} (ha_0 : Rep O0 w (.sl (.int .i64)) [.slice Aa_0 ma_0 ca_0] a_0) {Ab_1 : Option Addr} {mb_1 cb_1 : Nat} {b_1 : List Int} (hb_1 : Rep O0 w (.sl (.int .i64)) [.slice Ab_1 mb_1 cb_1] b_1) {r : Bool} (hb : F.ref21_less n a_0 b_1 = some r) :
    Calls Try.prog 64 #[.slice Aa_0 ma_0 ca_0, .slice Ab_1 mb_1 cb_1] w fun e w' => ∃ v, e = .returned v ∧ v = .bool r ∧ Cx (fun _ => False) O0 w w' [] := by
  unfold F.ref21_less at hb
  have hC := Cx.start hO
  replace hC := hC.arg rfl ha_0
  replace hC := hC.arg rfl hb_1
  clear hO
  obtain ⟨rfl, hla_0, hca_0⟩ := ha_0.sl_len
  obtain ⟨rfl, hlb_1, hcb_1⟩ := hb_1.sl_len
  refine calls_of_Wc Try.func64 rfl (by rw [Try.ntmps64]; exact Nat.le_of_ble_eq_true rfl) fun KR hKR => ?_
  refine Wc.seq fun K3 hK3 => ?_
  refine Wc.region (by decide +kernel) ?_
  refine lex.pure (v := .bool false) (pu_assign rfl) ?_
  refine lex.nil ?_
  refine hK3 _ _ ?_
  refine Wc.seq fun K4 hK4 => ?_
  refine Wc.seq fun K5 hK5 => ?_
  refine Wc.region (by decide +kernel) ?_
  refine lex.pure (v := .int .i64 0) (pu_assign rfl) ?_
  refine lex.nil ?_
  refine hK5 _ _ ?_
  obtain ⟨o6, hl0, hb⟩ := bd hb
  refine Wc.cut (fun E wv => ∃ (v5_0 : Int), E 4 = .bool false ∧ I64 v5_0 ∧ Cx (fun _ => False) O0 w wv [] ∧ (some false) = some r) (fun K7 hK7 => ?_) ?_
  · refine Wc.block ?_
    refine Wc.loop (fun m E wv => ∃ (v5_0 : Int), E 0 = .slice Aa_0 a_0.length ca_0 ∧ E 1 = .slice Ab_1 b_1.length cb_1 ∧ E 4 = .bool false ∧ E 5 = .int .i64 v5_0 ∧ I64 v5_0 ∧ Cx (fun _ => False) O0 w wv [.ro (.sl (.int .i64)) [.slice Aa_0 a_0.length ca_0] a_0, .ro (.sl (.int .i64)) [.slice Ab_1 b_1.length cb_1] b_1] ∧ loopN m (F.ref21_less_b0 n a_0 b_1) v5_0 = some o6) n ⟨0, rfl, rfl, rfl, rfl, (show I64 0 from by unfold I64; omega), hC.sel [1, 0] (by decide), hl0⟩ ?_
    have hbK0 := hb
    clear hb hC hl0
    rintro m9 E11 w10 ⟨v5_0, e0, e1, e4, e5, hrv5_0, hC, hl0⟩ K8 hK8
    obtain ⟨m9', o12, rfl, hb, hl0⟩ := loopN_some hl0
    unfold F.ref21_less_b0 at hb
    refine Wc.seq fun K13 hK13 => ?_
    refine Wc.seq fun K14 hK14 => ?_
    refine Wc.region (by decide +kernel) ?_
    refine lex.pure (v := .int .i64 v5_0) (pu_move e5) ?_
    refine lex.pure (v := .slice Aa_0 a_0.length ca_0) (pu_move e0) ?_
    refine lex.pure (v := .int .i64 (a_0.length : Int)) (pu_len (A := Aa_0) (n := a_0.length) (m := ca_0) Try.underlying22 rfl) ?_
    refine lex.pure (v := .bool (decide (v5_0 < (a_0.length : Int)))) (pu_lss (k := .i64) (a := v5_0) (b := (a_0.length : Int)) rfl rfl) ?_
    refine lex.nil ?_
    refine hK14 _ _ ?_
    refine Wc.cond (t := (decide (v5_0 < (a_0.length : Int)))) (rfl) (fun hq15 => ?_) (fun hq15 => ?_)
    · replace hb := (cT hq15).symm.trans hb
      refine Wc.skip ?_
      refine hK13 _ _ ?_
      refine Wc.seq fun K16 hK16 => ?_
      refine Wc.block ?_
      refine Wc.seq fun K17 hK17 => ?_
      refine Wc.regionMix [] (frm [] ([] : List Fact) ([] : List Fact)) (fun _ => rfl) mixed (by decide +kernel) (by decide +kernel) fun w19 hw18 => ?_
      replace hC := hC.step (Fr.of_drew hw18)
      have hM := Fr.refl (fun k => k ∈ blocks ([] : List Fact)) w19
      clear hw18
      have hS := hC
      refine mixE.pure (v := .slice Aa_0 a_0.length ca_0) (pu_move e0) ?_
      refine mixE.pure (v := .int .i64 v5_0) (pu_move e5) ?_
      obtain ⟨x20, h21, hb⟩ := bd hb
      obtain ⟨ad22, cs23, hA, ho26, hc24, hr25⟩ := hS.elr2 (i := 0) rfl (get_some h21).2 []
      subst hA
      refine mixE.pure (v := .pointer (some (ad22.add (v5_0.toNat * 1)))) (pu_index (a := v5_0) Try.underlying22 Try.sizeOf3 rfl rfl (get_some h21).1) ?_
      obtain ⟨rfl, hr25'⟩ := hr25
      refine mixE.load hM (v := .int .i64 x20) (fun _ hF => ld_one Try.isAgg3 rfl (hF.cell (hc24 0 _ rfl) (off1 ho26))) ?_
      refine mixE.pure (v := .slice Ab_1 b_1.length cb_1) (pu_move e1) ?_
      refine mixE.pure (v := .int .i64 v5_0) (pu_move e5) ?_
      obtain ⟨x27, h28, hb⟩ := bd hb
      obtain ⟨ad29, cs30, hA, ho33, hc31, hr32⟩ := hS.elr2 (i := 1) rfl (get_some h28).2 []
      subst hA
      refine mixE.pure (v := .pointer (some (ad29.add (v5_0.toNat * 1)))) (pu_index (a := v5_0) Try.underlying22 Try.sizeOf3 rfl rfl (get_some h28).1) ?_
      obtain ⟨rfl, hr32'⟩ := hr32
      refine mixE.load hM (v := .int .i64 x27) (fun _ hF => ld_one Try.isAgg3 rfl (hF.cell (hc31 0 _ rfl) (off1 ho33))) ?_
      refine mixE.pure (v := .bool (!(decide (x20 = x27)))) (pu_neq (k := .i64) (a := x20) (b := x27) rfl rfl) ?_
      refine mixE.nil ?_
      clear hS hM
      refine hK17 _ _ ?_
      refine Wc.fresh fun E34 hE => ?_
      have e0 : E34 0 = .slice (some ad22) a_0.length ca_0 := (congrFun hE 0).trans e0
      have e1 : E34 1 = .slice (some ad29) b_1.length cb_1 := (congrFun hE 1).trans e1
      have e4 : E34 4 = .bool false := (congrFun hE 4).trans e4
      have e5 : E34 5 = .int .i64 v5_0 := (congrFun hE 5).trans e5
      have e9 : E34 9 = .bool (decide (v5_0 < (a_0.length : Int))) := (congrFun hE 9).trans rfl
      have e20 : E34 20 = .bool (!(decide (x20 = x27))) := (congrFun hE 20).trans rfl
      clear hE
      refine Wc.cond (t := (!(decide (x20 = x27)))) (e20) (fun hq35 => ?_) (fun hq35 => ?_)
      · replace hb := (cT hq35).symm.trans hb
        refine Wc.seq fun K36 hK36 => ?_
        refine Wc.regionMix [] (frm [] ([] : List Fact) ([] : List Fact)) (fun _ => rfl) mixed (by decide +kernel) (by decide +kernel) fun w38 hw37 => ?_
        replace hC := hC.step (Fr.of_drew hw37)
        have hM := Fr.refl (fun k => k ∈ blocks ([] : List Fact)) w38
        clear hw37
        have hS := hC
        refine mixE.pure (v := .slice (some ad22) a_0.length ca_0) (pu_move e0) ?_
        refine mixE.pure (v := .int .i64 v5_0) (pu_move e5) ?_
        obtain ⟨x39, h40, hb⟩ := bd hb
        obtain ⟨ad41, cs42, hA, ho45, hc43, hr44⟩ := hS.elr2 (i := 0) rfl (get_some h40).2 []
        obtain rfl := Option.some.inj hA
        refine mixE.pure (v := .pointer (some (ad22.add (v5_0.toNat * 1)))) (pu_index (a := v5_0) Try.underlying22 Try.sizeOf3 rfl rfl (get_some h40).1) ?_
        obtain ⟨rfl, hr44'⟩ := hr44
        refine mixE.load hM (v := .int .i64 x39) (fun _ hF => ld_one Try.isAgg3 rfl (hF.cell (hc43 0 _ rfl) (off1 ho45))) ?_
        refine mixE.pure (v := .slice (some ad29) b_1.length cb_1) (pu_move e1) ?_
        refine mixE.pure (v := .int .i64 v5_0) (pu_move e5) ?_
        obtain ⟨x46, h47, hb⟩ := bd hb
        obtain ⟨ad48, cs49, hA, ho52, hc50, hr51⟩ := hS.elr2 (i := 1) rfl (get_some h47).2 []
        obtain rfl := Option.some.inj hA
        refine mixE.pure (v := .pointer (some (ad29.add (v5_0.toNat * 1)))) (pu_index (a := v5_0) Try.underlying22 Try.sizeOf3 rfl rfl (get_some h47).1) ?_
        obtain ⟨rfl, hr51'⟩ := hr51
        refine mixE.load hM (v := .int .i64 x46) (fun _ hF => ld_one Try.isAgg3 rfl (hF.cell (hc50 0 _ rfl) (off1 ho52))) ?_
        refine mixE.pure (v := .bool (decide (x39 < x46))) (pu_lss (k := .i64) (a := x39) (b := x46) rfl rfl) ?_
        refine mixE.pure (v := .bool (decide (x39 < x46))) (pu_assign rfl) ?_
        refine mixE.nil ?_
        clear hS hM
        refine hK36 _ _ ?_
        obtain rfl := Option.some.inj hb
        obtain rfl := (lX hl0).symm
        replace hb := hbK0
        obtain rfl := Option.some.inj hb
        refine Wc.ret ?_
        refine hKR _ _ ?_
        refine ⟨_, res1 Try.results64 (show RV _ _ _ (.tmp _) (.bool (decide (x39 < x46))) from rfl), _, rfl, rfl, hC.sel [] (by decide)⟩
      · replace hb := (cF hq35).symm.trans hb
        refine Wc.skip ?_
        refine hK16 _ _ ?_
        refine Wc.region (by decide +kernel) ?_
        refine lex.pure (v := .int .i64 v5_0) (pu_move e5) ?_
        obtain ⟨z53, h54, hb⟩ := bd hb
        refine lex.pure (v := .int .i64 z53) (pu_addc (a := v5_0) (b := 1) rfl rfl h54) ?_
        refine lex.pure (v := .int .i64 z53) (pu_assign rfl) ?_
        refine lex.nil ?_
        obtain rfl := Option.some.inj hb
        exact hK8 m9' _ _ (Nat.lt_succ_self _) ⟨z53, e0, e1, e4, rfl, (chk_rng h54), hC.sel [0, 1] (by decide), lN hl0⟩
    · replace hb := (cF hq15).symm.trans hb
      refine Wc.exit rfl ?_
      obtain rfl := Option.some.inj hb
      obtain rfl := (lX hl0).symm
      exact hK7 _ _ ⟨v5_0, e4, hrv5_0, hC.sel [] (by decide), hbK0⟩
  · clear hb hC hl0
    rintro E56 w55 ⟨v5_0, e4, hrv5_0, hC, hb⟩
    refine hK4 _ _ ?_
    refine Wc.seq fun K57 hK57 => ?_
    refine Wc.region (by decide +kernel) ?_
    refine lex.pure (v := .bool false) (pu_assign rfl) ?_
    refine lex.nil ?_
    refine hK57 _ _ ?_
    obtain rfl := Option.some.inj hb
    refine Wc.ret ?_
    refine hKR _ _ ?_
    refine ⟨_, res1 Try.results64 (show RV _ _ _ (.tmp _) (.bool false) from rfl), _, rfl, rfl, hC.sel [] (by decide)⟩

set_option maxRecDepth 100000 in
set_option maxHeartbeats 4000000 in
theorem ref21_Same_ok (n : Nat) {w : World} {O0 : List Nat} (hO : ∀ k ∈ O0, k < w.heap.size) {Aa_0 : Option Addr} {ma_0 ca_0 : Nat} {a_0 : List Int} (ha_0 : Rep O0 w (.sl (.int .i64)) [.slice Aa_0 ma_0 ca_0] a_0) {Ab_1 : Option Addr} {mb_1 cb_1 : Nat} {b_1 : List Int} (hb_1 : Rep O0 w (.sl (.int .i64)) [.slice Ab_1 mb_1 cb_1] b_1) {r : Bool} (hb : F.ref21_Same n a_0 b_1 = some r) :
    Calls Try.prog 49 #[.slice Aa_0 ma_0 ca_0, .slice Ab_1 mb_1 cb_1] w fun e w' => ∃ v, e = .returned v ∧ v = .bool r ∧ Cx (fun _ => False) O0 w w' [] := by
  unfold F.ref21_Same at hb
  have hC := Cx.start hO
  replace hC := hC.arg rfl ha_0
  replace hC := hC.arg rfl hb_1
  clear hO
  obtain ⟨rfl, hla_0, hca_0⟩ := ha_0.sl_len
  obtain ⟨rfl, hlb_1, hcb_1⟩ := hb_1.sl_len
  refine calls_of_Wc Try.func49 rfl (by rw [Try.ntmps49]; exact Nat.le_of_ble_eq_true rfl) fun KR hKR => ?_
  refine Wc.seq fun K3 hK3 => ?_
  refine Wc.region (by decide +kernel) ?_
  refine lex.pure (v := .bool false) (pu_assign rfl) ?_
  refine lex.nil ?_
  refine hK3 _ _ ?_
  refine Wc.seq fun K4 hK4 => ?_
  refine Wc.region (by decide +kernel) ?_
  refine lex.pure (v := .slice Aa_0 a_0.length ca_0) (pu_move rfl) ?_
  refine lex.pure (v := .int .i64 (a_0.length : Int)) (pu_len (A := Aa_0) (n := a_0.length) (m := ca_0) Try.underlying22 rfl) ?_
  refine lex.pure (v := .slice Ab_1 b_1.length cb_1) (pu_move rfl) ?_
  refine lex.pure (v := .int .i64 (b_1.length : Int)) (pu_len (A := Ab_1) (n := b_1.length) (m := cb_1) Try.underlying22 rfl) ?_
  refine lex.pure (v := .bool (decide ((a_0.length : Int) = (b_1.length : Int)))) (pu_eql (k := .i64) (a := (a_0.length : Int)) (b := (b_1.length : Int)) rfl rfl) ?_
  refine lex.pure (v := .bool (decide ((a_0.length : Int) = (b_1.length : Int)))) (pu_move rfl) ?_
  rcases bS (decide ((a_0.length : Int) = (b_1.length : Int))) with hq5 | hq5
  · replace hb := (cT hq5).symm.trans hb
    refine lex.gpure (want_t rfl rfl (show _ = Value.bool (decide ((a_0.length : Int) = (b_1.length : Int))) from rfl) hq5) (v := .slice Aa_0 a_0.length ca_0) (pu_move rfl) ?_
    refine lex.gpure (want_t rfl rfl (show _ = Value.bool (decide ((a_0.length : Int) = (b_1.length : Int))) from rfl) hq5) (v := .slice Ab_1 b_1.length cb_1) (pu_move rfl) ?_
    obtain ⟨y6, h7, hb⟩ := bd hb
    refine lex.gcl (want_t rfl rfl (show _ = Value.bool (decide ((a_0.length : Int) = (b_1.length : Int))) from rfl) hq5) (⟨_, _, op_call (vs := [.slice Aa_0 a_0.length ca_0, .slice Ab_1 b_1.length cb_1]) Try.call64 rfl rfl rfl, ref21_less_ok n hC.lt (hC.rd (i := 1) rfl) (hC.rd (i := 0) rfl) h7⟩) ?_
    rintro _ w8 ⟨rfl, hK⟩
    replace hC := hC.merge hK
    clear hK
    refine lex.gpure (want_t rfl rfl (show _ = Value.bool (decide ((a_0.length : Int) = (b_1.length : Int))) from rfl) hq5) (v := .bool (!y6)) (pu_not (q := y6) rfl) ?_
    refine lex.pure (v := .bool (!y6)) (pu_pickT (q := (decide ((a_0.length : Int) = (b_1.length : Int)))) rfl hq5 rfl) ?_
    refine lex.pure (v := .bool (!y6)) (pu_move rfl) ?_
    rcases bS (!y6) with hq9 | hq9
    · replace hb := (cT hq9).symm.trans hb
      refine lex.gpure (want_t rfl rfl (show _ = Value.bool (!y6) from rfl) hq9) (v := .slice Ab_1 b_1.length cb_1) (pu_move rfl) ?_
      refine lex.gpure (want_t rfl rfl (show _ = Value.bool (!y6) from rfl) hq9) (v := .slice Aa_0 a_0.length ca_0) (pu_move rfl) ?_
      obtain ⟨y10, h11, hb⟩ := bd hb
      refine lex.gcl (want_t rfl rfl (show _ = Value.bool (!y6) from rfl) hq9) (⟨_, _, op_call (vs := [.slice Ab_1 b_1.length cb_1, .slice Aa_0 a_0.length ca_0]) Try.call64 rfl rfl rfl, ref21_less_ok n hC.lt (hC.rd (i := 0) rfl) (hC.rd (i := 1) rfl) h11⟩) ?_
      rintro _ w12 ⟨rfl, hK⟩
      replace hC := hC.merge hK
      clear hK
      refine lex.gpure (want_t rfl rfl (show _ = Value.bool (!y6) from rfl) hq9) (v := .bool (!y10)) (pu_not (q := y10) rfl) ?_
      refine lex.pure (v := .bool (!y10)) (pu_pickT (q := (!y6)) rfl hq9 rfl) ?_
      refine lex.pure (v := .bool (!y10)) (pu_assign rfl) ?_
      refine lex.nil ?_
      refine hK4 _ _ ?_
      obtain rfl := Option.some.inj hb
      refine Wc.ret ?_
      refine hKR _ _ ?_
      refine ⟨_, res1 Try.results49 (show RV _ _ _ (.tmp _) (.bool (!y10)) from rfl), _, rfl, rfl, hC.sel [] (by decide)⟩
    · replace hb := (cF hq9).symm.trans hb
      refine lex.gskip (want_f rfl rfl (show _ = Value.bool (!y6) from rfl) hq9) ?_
      refine lex.gskip (want_f rfl rfl (show _ = Value.bool (!y6) from rfl) hq9) ?_
      refine lex.gskip (want_f rfl rfl (show _ = Value.bool (!y6) from rfl) hq9) ?_
      refine lex.gskip (want_f rfl rfl (show _ = Value.bool (!y6) from rfl) hq9) ?_
      refine lex.pure (v := .bool false) (pu_pickF (q := (!y6)) rfl hq9 rfl) ?_
      refine lex.pure (v := .bool false) (pu_assign rfl) ?_
      refine lex.nil ?_
      refine hK4 _ _ ?_
      obtain rfl := Option.some.inj hb
      refine Wc.ret ?_
      refine hKR _ _ ?_
      refine ⟨_, res1 Try.results49 (show RV _ _ _ (.tmp _) (.bool false) from rfl), _, rfl, rfl, hC.sel [] (by decide)⟩
  · replace hb := (cF hq5).symm.trans hb
    refine lex.gskip (want_f rfl rfl (show _ = Value.bool (decide ((a_0.length : Int) = (b_1.length : Int))) from rfl) hq5) ?_
    refine lex.gskip (want_f rfl rfl (show _ = Value.bool (decide ((a_0.length : Int) = (b_1.length : Int))) from rfl) hq5) ?_
    refine lex.gskip (want_f rfl rfl (show _ = Value.bool (decide ((a_0.length : Int) = (b_1.length : Int))) from rfl) hq5) ?_
    refine lex.gskip (want_f rfl rfl (show _ = Value.bool (decide ((a_0.length : Int) = (b_1.length : Int))) from rfl) hq5) ?_
    refine lex.pure (v := .bool false) (pu_pickF (q := (decide ((a_0.length : Int) = (b_1.length : Int)))) rfl hq5 rfl) ?_
    refine lex.pure (v := .bool false) (pu_move rfl) ?_
    refine lex.gskip (want_f rfl rfl (show _ = Value.bool false from rfl) rfl) ?_
    refine lex.gskip (want_f rfl rfl (show _ = Value.bool false from rfl) rfl) ?_
    refine lex.gskip (want_f rfl rfl (show _ = Value.bool false from rfl) rfl) ?_
    refine lex.gskip (want_f rfl rfl (show _ = Value.bool false from rfl) rfl) ?_
    refine lex.pure (v := .bool false) (pu_pickF (q := false) rfl rfl rfl) ?_
    refine lex.pure (v := .bool false) (pu_assign rfl) ?_
    refine lex.nil ?_
    refine hK4 _ _ ?_
    obtain rfl := Option.some.inj hb
    refine Wc.ret ?_
    refine hKR _ _ ?_
    refine ⟨_, res1 Try.results49 (show RV _ _ _ (.tmp _) (.bool false) from rfl), _, rfl, rfl, hC.sel [] (by decide)⟩

set_option maxRecDepth 100000 in
set_option maxHeartbeats 4000000 in
theorem ref34_Same_ok (n : Nat) {w : World} {O0 : List Nat} (hO : ∀ k ∈ O0, k < w.heap.size) {Aa_0 : Option Addr} {ma_0 ca_0 : Nat} {a_0 : List (List Int)} (ha_0 : Rep O0 w (.sl (.sl (.int .i64))) [.slice Aa_0 ma_0 ca_0] a_0) {Ab_1 : Option Addr} {mb_1 cb_1 : Nat} {b_1 : List (List Int)} (hb_1 : Rep O0 w (.sl (.sl (.int .i64))) [.slice Ab_1 mb_1 cb_1] b_1) {r : Bool} (hb : F.ref34_Same n a_0 b_1 = some r) :
    Calls Try.prog 20 #[.slice Aa_0 ma_0 ca_0, .slice Ab_1 mb_1 cb_1] w fun e w' => ∃ v, e = .returned v ∧ v = .bool r ∧ Cx (fun _ => False) O0 w w' [] := by
  unfold F.ref34_Same at hb
  have hC := Cx.start hO
  replace hC := hC.arg rfl ha_0
  replace hC := hC.arg rfl hb_1
  clear hO
  obtain ⟨rfl, hla_0, hca_0⟩ := ha_0.sl_len
  obtain ⟨rfl, hlb_1, hcb_1⟩ := hb_1.sl_len
  refine calls_of_Wc Try.func20 rfl (by rw [Try.ntmps20]; exact Nat.le_of_ble_eq_true rfl) fun KR hKR => ?_
  refine Wc.seq fun K3 hK3 => ?_
  refine Wc.region (by decide +kernel) ?_
  refine lex.pure (v := .bool false) (pu_assign rfl) ?_
  refine lex.nil ?_
  refine hK3 _ _ ?_
  refine Wc.seq fun K4 hK4 => ?_
  refine Wc.seq fun K5 hK5 => ?_
  refine Wc.region (by decide +kernel) ?_
  refine lex.pure (v := .slice Aa_0 a_0.length ca_0) (pu_move rfl) ?_
  refine lex.pure (v := .int .i64 (a_0.length : Int)) (pu_len (A := Aa_0) (n := a_0.length) (m := ca_0) Try.underlying35 rfl) ?_
  refine lex.pure (v := .slice Ab_1 b_1.length cb_1) (pu_move rfl) ?_
  refine lex.pure (v := .int .i64 (b_1.length : Int)) (pu_len (A := Ab_1) (n := b_1.length) (m := cb_1) Try.underlying35 rfl) ?_
  refine lex.pure (v := .bool (!(decide ((a_0.length : Int) = (b_1.length : Int))))) (pu_neq (k := .i64) (a := (a_0.length : Int)) (b := (b_1.length : Int)) rfl rfl) ?_
  refine lex.nil ?_
  refine hK5 _ _ ?_
  refine Wc.cond (t := (!(decide ((a_0.length : Int) = (b_1.length : Int))))) (rfl) (fun hq6 => ?_) (fun hq6 => ?_)
  · replace hb := (cT hq6).symm.trans hb
    refine Wc.seq fun K7 hK7 => ?_
    refine Wc.region (by decide +kernel) ?_
    refine lex.pure (v := .bool false) (pu_assign rfl) ?_
    refine lex.nil ?_
    refine hK7 _ _ ?_
    obtain rfl := Option.some.inj hb
    refine Wc.ret ?_
    refine hKR _ _ ?_
    refine ⟨_, res1 Try.results20 (show RV _ _ _ (.tmp _) (.bool false) from rfl), _, rfl, rfl, hC.sel [] (by decide)⟩
  · replace hb := (cF hq6).symm.trans hb
    refine Wc.skip ?_
    refine hK4 _ _ ?_
    refine Wc.seq fun K8 hK8 => ?_
    refine Wc.seq fun K9 hK9 => ?_
    refine Wc.region (by decide +kernel) ?_
    refine lex.pure (v := .int .i64 0) (pu_assign rfl) ?_
    refine lex.nil ?_
    refine hK9 _ _ ?_
    obtain ⟨o10, hl0, hb⟩ := bd hb
    refine Wc.cut (fun E wv => ∃ (v5_0 : Int), E 4 = .bool false ∧ I64 v5_0 ∧ Cx (fun _ => False) O0 w wv [] ∧ (some true) = some r) (fun K11 hK11 => ?_) ?_
    · refine Wc.block ?_
      refine Wc.loop (fun m E wv => ∃ (v5_0 : Int), E 0 = .slice Aa_0 a_0.length ca_0 ∧ E 1 = .slice Ab_1 b_1.length cb_1 ∧ E 4 = .bool false ∧ E 5 = .int .i64 v5_0 ∧ I64 v5_0 ∧ Cx (fun _ => False) O0 w wv [.ro (.sl (.sl (.int .i64))) [.slice Aa_0 a_0.length ca_0] a_0, .ro (.sl (.sl (.int .i64))) [.slice Ab_1 b_1.length cb_1] b_1] ∧ loopN m (F.ref34_Same_b0 n a_0 b_1) v5_0 = some o10) n ⟨0, rfl, rfl, rfl, rfl, (show I64 0 from by unfold I64; omega), hC.sel [1, 0] (by decide), hl0⟩ ?_
      have hbK0 := hb
      clear hb hC hl0
      rintro m13 E15 w14 ⟨v5_0, e0, e1, e4, e5, hrv5_0, hC, hl0⟩ K12 hK12
      obtain ⟨m13', o16, rfl, hb, hl0⟩ := loopN_some hl0
      unfold F.ref34_Same_b0 at hb
      refine Wc.seq fun K17 hK17 => ?_
      refine Wc.seq fun K18 hK18 => ?_
      refine Wc.region (by decide +kernel) ?_
      refine lex.pure (v := .int .i64 v5_0) (pu_move e5) ?_
      refine lex.pure (v := .slice Aa_0 a_0.length ca_0) (pu_move e0) ?_
      refine lex.pure (v := .int .i64 (a_0.length : Int)) (pu_len (A := Aa_0) (n := a_0.length) (m := ca_0) Try.underlying35 rfl) ?_
      refine lex.pure (v := .bool (decide (v5_0 < (a_0.length : Int)))) (pu_lss (k := .i64) (a := v5_0) (b := (a_0.length : Int)) rfl rfl) ?_
      refine lex.nil ?_
      refine hK18 _ _ ?_
      refine Wc.cond (t := (decide (v5_0 < (a_0.length : Int)))) (rfl) (fun hq19 => ?_) (fun hq19 => ?_)
      · replace hb := (cT hq19).symm.trans hb
        refine Wc.skip ?_
        refine hK17 _ _ ?_
        refine Wc.seq fun K20 hK20 => ?_
        refine Wc.block ?_
        refine Wc.seq fun K21 hK21 => ?_
        refine Wc.regionMix [] (frm [] ([] : List Fact) ([] : List Fact)) (fun _ => rfl) mixed (by decide +kernel) (by decide +kernel) fun w23 hw22 => ?_
        replace hC := hC.step (Fr.of_drew hw22)
        have hM := Fr.refl (fun k => k ∈ blocks ([] : List Fact)) w23
        clear hw22
        have hS := hC
        refine mixE.pure (v := .slice Aa_0 a_0.length ca_0) (pu_move e0) ?_
        refine mixE.pure (v := .int .i64 v5_0) (pu_move e5) ?_
        obtain ⟨x24, h25, hb⟩ := bd hb
        obtain ⟨ad26, cs27, hA, ho30, hc28, hr29⟩ := hS.elr2 (i := 0) rfl (get_some h25).2 []
        subst hA
        refine mixE.pure (v := .pointer (some (ad26.add (v5_0.toNat * 1)))) (pu_index (a := v5_0) Try.underlying35 Try.sizeOf22 rfl rfl (get_some h25).1) ?_
        have hR := hr29
        obtain ⟨A31, c32, rfl, hl33, hc34, _⟩ := hr29
        replace hS := hS.ro hR
        replace hC := hC.ro hR
        clear hR
        refine mixE.load hM (v := .slice A31 x24.length c32) (fun _ hF => ld_one Try.isAgg22 rfl (hF.cell (hc28 0 _ rfl) (off1 ho30))) ?_
        refine mixE.pure (v := .slice Ab_1 b_1.length cb_1) (pu_move e1) ?_
        refine mixE.pure (v := .int .i64 v5_0) (pu_move e5) ?_
        obtain ⟨x36, h37, hb⟩ := bd hb
        obtain ⟨ad38, cs39, hA, ho42, hc40, hr41⟩ := hS.elr2 (i := 2) rfl (get_some h37).2 []
        subst hA
        refine mixE.pure (v := .pointer (some (ad38.add (v5_0.toNat * 1)))) (pu_index (a := v5_0) Try.underlying35 Try.sizeOf22 rfl rfl (get_some h37).1) ?_
        have hR := hr41
        obtain ⟨A43, c44, rfl, hl45, hc46, _⟩ := hr41
        replace hS := hS.ro hR
        replace hC := hC.ro hR
        clear hR
        refine mixE.load hM (v := .slice A43 x36.length c44) (fun _ hF => ld_one Try.isAgg22 rfl (hF.cell (hc40 0 _ rfl) (off1 ho42))) ?_
        obtain ⟨y48, h49, hb⟩ := bd hb
        refine mixE.cl hM (⟨_, _, op_call (vs := [.slice A31 x24.length c32, .slice A43 x36.length c44]) Try.call49 rfl rfl rfl, ref21_Same_ok n hC.lt (hC.rd (i := 1) rfl) (hC.rd (i := 0) rfl) h49⟩) ?_
        rintro _ w50 ⟨rfl, hK⟩
        replace hM := hM.none hK.fr
        refine ⟨hM, ?_⟩
        replace hC := hC.merge hK
        clear hK
        refine mixE.pure (v := .bool (!y48)) (pu_not (q := y48) rfl) ?_
        refine mixE.nil ?_
        clear hS hM
        refine hK21 _ _ ?_
        refine Wc.cond (t := (!y48)) (rfl) (fun hq51 => ?_) (fun hq51 => ?_)
        · replace hb := (cT hq51).symm.trans hb
          refine Wc.seq fun K52 hK52 => ?_
          refine Wc.region (by decide +kernel) ?_
          refine lex.pure (v := .bool false) (pu_assign rfl) ?_
          refine lex.nil ?_
          refine hK52 _ _ ?_
          obtain rfl := Option.some.inj hb
          obtain rfl := (lX hl0).symm
          replace hb := hbK0
          obtain rfl := Option.some.inj hb
          refine Wc.ret ?_
          refine hKR _ _ ?_
          refine ⟨_, res1 Try.results20 (show RV _ _ _ (.tmp _) (.bool false) from rfl), _, rfl, rfl, hC.sel [] (by decide)⟩
        · replace hb := (cF hq51).symm.trans hb
          refine Wc.skip ?_
          refine hK20 _ _ ?_
          refine Wc.region (by decide +kernel) ?_
          refine lex.pure (v := .int .i64 v5_0) (pu_move e5) ?_
          obtain ⟨z53, h54, hb⟩ := bd hb
          refine lex.pure (v := .int .i64 z53) (pu_addc (a := v5_0) (b := 1) rfl rfl h54) ?_
          refine lex.pure (v := .int .i64 z53) (pu_assign rfl) ?_
          refine lex.nil ?_
          obtain rfl := Option.some.inj hb
          exact hK12 m13' _ _ (Nat.lt_succ_self _) ⟨z53, e0, e1, e4, rfl, (chk_rng h54), hC.sel [2, 3] (by decide), lN hl0⟩
      · replace hb := (cF hq19).symm.trans hb
        refine Wc.exit rfl ?_
        obtain rfl := Option.some.inj hb
        obtain rfl := (lX hl0).symm
        exact hK11 _ _ ⟨v5_0, e4, hrv5_0, hC.sel [] (by decide), hbK0⟩
    · clear hb hC hl0
      rintro E56 w55 ⟨v5_0, e4, hrv5_0, hC, hb⟩
      refine hK8 _ _ ?_
      refine Wc.seq fun K57 hK57 => ?_
      refine Wc.region (by decide +kernel) ?_
      refine lex.pure (v := .bool true) (pu_assign rfl) ?_
      refine lex.nil ?_
      refine hK57 _ _ ?_
      obtain rfl := Option.some.inj hb
      refine Wc.ret ?_
      refine hKR _ _ ?_
      refine ⟨_, res1 Try.results20 (show RV _ _ _ (.tmp _) (.bool true) from rfl), _, rfl, rfl, hC.sel [] (by decide)⟩
end Go.Proofs.Ytkeaonceaaafcaa
