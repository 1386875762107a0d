/- The walks: part 6. -/
import Derived.Test.YtkeaonceaaafcaaS
set_option linter.unusedVariables false
set_option linter.unusedSimpArgs false
namespace Go.Proofs.Ytkeaonceaaafcaa
open Ev
set_option maxRecDepth 100000 in
set_option maxHeartbeats 4000000 in
theorem law34_plain_ok (n : Nat) {w : World} {O0 : List Nat} (hO : ∀ k ∈ O0, k < w.heap.size) {Al_0 : Option Addr} {ml_0 cl_0 : Nat} {l_0 : List (List Int)} (hl_0 : Rep O0 w (.sl (.sl (.int .i64))) [.slice Al_0 ml_0 cl_0] l_0) {r : (List (List Int))} (hb : F.law34_plain n l_0 = some r) :
    Calls Try.prog 17 #[.slice Al_0 ml_0 cl_0] w fun e w' => ∃ v, e = .returned v ∧ ∃ (A0 : Option Addr) (m0 c0 : Nat), v = .slice A0 m0 c0 ∧ Cx (fun _ => False) O0 w w' [.own 22 (.sl (.int .i64)) (.slice A0 m0 c0) r] := by
  unfold F.law34_plain at hb
  have hC := Cx.start hO
  replace hC := hC.arg rfl hl_0
  clear hO
  obtain ⟨rfl, hll_0, hcl_0⟩ := hl_0.sl_len
  refine calls_of_Wc Try.func17 rfl (by rw [Try.ntmps17]; exact Nat.le_of_ble_eq_true rfl) fun KR hKR => ?_
  refine Wc.seq fun K2 hK2 => ?_
  refine Wc.region (by decide +kernel) ?_
  refine lex.pure (v := .slice none 0 0) (pu_assign rfl) ?_
  refine lex.nil ?_
  refine hK2 _ _ ?_
  refine Wc.seq fun K3 hK3 => ?_
  refine Wc.region (by decide +kernel) ?_
  refine lex.pure (v := .slice none 0 0) (pu_assign rfl) ?_
  refine lex.nil ?_
  refine hK3 _ _ ?_
  refine Wc.seq fun K4 hK4 => ?_
  refine Wc.seq fun K5 hK5 => ?_
  refine Wc.region (by decide +kernel) ?_
  refine lex.pure (v := .slice Al_0 l_0.length cl_0) (pu_move rfl) ?_
  refine lex.pure (v := .int .i64 (l_0.length : Int)) (pu_len (A := Al_0) (n := l_0.length) (m := cl_0) Try.underlying26 rfl) ?_
  refine lex.pure (v := .int .i64 0) (pu_move rfl) ?_
  refine lex.nil ?_
  refine hK5 _ _ ?_
  replace hC := hC.nil 22 (.sl (.int .i64))
  obtain ⟨o7, hl0, hb⟩ := bd hb
  refine Wc.cut (fun E wv => ∃ (l3_0 : List (List Int)) (v8_0 : Int) (Al3_0 : Option Addr) (ml3_0 cl3_0 : Nat), E 2 = .slice none 0 0 ∧ E 3 = .slice Al3_0 ml3_0 cl3_0 ∧ I64 v8_0 ∧ Cx (fun _ => False) O0 w wv [.own 22 (.sl (.int .i64)) (.slice Al3_0 ml3_0 cl3_0) l3_0] ∧ (some l3_0 : Option ((List (List Int)))) = some r) (fun K8 hK8 => ?_) ?_
  · refine Wc.block ?_
    refine Wc.loop (fun m E wv => ∃ (l3_0 : List (List Int)) (v8_0 : Int) (Al3_0 : Option Addr) (ml3_0 cl3_0 : Nat), E 2 = .slice none 0 0 ∧ E 3 = .slice Al3_0 ml3_0 cl3_0 ∧ E 6 = .slice Al_0 l_0.length cl_0 ∧ E 7 = .int .i64 (l_0.length : Int) ∧ E 8 = .int .i64 v8_0 ∧ I64 v8_0 ∧ Cx (fun _ => False) O0 w wv [.own 22 (.sl (.int .i64)) (.slice Al3_0 ml3_0 cl3_0) l3_0, .ro (.sl (.sl (.int .i64))) [.slice Al_0 l_0.length cl_0] l_0] ∧ loopN m (F.law34_plain_b0 n l_0) (l3_0, v8_0) = some o7) n ⟨([] : List (List Int)), 0, none, 0, 0, rfl, rfl, rfl, rfl, rfl, (show I64 0 from by unfold I64; omega), hC.sel [0, 1] (by decide), hl0⟩ ?_
    have hbK0 := hb
    clear hb hC hl0
    rintro m10 E12 w11 ⟨l3_0, v8_0, Al3_0, ml3_0, cl3_0, e2, e3, e6, e7, e8, hrv8_0, hC, hl0⟩ K9 hK9
    obtain ⟨m10', o13, rfl, hb, hl0⟩ := loopN_some hl0
    unfold F.law34_plain_b0 at hb
    obtain ⟨rfl, hll3_0, hcl3_0⟩ := (hC.ow (i := 0) rfl).sl_len
    refine Wc.seq fun K14 hK14 => ?_
    refine Wc.region (by decide +kernel) ?_
    refine lex.pure (v := .bool (decide (v8_0 < (l_0.length : Int)))) (pu_lss (k := .i64) (a := v8_0) (b := (l_0.length : Int)) e8 e7) ?_
    refine lex.nil ?_
    refine hK14 _ _ ?_
    refine Wc.seq fun K15 hK15 => ?_
    refine Wc.cond (t := (decide (v8_0 < (l_0.length : Int)))) (rfl) (fun hq16 => ?_) (fun hq16 => ?_)
    · replace hb := (cT hq16).symm.trans hb
      refine Wc.skip ?_
      refine hK15 _ _ ?_
      refine Wc.seq fun K17 hK17 => ?_
      refine Wc.block ?_
      refine Wc.seq fun K18 hK18 => ?_
      refine Wc.region (by decide +kernel) ?_
      obtain ⟨x19, h20, hb⟩ := bd hb
      obtain ⟨ad21, cs22, hA, hc23, hr24⟩ := hC.elr (i := 1) rfl (get_some h20).2
      subst hA
      refine lex.pure (v := .pointer (some (ad21.add (v8_0.toNat * 1)))) (pu_index (a := v8_0) Try.underlying26 Try.sizeOf43 e6 e8 (get_some h20).1) ?_
      have hR := hr24
      obtain ⟨A25, c26, rfl, hl27, hc28, _⟩ := hr24
      replace hC := hC.ro hR
      clear hR
      refine lex.val (v := .slice A25 x19.length c26) (ld_one Try.isAgg43 rfl (hc23 0 _ rfl)) ?_
      refine lex.pure (v := .slice A25 x19.length c26) (pu_assign rfl) ?_
      refine lex.nil ?_
      refine hK18 _ _ ?_
      refine Wc.region (by decide +kernel) ?_
      refine lex.pure (v := .slice Al3_0 l3_0.length cl3_0) (pu_move e3) ?_
      refine lex.pure (v := .slice A25 x19.length c26) (pu_move rfl) ?_
      refine lex.op (hC.lit (s := (.sl (.int .i64))) (vs := [.slice A25 x19.length c26]) (xs := [x19]) Try.underlying35 Try.type22 rfl rfl (Nat.le_of_ble_eq_true rfl) rfl rfl (by simp [Value.cells, Sh.n]) rfl (show Elems _ _ (.sl (.int .i64)) ([.slice A25 x19.length c26] ++ ([])) ([x19] : List (List Int)) from Elems.cons (hC.rd (i := 0) rfl) (Elems.nil _ _ _))) ?_
      rintro _ w34 ⟨A30, c31, rfl, hl32, hc33, hC, hF, hN⟩
      clear hF hN
      obtain ⟨u36, h37, hb⟩ := bd hb
      refine lex.op (hC.app (i := 2) (s := (.sl (.int .i64))) (xs := l3_0) (ys := ([x19] : List (List Int))) (m := ((([x19] : List (List Int))).length)) rfl Try.underlying35 Try.underlying35 Try.type22 rfl rfl rfl (hC.srco (i := 0) rfl) rfl rfl (by have := lim_some h37; simp at this ⊢ <;> omega) (by decide)) ?_
      rintro _ w42 ⟨A38, c39, rfl, hl40, hc41, hC, hF, hN⟩
      clear hF hN
      refine lex.pure (v := .slice A38 ((l3_0 ++ ([x19] : List (List Int))).length) c39) (pu_assign rfl) ?_
      refine lex.nil ?_
      refine hK17 _ _ ?_
      refine Wc.region (by decide +kernel) ?_
      obtain ⟨z43, h44, hb⟩ := bd hb
      refine lex.pure (v := .int .i64 z43) (pu_addc (a := v8_0) (b := 1) e8 rfl h44) ?_
      refine lex.pure (v := .int .i64 z43) (pu_move rfl) ?_
      refine lex.nil ?_
      obtain rfl := Option.some.inj hb
      exact hK9 m10' _ _ (Nat.lt_succ_self _) ⟨(l3_0 ++ ([x19] : List (List Int))), z43, A38, (l3_0 ++ ([x19] : List (List Int))).length, c39, e2, rfl, e6, e7, rfl, (chk_rng h44), hC.sel [2, 3] (by decide), lN hl0⟩
    · replace hb := (cF hq16).symm.trans hb
      refine Wc.exit rfl ?_
      obtain rfl := Option.some.inj hb
      obtain rfl := (lX hl0).symm
      exact hK8 _ _ ⟨l3_0, v8_0, Al3_0, l3_0.length, cl3_0, e2, e3, hrv8_0, hC.sel [0] (by decide), hbK0⟩
  · clear hb hC hl0
    rintro E46 w45 ⟨l3_0, v8_0, Al3_0, ml3_0, cl3_0, e2, e3, hrv8_0, hC, hb⟩
    obtain ⟨rfl, hll3_0, hcl3_0⟩ := (hC.ow (i := 0) rfl).sl_len
    refine hK4 _ _ ?_
    refine Wc.seq fun K47 hK47 => ?_
    refine Wc.region (by decide +kernel) ?_
    refine lex.pure (v := .slice Al3_0 l3_0.length cl3_0) (pu_move e3) ?_
    refine lex.pure (v := .slice Al3_0 l3_0.length cl3_0) (pu_assign rfl) ?_
    refine lex.nil ?_
    refine hK47 _ _ ?_
    obtain rfl := Option.some.inj hb
    refine Wc.ret ?_
    refine hKR _ _ ?_
    refine ⟨_, res1 Try.results17 (show RV _ _ _ (.tmp _) (.slice Al3_0 l3_0.length cl3_0) from rfl), _, rfl, Al3_0, l3_0.length, cl3_0, rfl, hC.sel [0] (by decide)⟩

set_option maxRecDepth 100000 in
set_option maxHeartbeats 4000000 in
theorem ref01_In_ok (n : Nat) {w : World} {O0 : List Nat} (hO : ∀ k ∈ O0, k < w.heap.size) {Al_0 : Option Addr} {ml_0 cl_0 : Nat} {l_0 : List Int} (hl_0 : Rep O0 w (.sl (.int .i64)) [.slice Al_0 ml_0 cl_0] l_0) {x_1 : Int} (hx_1 : I64 x_1) {r : Bool} (hb : F.ref01_In n l_0 x_1 = some r) :
    Calls Try.prog 67 #[.slice Al_0 ml_0 cl_0, .int .i64 x_1] w fun e w' => ∃ v, e = .returned v ∧ v = .bool r ∧ Cx (fun _ => False) O0 w w' [] := by
  unfold F.ref01_In at hb
  have hC := Cx.start hO
  replace hC := hC.arg rfl hl_0
  clear hO
  obtain ⟨rfl, hll_0, hcl_0⟩ := hl_0.sl_len
  refine calls_of_Wc Try.func67 rfl (by rw [Try.ntmps67]; exact Nat.le_of_ble_eq_true rfl) fun KR hKR => ?_
  refine Wc.seq fun K2 hK2 => ?_
  refine Wc.region (by decide +kernel) ?_
  refine lex.pure (v := .bool false) (pu_assign rfl) ?_
  refine lex.nil ?_
  refine hK2 _ _ ?_
  refine Wc.seq fun K3 hK3 => ?_
  refine Wc.seq fun K4 hK4 => ?_
  refine Wc.region (by decide +kernel) ?_
  refine lex.pure (v := .int .i64 0) (pu_assign rfl) ?_
  refine lex.nil ?_
  refine hK4 _ _ ?_
  obtain ⟨o5, hl0, hb⟩ := bd hb
  refine Wc.cut (fun E wv => ∃ (v5_0 : Int), E 4 = .bool false ∧ I64 v5_0 ∧ Cx (fun _ => False) O0 w wv [] ∧ (some false : Option (Bool)) = some r) (fun K6 hK6 => ?_) ?_
  · refine Wc.block ?_
    refine Wc.loop (fun m E wv => ∃ (v5_0 : Int), E 0 = .slice Al_0 l_0.length cl_0 ∧ E 1 = .int .i64 x_1 ∧ E 4 = .bool false ∧ E 5 = .int .i64 v5_0 ∧ I64 v5_0 ∧ Cx (fun _ => False) O0 w wv [.ro (.sl (.int .i64)) [.slice Al_0 l_0.length cl_0] l_0] ∧ loopN m (F.ref01_In_b0 n l_0 x_1) v5_0 = some o5) n ⟨0, rfl, rfl, rfl, rfl, (show I64 0 from by unfold I64; omega), hC.sel [0] (by decide), hl0⟩ ?_
    have hbK0 := hb
    clear hb hC hl0
    rintro m8 E10 w9 ⟨v5_0, e0, e1, e4, e5, hrv5_0, hC, hl0⟩ K7 hK7
    obtain ⟨m8', o11, rfl, hb, hl0⟩ := loopN_some hl0
    unfold F.ref01_In_b0 at hb
    refine Wc.seq fun K12 hK12 => ?_
    refine Wc.seq fun K13 hK13 => ?_
    refine Wc.region (by decide +kernel) ?_
    refine lex.pure (v := .int .i64 v5_0) (pu_move e5) ?_
    refine lex.pure (v := .slice Al_0 l_0.length cl_0) (pu_move e0) ?_
    refine lex.pure (v := .int .i64 (l_0.length : Int)) (pu_len (A := Al_0) (n := l_0.length) (m := cl_0) Try.underlying22 rfl) ?_
    refine lex.pure (v := .bool (decide (v5_0 < (l_0.length : Int)))) (pu_lss (k := .i64) (a := v5_0) (b := (l_0.length : Int)) rfl rfl) ?_
    refine lex.nil ?_
    refine hK13 _ _ ?_
    refine Wc.cond (t := (decide (v5_0 < (l_0.length : Int)))) (rfl) (fun hq14 => ?_) (fun hq14 => ?_)
    · replace hb := (cT hq14).symm.trans hb
      refine Wc.skip ?_
      refine hK12 _ _ ?_
      refine Wc.seq fun K15 hK15 => ?_
      refine Wc.block ?_
      refine Wc.seq fun K16 hK16 => ?_
      refine Wc.region (by decide +kernel) ?_
      refine lex.pure (v := .slice Al_0 l_0.length cl_0) (pu_move e0) ?_
      refine lex.pure (v := .int .i64 v5_0) (pu_move e5) ?_
      obtain ⟨x17, h18, hb⟩ := bd hb
      obtain ⟨ad19, cs20, hA, hc21, hr22⟩ := hC.elr (i := 0) rfl (get_some h18).2
      subst hA
      refine lex.pure (v := .pointer (some (ad19.add (v5_0.toNat * 1)))) (pu_index (a := v5_0) Try.underlying22 Try.sizeOf3 rfl rfl (get_some h18).1) ?_
      obtain ⟨rfl, hr22'⟩ := hr22
      refine lex.val (v := .int .i64 x17) (ld_one Try.isAgg3 rfl (hc21 0 _ rfl)) ?_
      refine lex.pure (v := .int .i64 x_1) (pu_move e1) ?_
      refine lex.pure (v := .bool (decide (x17 = x_1))) (pu_eql (k := .i64) (a := x17) (b := x_1) rfl rfl) ?_
      refine lex.nil ?_
      refine hK16 _ _ ?_
      refine Wc.cond (t := (decide (x17 = x_1))) (rfl) (fun hq23 => ?_) (fun hq23 => ?_)
      · replace hb := (cT hq23).symm.trans hb
        refine Wc.seq fun K24 hK24 => ?_
        refine Wc.region (by decide +kernel) ?_
        refine lex.pure (v := .bool true) (pu_assign rfl) ?_
        refine lex.nil ?_
        refine hK24 _ _ ?_
        obtain rfl := Option.some.inj hb
        obtain rfl := (lX hl0).symm
        replace hb := hbK0
        obtain rfl := Option.some.inj hb
        refine Wc.ret ?_
        refine hKR _ _ ?_
        refine ⟨_, res1 Try.results67 (show RV _ _ _ (.tmp _) (.bool true) from rfl), _, rfl, rfl, hC.sel [] (by decide)⟩
      · replace hb := (cF hq23).symm.trans hb
        refine Wc.skip ?_
        refine hK15 _ _ ?_
        refine Wc.region (by decide +kernel) ?_
        refine lex.pure (v := .int .i64 v5_0) (pu_move e5) ?_
        obtain ⟨z25, h26, hb⟩ := bd hb
        refine lex.pure (v := .int .i64 z25) (pu_addc (a := v5_0) (b := 1) rfl rfl h26) ?_
        refine lex.pure (v := .int .i64 z25) (pu_assign rfl) ?_
        refine lex.nil ?_
        obtain rfl := Option.some.inj hb
        exact hK7 m8' _ _ (Nat.lt_succ_self _) ⟨z25, e0, e1, e4, rfl, (chk_rng h26), hC.sel [0] (by decide), lN hl0⟩
    · replace hb := (cF hq14).symm.trans hb
      refine Wc.exit rfl ?_
      obtain rfl := Option.some.inj hb
      obtain rfl := (lX hl0).symm
      exact hK6 _ _ ⟨v5_0, e4, hrv5_0, hC.sel [] (by decide), hbK0⟩
  · clear hb hC hl0
    rintro E28 w27 ⟨v5_0, e4, hrv5_0, hC, hb⟩
    refine hK3 _ _ ?_
    refine Wc.seq fun K29 hK29 => ?_
    refine Wc.region (by decide +kernel) ?_
    refine lex.pure (v := .bool false) (pu_assign rfl) ?_
    refine lex.nil ?_
    refine hK29 _ _ ?_
    obtain rfl := Option.some.inj hb
    refine Wc.ret ?_
    refine hKR _ _ ?_
    refine ⟨_, res1 Try.results67 (show RV _ _ _ (.tmp _) (.bool false) from rfl), _, rfl, rfl, hC.sel [] (by decide)⟩

set_option maxRecDepth 100000 in
set_option maxHeartbeats 4000000 in
theorem ref01_IsPerm_ok (n : Nat) {w : World} {O0 : List Nat} (hO : ∀ k ∈ O0, k < w.heap.size) {Al_0 : Option Addr} {ml_0 cl_0 : Nat} {l_0 : List Int} (hl_0 : Rep O0 w (.sl (.int .i64)) [.slice Al_0 ml_0 cl_0] l_0) {nx_1 : Int} (hnx_1 : I64 nx_1) {r : Bool} (hb : F.ref01_IsPerm n l_0 nx_1 = some r) :
    Calls Try.prog 61 #[.slice Al_0 ml_0 cl_0, .int .i64 nx_1] w fun e w' => ∃ v, e = .returned v ∧ v = .bool r ∧ Cx (fun _ => False) O0 w w' [] := by
  unfold F.ref01_IsPerm at hb
  have hC := Cx.start hO
  replace hC := hC.arg rfl hl_0
  clear hO
  obtain ⟨rfl, hll_0, hcl_0⟩ := hl_0.sl_len
  refine calls_of_Wc Try.func61 rfl (by rw [Try.ntmps61]; exact Nat.le_of_ble_eq_true rfl) fun KR hKR => ?_
  refine Wc.seq fun K2 hK2 => ?_
  refine Wc.region (by decide +kernel) ?_
  refine lex.pure (v := .bool false) (pu_assign rfl) ?_
  refine lex.nil ?_
  refine hK2 _ _ ?_
  refine Wc.seq fun K3 hK3 => ?_
  refine Wc.seq fun K4 hK4 => ?_
  refine Wc.region (by decide +kernel) ?_
  refine lex.pure (v := .slice Al_0 l_0.length cl_0) (pu_move rfl) ?_
  refine lex.pure (v := .int .i64 (l_0.length : Int)) (pu_len (A := Al_0) (n := l_0.length) (m := cl_0) Try.underlying22 rfl) ?_
  refine lex.pure (v := .int .i64 nx_1) (pu_move rfl) ?_
  refine lex.pure (v := .bool (!(decide ((l_0.length : Int) = nx_1)))) (pu_neq (k := .i64) (a := (l_0.length : Int)) (b := nx_1) rfl rfl) ?_
  refine lex.nil ?_
  refine hK4 _ _ ?_
  refine Wc.cond (t := (!(decide ((l_0.length : Int) = nx_1)))) (rfl) (fun hq5 => ?_) (fun hq5 => ?_)
  · replace hb := (cT hq5).symm.trans hb
    refine Wc.seq fun K6 hK6 => ?_
    refine Wc.region (by decide +kernel) ?_
    refine lex.pure (v := .bool false) (pu_assign rfl) ?_
    refine lex.nil ?_
    refine hK6 _ _ ?_
    obtain rfl := Option.some.inj hb
    refine Wc.ret ?_
    refine hKR _ _ ?_
    refine ⟨_, res1 Try.results61 (show RV _ _ _ (.tmp _) (.bool false) from rfl), _, rfl, rfl, hC.sel [] (by decide)⟩
  · replace hb := (cF hq5).symm.trans hb
    refine Wc.skip ?_
    refine hK3 _ _ ?_
    refine Wc.seq fun K7 hK7 => ?_
    refine Wc.seq fun K8 hK8 => ?_
    refine Wc.region (by decide +kernel) ?_
    refine lex.pure (v := .int .i64 0) (pu_assign rfl) ?_
    refine lex.nil ?_
    refine hK8 _ _ ?_
    obtain ⟨o9, hl0, hb⟩ := bd hb
    refine Wc.cut (fun E wv => ∃ (v5_0 : Int), E 4 = .bool false ∧ I64 v5_0 ∧ Cx (fun _ => False) O0 w wv [] ∧ (some true : Option (Bool)) = some r) (fun K10 hK10 => ?_) ?_
    · refine Wc.block ?_
      refine Wc.loop (fun m E wv => ∃ (v5_0 : Int), E 0 = .slice Al_0 l_0.length cl_0 ∧ E 1 = .int .i64 nx_1 ∧ E 4 = .bool false ∧ E 5 = .int .i64 v5_0 ∧ I64 v5_0 ∧ Cx (fun _ => False) O0 w wv [.ro (.sl (.int .i64)) [.slice Al_0 l_0.length cl_0] l_0] ∧ loopN m (F.ref01_IsPerm_b0 n l_0 nx_1) v5_0 = some o9) n ⟨0, rfl, rfl, rfl, rfl, (show I64 0 from by unfold I64; omega), hC.sel [0] (by decide), hl0⟩ ?_
      have hbK0 := hb
      clear hb hC hl0
      rintro m12 E14 w13 ⟨v5_0, e0, e1, e4, e5, hrv5_0, hC, hl0⟩ K11 hK11
      obtain ⟨m12', o15, rfl, hb, hl0⟩ := loopN_some hl0
      unfold F.ref01_IsPerm_b0 at hb
      refine Wc.seq fun K16 hK16 => ?_
      refine Wc.seq fun K17 hK17 => ?_
      refine Wc.region (by decide +kernel) ?_
      refine lex.pure (v := .int .i64 v5_0) (pu_move e5) ?_
      refine lex.pure (v := .int .i64 nx_1) (pu_move e1) ?_
      refine lex.pure (v := .bool (decide (v5_0 < nx_1))) (pu_lss (k := .i64) (a := v5_0) (b := nx_1) rfl rfl) ?_
      refine lex.nil ?_
      refine hK17 _ _ ?_
      refine Wc.cond (t := (decide (v5_0 < nx_1))) (rfl) (fun hq18 => ?_) (fun hq18 => ?_)
      · replace hb := (cT hq18).symm.trans hb
        refine Wc.skip ?_
        refine hK16 _ _ ?_
        refine Wc.seq fun K19 hK19 => ?_
        refine Wc.block ?_
        refine Wc.seq fun K20 hK20 => ?_
        refine Wc.region (by decide +kernel) ?_
        refine lex.pure (v := .slice Al_0 l_0.length cl_0) (pu_move e0) ?_
        refine lex.pure (v := .int .i64 v5_0) (pu_move e5) ?_
        obtain ⟨y21, h22, hb⟩ := bd hb
        refine lex.cl (⟨_, _, op_call (vs := [.slice Al_0 l_0.length cl_0, .int .i64 v5_0]) Try.call67 rfl rfl rfl, ref01_In_ok n hC.lt (hC.rd (i := 0) rfl) hrv5_0 h22⟩) ?_
        rintro _ w23 ⟨rfl, hK⟩
        replace hC := hC.merge hK
        clear hK
        refine lex.pure (v := .bool (!y21)) (pu_not (q := y21) rfl) ?_
        refine lex.nil ?_
        refine hK20 _ _ ?_
        refine Wc.cond (t := (!y21)) (rfl) (fun hq24 => ?_) (fun hq24 => ?_)
        · replace hb := (cT hq24).symm.trans hb
          refine Wc.seq fun K25 hK25 => ?_
          refine Wc.region (by decide +kernel) ?_
          refine lex.pure (v := .bool false) (pu_assign rfl) ?_
          refine lex.nil ?_
          refine hK25 _ _ ?_
          obtain rfl := Option.some.inj hb
          obtain rfl := (lX hl0).symm
          replace hb := hbK0
          obtain rfl := Option.some.inj hb
          refine Wc.ret ?_
          refine hKR _ _ ?_
          refine ⟨_, res1 Try.results61 (show RV _ _ _ (.tmp _) (.bool false) from rfl), _, rfl, rfl, hC.sel [] (by decide)⟩
        · replace hb := (cF hq24).symm.trans hb
          refine Wc.skip ?_
          refine hK19 _ _ ?_
          refine Wc.region (by decide +kernel) ?_
          refine lex.pure (v := .int .i64 v5_0) (pu_move e5) ?_
          obtain ⟨z26, h27, hb⟩ := bd hb
          refine lex.pure (v := .int .i64 z26) (pu_addc (a := v5_0) (b := 1) rfl rfl h27) ?_
          refine lex.pure (v := .int .i64 z26) (pu_assign rfl) ?_
          refine lex.nil ?_
          obtain rfl := Option.some.inj hb
          exact hK11 m12' _ _ (Nat.lt_succ_self _) ⟨z26, e0, e1, e4, rfl, (chk_rng h27), hC.sel [0] (by decide), lN hl0⟩
      · replace hb := (cF hq18).symm.trans hb
        refine Wc.exit rfl ?_
        obtain rfl := Option.some.inj hb
        obtain rfl := (lX hl0).symm
        exact hK10 _ _ ⟨v5_0, e4, hrv5_0, hC.sel [] (by decide), hbK0⟩
    · clear hb hC hl0
      rintro E29 w28 ⟨v5_0, e4, hrv5_0, hC, hb⟩
      refine hK7 _ _ ?_
      refine Wc.seq fun K30 hK30 => ?_
      refine Wc.region (by decide +kernel) ?_
      refine lex.pure (v := .bool true) (pu_assign rfl) ?_
      refine lex.nil ?_
      refine hK30 _ _ ?_
      obtain rfl := Option.some.inj hb
      refine Wc.ret ?_
      refine hKR _ _ ?_
      refine ⟨_, res1 Try.results61 (show RV _ _ _ (.tmp _) (.bool true) from rfl), _, rfl, rfl, hC.sel [] (by decide)⟩

set_option maxRecDepth 100000 in
set_option maxHeartbeats 4000000 in
theorem ref30_Valid_ok (n : Nat) {w : World} {O0 : List Nat} (hO : ∀ k ∈ O0, k < w.heap.size) {Ap_0 : Option Addr} {mp_0 cp_0 : Nat} {p_0 : List Int} (hp_0 : Rep O0 w (.sl (.int .i64)) [.slice Ap_0 mp_0 cp_0] p_0) {r : Bool} (hb : F.ref30_Valid n p_0 = some r) :
    Calls Try.prog 44 #[.slice Ap_0 mp_0 cp_0] w fun e w' => ∃ v, e = .returned v ∧ v = .bool r ∧ Cx (fun _ => False) O0 w w' [] := by
  unfold F.ref30_Valid at hb
  have hC := Cx.start hO
  replace hC := hC.arg rfl hp_0
  clear hO
  obtain ⟨rfl, hlp_0, hcp_0⟩ := hp_0.sl_len
  refine calls_of_Wc Try.func44 rfl (by rw [Try.ntmps44]; exact Nat.le_of_ble_eq_true rfl) fun KR hKR => ?_
  refine Wc.seq fun K2 hK2 => ?_
  refine Wc.region (by decide +kernel) ?_
  refine lex.pure (v := .bool false) (pu_assign rfl) ?_
  refine lex.nil ?_
  refine hK2 _ _ ?_
  refine Wc.seq fun K3 hK3 => ?_
  refine Wc.region (by decide +kernel) ?_
  refine lex.pure (v := .slice Ap_0 p_0.length cp_0) (pu_move rfl) ?_
  refine lex.pure (v := .slice Ap_0 p_0.length cp_0) (pu_move rfl) ?_
  refine lex.pure (v := .int .i64 (p_0.length : Int)) (pu_len (A := Ap_0) (n := p_0.length) (m := cp_0) Try.underlying22 rfl) ?_
  obtain ⟨y4, h5, hb⟩ := bd hb
  refine lex.cl (⟨_, _, op_call (vs := [.slice Ap_0 p_0.length cp_0, .int .i64 (p_0.length : Int)]) Try.call61 rfl rfl rfl, ref01_IsPerm_ok n hC.lt (hC.rd (i := 0) rfl) (I64.len hlp_0 hcp_0) h5⟩) ?_
  rintro _ w6 ⟨rfl, hK⟩
  replace hC := hC.merge hK
  clear hK
  refine lex.pure (v := .bool y4) (pu_assign rfl) ?_
  refine lex.nil ?_
  refine hK3 _ _ ?_
  obtain rfl := Option.some.inj hb
  refine Wc.ret ?_
  refine hKR _ _ ?_
  refine ⟨_, res1 Try.results44 (show RV _ _ _ (.tmp _) (.bool y4) from rfl), _, rfl, rfl, hC.sel [] (by decide)⟩

set_option maxRecDepth 100000 in
set_option maxHeartbeats 4000000 in
theorem ref30_Inverse_ok (n : Nat) {w : World} {O0 : List Nat} (hO : ∀ k ∈ O0, k < w.heap.size) {Ap_0 : Option Addr} {mp_0 cp_0 : Nat} {p_0 : List Int} (hp_0 : Rep O0 w (.sl (.int .i64)) [.slice Ap_0 mp_0 cp_0] p_0) {r : (List Int)} (hb : F.ref30_Inverse n p_0 = some r) :
    Calls Try.prog 46 #[.slice Ap_0 mp_0 cp_0] w fun e w' => ∃ v, e = .returned v ∧ ∃ (A0 : Option Addr) (m0 c0 : Nat), v = .slice A0 m0 c0 ∧ Cx (fun _ => False) O0 w w' [.own 3 (.int .i64) (.slice A0 m0 c0) r] := by
  unfold F.ref30_Inverse at hb
  have hC := Cx.start hO
  replace hC := hC.arg rfl hp_0
  clear hO
  obtain ⟨rfl, hlp_0, hcp_0⟩ := hp_0.sl_len
  refine calls_of_Wc Try.func46 rfl (by rw [Try.ntmps46]; exact Nat.le_of_ble_eq_true rfl) fun KR hKR => ?_
  refine Wc.seq fun K2 hK2 => ?_
  refine Wc.region (by decide +kernel) ?_
  refine lex.pure (v := .slice none 0 0) (pu_assign rfl) ?_
  refine lex.nil ?_
  refine hK2 _ _ ?_
  refine Wc.seq fun K3 hK3 => ?_
  refine Wc.region (by decide +kernel) ?_
  refine lex.pure (v := .slice Ap_0 p_0.length cp_0) (pu_move rfl) ?_
  refine lex.pure (v := .int .i64 (p_0.length : Int)) (pu_len (A := Ap_0) (n := p_0.length) (m := cp_0) Try.underlying22 rfl) ?_
  obtain ⟨u4, h5, hb⟩ := bd hb
  refine lex.op (hC.make (s := (.int .i64)) (n := (p_0.length : Int)) Try.underlying22 Try.type3 rfl rfl rfl rfl rfl (pos_some h5).1 (pos_some h5).2 (by decide)) ?_
  rintro _ w10 ⟨A6, c7, rfl, hl8, hc9, hC, hF, hN⟩
  clear hF hN
  refine lex.pure (v := .slice A6 (((List.replicate (p_0.length : Int).toNat (0 : Int))).length) c7) (pu_assign rfl) ?_
  refine lex.nil ?_
  refine hK3 _ _ ?_
  refine Wc.seq fun K12 hK12 => ?_
  refine Wc.seq fun K13 hK13 => ?_
  refine Wc.region (by decide +kernel) ?_
  refine lex.pure (v := .int .i64 0) (pu_assign rfl) ?_
  refine lex.nil ?_
  refine hK13 _ _ ?_
  obtain ⟨o14, hl0, hb⟩ := bd hb
  refine Wc.cut (fun E wv => ∃ (v4_0 : Int) (qf11_0 : List Int), E 2 = .slice none 0 0 ∧ E 3 = .slice A6 (((List.replicate (p_0.length : Int).toNat (0 : Int))).length) c7 ∧ I64 v4_0 ∧ Cx (fun _ => False) O0 w wv [.own 3 (.int .i64) (.slice A6 (((List.replicate (p_0.length : Int).toNat (0 : Int))).length) c7) qf11_0] ∧ (some qf11_0 : Option ((List Int))) = some r) (fun K15 hK15 => ?_) ?_
  · refine Wc.block ?_
    refine Wc.loop (fun m E wv => ∃ (v4_0 : Int) (qf11_0 : List Int), E 0 = .slice Ap_0 p_0.length cp_0 ∧ E 2 = .slice none 0 0 ∧ E 3 = .slice A6 (((List.replicate (p_0.length : Int).toNat (0 : Int))).length) c7 ∧ E 4 = .int .i64 v4_0 ∧ I64 v4_0 ∧ Cx (fun _ => False) O0 w wv [.ro (.sl (.int .i64)) [.slice Ap_0 p_0.length cp_0] p_0, .own 3 (.int .i64) (.slice A6 (((List.replicate (p_0.length : Int).toNat (0 : Int))).length) c7) qf11_0] ∧ loopN m (F.ref30_Inverse_b0 n p_0) (v4_0, qf11_0) = some o14) n ⟨0, (List.replicate (p_0.length : Int).toNat (0 : Int)), rfl, rfl, rfl, rfl, (show I64 0 from by unfold I64; omega), hC.sel [1, 0] (by decide), hl0⟩ ?_
    have hbK0 := hb
    clear hb hC hl0
    rintro m17 E19 w18 ⟨v4_0, qf11_0, e0, e2, e3, e4, hrv4_0, hC, hl0⟩ K16 hK16
    obtain ⟨m17', o20, rfl, hb, hl0⟩ := loopN_some hl0
    unfold F.ref30_Inverse_b0 at hb
    refine Wc.seq fun K21 hK21 => ?_
    refine Wc.seq fun K22 hK22 => ?_
    refine Wc.region (by decide +kernel) ?_
    refine lex.pure (v := .int .i64 v4_0) (pu_move e4) ?_
    refine lex.pure (v := .slice Ap_0 p_0.length cp_0) (pu_move e0) ?_
    refine lex.pure (v := .int .i64 (p_0.length : Int)) (pu_len (A := Ap_0) (n := p_0.length) (m := cp_0) Try.underlying22 rfl) ?_
    refine lex.pure (v := .bool (decide (v4_0 < (p_0.length : Int)))) (pu_lss (k := .i64) (a := v4_0) (b := (p_0.length : Int)) rfl rfl) ?_
    refine lex.nil ?_
    refine hK22 _ _ ?_
    refine Wc.cond (t := (decide (v4_0 < (p_0.length : Int)))) (rfl) (fun hq23 => ?_) (fun hq23 => ?_)
    · replace hb := (cT hq23).symm.trans hb
      refine Wc.skip ?_
      refine hK21 _ _ ?_
      refine Wc.seq fun K24 hK24 => ?_
      refine Wc.block ?_
      refine Wc.region (by decide +kernel) ?_
      refine lex.pure (v := .slice A6 (((List.replicate (p_0.length : Int).toNat (0 : Int))).length) c7) (pu_move e3) ?_
      refine lex.pure (v := .slice Ap_0 p_0.length cp_0) (pu_move e0) ?_
      refine lex.pure (v := .int .i64 v4_0) (pu_move e4) ?_
      obtain ⟨x25, h26, hb⟩ := bd hb
      obtain ⟨ad27, cs28, hA, hc29, hr30⟩ := hC.elr (i := 0) rfl (get_some h26).2
      subst hA
      refine lex.pure (v := .pointer (some (ad27.add (v4_0.toNat * 1)))) (pu_index (a := v4_0) Try.underlying22 Try.sizeOf3 rfl rfl (get_some h26).1) ?_
      obtain ⟨rfl, hr30'⟩ := hr30
      refine lex.val (v := .int .i64 x25) (ld_one Try.isAgg3 rfl (hc29 0 _ rfl)) ?_
      refine lex.pure (v := .int .i64 v4_0) (pu_move e4) ?_
      obtain ⟨x31, h32, hb⟩ := bd hb
      obtain ⟨ad33, cs34, hA, hc35, hr36⟩ := hC.elo (i := 1) rfl (get_some h32).2
      subst hA
      refine lex.pure (v := .pointer (some (ad33.add (x25.toNat * 1)))) (pu_index (a := x25) Try.underlying22 Try.sizeOf3 rfl rfl (by rw [(hC.ow (i := 1) rfl).sl_len.1]; exact (get_some h32).1)) ?_
      refine lex.sk (hC.put (i := 1) rfl rfl Try.sizeOf3 (k := x25.toNat) (a := v4_0) (by have := (get_some h32).1; simp at this ⊢; omega) (⟨rfl, I64.wr hrv4_0⟩) rfl rfl rfl) ?_
      rintro w37 ⟨hC, hF⟩
      refine lex.nil ?_
      refine hK24 _ _ ?_
      refine Wc.region (by decide +kernel) ?_
      refine lex.pure (v := .int .i64 v4_0) (pu_move e4) ?_
      obtain ⟨z38, h39, hb⟩ := bd hb
      refine lex.pure (v := .int .i64 z38) (pu_addc (a := v4_0) (b := 1) rfl rfl h39) ?_
      refine lex.pure (v := .int .i64 z38) (pu_assign rfl) ?_
      refine lex.nil ?_
      obtain rfl := Option.some.inj hb
      exact hK16 m17' _ _ (Nat.lt_succ_self _) ⟨z38, (qf11_0.set x25.toNat v4_0), e0, e2, e3, rfl, (chk_rng h39), hC.sel [0, 1] (by decide), lN hl0⟩
    · replace hb := (cF hq23).symm.trans hb
      refine Wc.exit rfl ?_
      obtain rfl := Option.some.inj hb
      obtain rfl := (lX hl0).symm
      exact hK15 _ _ ⟨v4_0, qf11_0, e2, e3, hrv4_0, hC.sel [1] (by decide), hbK0⟩
  · clear hb hC hl0
    rintro E41 w40 ⟨v4_0, qf11_0, e2, e3, hrv4_0, hC, hb⟩
    refine hK12 _ _ ?_
    refine Wc.seq fun K42 hK42 => ?_
    refine Wc.region (by decide +kernel) ?_
    refine lex.pure (v := .slice A6 (((List.replicate (p_0.length : Int).toNat (0 : Int))).length) c7) (pu_move e3) ?_
    refine lex.pure (v := .slice A6 (((List.replicate (p_0.length : Int).toNat (0 : Int))).length) c7) (pu_assign rfl) ?_
    refine lex.nil ?_
    refine hK42 _ _ ?_
    obtain rfl := Option.some.inj hb
    refine Wc.ret ?_
    refine hKR _ _ ?_
    refine ⟨_, res1 Try.results46 (show RV _ _ _ (.tmp _) (.slice A6 (((List.replicate (p_0.length : Int).toNat (0 : Int))).length) c7) from rfl), _, rfl, A6, ((List.replicate (p_0.length : Int).toNat (0 : Int))).length, c7, rfl, hC.sel [0] (by decide)⟩

set_option maxRecDepth 100000 in
set_option maxHeartbeats 4000000 in
theorem ref34_contains_ok (n : Nat) {w : World} {O0 : List Nat} (hO : ∀ k ∈ O0, k < w.heap.size) {Al_0 : Option Addr} {ml_0 cl_0 : Nat} {l_0 : List Int} (hl_0 : Rep O0 w (.sl (.int .i64)) [.slice Al_0 ml_0 cl_0] l_0) {x_1 : Int} (hx_1 : I64 x_1) {r : Bool} (hb : F.ref34_contains n l_0 x_1 = some r) :
    Calls Try.prog 47 #[.slice Al_0 ml_0 cl_0, .int .i64 x_1] w fun e w' => ∃ v, e = .returned v ∧ v = .bool r ∧ Cx (fun _ => False) O0 w w' [] := by
  unfold F.ref34_contains at hb
  have hC := Cx.start hO
  replace hC := hC.arg rfl hl_0
  clear hO
  obtain ⟨rfl, hll_0, hcl_0⟩ := hl_0.sl_len
  refine calls_of_Wc Try.func47 rfl (by rw [Try.ntmps47]; exact Nat.le_of_ble_eq_true rfl) fun KR hKR => ?_
  refine Wc.seq fun K2 hK2 => ?_
  refine Wc.region (by decide +kernel) ?_
  refine lex.pure (v := .bool false) (pu_assign rfl) ?_
  refine lex.nil ?_
  refine hK2 _ _ ?_
  refine Wc.seq fun K3 hK3 => ?_
  refine Wc.seq fun K4 hK4 => ?_
  refine Wc.region (by decide +kernel) ?_
  refine lex.pure (v := .int .i64 0) (pu_assign rfl) ?_
  refine lex.nil ?_
  refine hK4 _ _ ?_
  obtain ⟨o5, hl0, hb⟩ := bd hb
  refine Wc.cut (fun E wv => ∃ (v5_0 : Int), E 4 = .bool false ∧ I64 v5_0 ∧ Cx (fun _ => False) O0 w wv [] ∧ (some false : Option (Bool)) = some r) (fun K6 hK6 => ?_) ?_
  · refine Wc.block ?_
    refine Wc.loop (fun m E wv => ∃ (v5_0 : Int), E 0 = .slice Al_0 l_0.length cl_0 ∧ E 1 = .int .i64 x_1 ∧ E 4 = .bool false ∧ E 5 = .int .i64 v5_0 ∧ I64 v5_0 ∧ Cx (fun _ => False) O0 w wv [.ro (.sl (.int .i64)) [.slice Al_0 l_0.length cl_0] l_0] ∧ loopN m (F.ref34_contains_b0 n l_0 x_1) v5_0 = some o5) n ⟨0, rfl, rfl, rfl, rfl, (show I64 0 from by unfold I64; omega), hC.sel [0] (by decide), hl0⟩ ?_
    have hbK0 := hb
    clear hb hC hl0
    rintro m8 E10 w9 ⟨v5_0, e0, e1, e4, e5, hrv5_0, hC, hl0⟩ K7 hK7
    obtain ⟨m8', o11, rfl, hb, hl0⟩ := loopN_some hl0
    unfold F.ref34_contains_b0 at hb
    refine Wc.seq fun K12 hK12 => ?_
    refine Wc.seq fun K13 hK13 => ?_
    refine Wc.region (by decide +kernel) ?_
    refine lex.pure (v := .int .i64 v5_0) (pu_move e5) ?_
    refine lex.pure (v := .slice Al_0 l_0.length cl_0) (pu_move e0) ?_
    refine lex.pure (v := .int .i64 (l_0.length : Int)) (pu_len (A := Al_0) (n := l_0.length) (m := cl_0) Try.underlying22 rfl) ?_
    refine lex.pure (v := .bool (decide (v5_0 < (l_0.length : Int)))) (pu_lss (k := .i64) (a := v5_0) (b := (l_0.length : Int)) rfl rfl) ?_
    refine lex.nil ?_
    refine hK13 _ _ ?_
    refine Wc.cond (t := (decide (v5_0 < (l_0.length : Int)))) (rfl) (fun hq14 => ?_) (fun hq14 => ?_)
    · replace hb := (cT hq14).symm.trans hb
      refine Wc.skip ?_
      refine hK12 _ _ ?_
      refine Wc.seq fun K15 hK15 => ?_
      refine Wc.block ?_
      refine Wc.seq fun K16 hK16 => ?_
      refine Wc.region (by decide +kernel) ?_
      refine lex.pure (v := .slice Al_0 l_0.length cl_0) (pu_move e0) ?_
      refine lex.pure (v := .int .i64 v5_0) (pu_move e5) ?_
      obtain ⟨x17, h18, hb⟩ := bd hb
      obtain ⟨ad19, cs20, hA, hc21, hr22⟩ := hC.elr (i := 0) rfl (get_some h18).2
      subst hA
      refine lex.pure (v := .pointer (some (ad19.add (v5_0.toNat * 1)))) (pu_index (a := v5_0) Try.underlying22 Try.sizeOf3 rfl rfl (get_some h18).1) ?_
      obtain ⟨rfl, hr22'⟩ := hr22
      refine lex.val (v := .int .i64 x17) (ld_one Try.isAgg3 rfl (hc21 0 _ rfl)) ?_
      refine lex.pure (v := .int .i64 x_1) (pu_move e1) ?_
      refine lex.pure (v := .bool (decide (x17 = x_1))) (pu_eql (k := .i64) (a := x17) (b := x_1) rfl rfl) ?_
      refine lex.nil ?_
      refine hK16 _ _ ?_
      refine Wc.cond (t := (decide (x17 = x_1))) (rfl) (fun hq23 => ?_) (fun hq23 => ?_)
      · replace hb := (cT hq23).symm.trans hb
        refine Wc.seq fun K24 hK24 => ?_
        refine Wc.region (by decide +kernel) ?_
        refine lex.pure (v := .bool true) (pu_assign rfl) ?_
        refine lex.nil ?_
        refine hK24 _ _ ?_
        obtain rfl := Option.some.inj hb
        obtain rfl := (lX hl0).symm
        replace hb := hbK0
        obtain rfl := Option.some.inj hb
        refine Wc.ret ?_
        refine hKR _ _ ?_
        refine ⟨_, res1 Try.results47 (show RV _ _ _ (.tmp _) (.bool true) from rfl), _, rfl, rfl, hC.sel [] (by decide)⟩
      · replace hb := (cF hq23).symm.trans hb
        refine Wc.skip ?_
        refine hK15 _ _ ?_
        refine Wc.region (by decide +kernel) ?_
        refine lex.pure (v := .int .i64 v5_0) (pu_move e5) ?_
        obtain ⟨z25, h26, hb⟩ := bd hb
        refine lex.pure (v := .int .i64 z25) (pu_addc (a := v5_0) (b := 1) rfl rfl h26) ?_
        refine lex.pure (v := .int .i64 z25) (pu_assign rfl) ?_
        refine lex.nil ?_
        obtain rfl := Option.some.inj hb
        exact hK7 m8' _ _ (Nat.lt_succ_self _) ⟨z25, e0, e1, e4, rfl, (chk_rng h26), hC.sel [0] (by decide), lN hl0⟩
    · replace hb := (cF hq14).symm.trans hb
      refine Wc.exit rfl ?_
      obtain rfl := Option.some.inj hb
      obtain rfl := (lX hl0).symm
      exact hK6 _ _ ⟨v5_0, e4, hrv5_0, hC.sel [] (by decide), hbK0⟩
  · clear hb hC hl0
    rintro E28 w27 ⟨v5_0, e4, hrv5_0, hC, hb⟩
    refine hK3 _ _ ?_
    refine Wc.seq fun K29 hK29 => ?_
    refine Wc.region (by decide +kernel) ?_
    refine lex.pure (v := .bool false) (pu_assign rfl) ?_
    refine lex.nil ?_
    refine hK29 _ _ ?_
    obtain rfl := Option.some.inj hb
    refine Wc.ret ?_
    refine hKR _ _ ?_
    refine ⟨_, res1 Try.results47 (show RV _ _ _ (.tmp _) (.bool false) from rfl), _, rfl, rfl, hC.sel [] (by decide)⟩
end Go.Proofs.Ytkeaonceaaafcaa
