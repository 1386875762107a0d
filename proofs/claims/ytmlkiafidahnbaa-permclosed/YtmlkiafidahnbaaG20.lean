/- The walks: part 20. -/
import Derived.Test.YtmlkiafidahnbaaS
set_option linter.unusedVariables false
set_option linter.unusedSimpArgs false
namespace Go.Proofs.Ytmlkiafidahnbaa
open Ev
set_option maxRecDepth 100000 in
set_option maxHeartbeats 4000000 in
theorem perm_key_ok (n : Nat) {w : World} {O0 : List Nat} (hO : ∀ k ∈ O0, k < w.heap.size) {Ap_0 : Option Addr} {mp_0 cp_0 : Nat} {p_0 : List Int} (hp_0 : Rep O0 w (.sl (.int .i64)) [.slice Ap_0 mp_0 cp_0] p_0) {r : (List Int)} (hb : F.perm_key n p_0 = some r) :
    Calls Try.prog 47 #[.slice Ap_0 mp_0 cp_0] w fun e w' => ∃ v, e = .returned v ∧ v = .string (bA r) ∧ Cx (fun _ => False) O0 w w' [] := by
 unfold F.perm_key at hb
 have hC := Cx.start hO
 replace hC := hC.arg rfl hp_0
 clear hO
 obtain ⟨rfl, hlp_0, hcp_0⟩ := hp_0.sl_len
 refine calls_of_Wc Try.func47 rfl (by rw [Try.ntmps47]; exact Nat.le_of_ble_eq_true rfl) fun KR hKR => ?_
 refine Wc.seq fun K2 hK2 => ?_
 refine rg ?_
 refine lp (.string (bA ([] : List Int))) (pu_assign rfl) ?_
 refine ln ?_
 refine hK2 _ _ ?_
 refine Wc.seq fun K3 hK3 => ?_
 refine rg ?_
 refine lp (.slice Ap_0 p_0.length cp_0) (pu_move rfl) ?_
 refine lp (.int .i64 (p_0.length : Int)) (pu_len (A := Ap_0) (n := p_0.length) (m := cp_0) Try.underlying29 rfl) ?_
 obtain ⟨z4, h5, hb⟩ := bd hb
 refine lp (.int .i64 z4) (pu_mulc (a := 4) (b := (p_0.length : Int)) rfl rfl h5) ?_
 obtain ⟨u6, h7, hb⟩ := bd hb
 refine lex.op (hC.make0 (s := (.int .u8)) (n := z4) Try.underlying74 Try.type5 rfl rfl rfl rfl (pos_some h7).1 (pos_some h7).2 (by decide)) ?_
 rintro _ w12 ⟨A8, c9, rfl, hl10, hc11, hC, hF, hN⟩
 clear hF hN
 refine lp (.slice A8 ((([] : List Int)).length) c9) (pu_assign rfl) ?_
 refine ln ?_
 refine hK3 _ _ ?_
 refine Wc.seq fun K14 hK14 => ?_
 refine Wc.seq fun K15 hK15 => ?_
 refine rg ?_
 refine lp (.slice Ap_0 p_0.length cp_0) (pu_move rfl) ?_
 refine lp (.int .i64 (p_0.length : Int)) (pu_len (A := Ap_0) (n := p_0.length) (m := cp_0) Try.underlying29 rfl) ?_
 refine lp (.int .i64 0) (pu_move rfl) ?_
 refine ln ?_
 refine hK15 _ _ ?_
 obtain ⟨o16, hl0, hb⟩ := bd hb
 refine Wc.cut (fun E wv => ∃ (l3_0 : List Int) (v12_0 : Int) (Al3_0 : Option Addr) (ml3_0 cl3_0 : Nat), E 2 = .string (bA ([] : List Int)) ∧ E 3 = .slice Al3_0 ml3_0 cl3_0 ∧ I64 v12_0 ∧ Cx (fun _ => False) O0 w wv [.own 5 (.int .u8) (.slice Al3_0 ml3_0 cl3_0) l3_0] ∧ (some l3_0 : Option ((List Int))) = some r) (fun K17 hK17 => ?_) ?_
 refine Wc.block ?_
 refine Wc.loop (fun m E wv => ∃ (l3_0 : List Int) (v12_0 : Int) (Al3_0 : Option Addr) (ml3_0 cl3_0 : Nat), E 2 = .string (bA ([] : List Int)) ∧ E 3 = .slice Al3_0 ml3_0 cl3_0 ∧ E 10 = .slice Ap_0 p_0.length cp_0 ∧ E 11 = .int .i64 (p_0.length : Int) ∧ E 12 = .int .i64 v12_0 ∧ I64 v12_0 ∧ Cx (fun _ => False) O0 w wv [.own 5 (.int .u8) (.slice Al3_0 ml3_0 cl3_0) l3_0, .ro (.sl (.int .i64)) [.slice Ap_0 p_0.length cp_0] p_0] ∧ loopN m (F.perm_key_b0 n p_0) (l3_0, v12_0) = some o16) n ⟨([] : List Int), 0, A8, (([] : List Int)).length, c9, rfl, rfl, rfl, rfl, rfl, (show I64 0 from by unfold I64; omega), hC.sel [0, 1] (by decide), hl0⟩ ?_
 have hbK0 := hb
 clear hb hC hl0
 rintro m19 E21 w20 ⟨l3_0, v12_0, Al3_0, ml3_0, cl3_0, e2, e3, e10, e11, e12, hrv12_0, hC, hl0⟩ K18 hK18
 obtain ⟨m19', o22, rfl, hb, hl0⟩ := loopN_some hl0
 unfold F.perm_key_b0 at hb
 obtain ⟨rfl, hll3_0, hcl3_0⟩ := (hC.ow (i := 0) rfl).sl_len
 refine Wc.seq fun K23 hK23 => ?_
 refine rg ?_
 refine lp (.bool (decide (v12_0 < (p_0.length : Int)))) (pu_lss (k := .i64) (a := v12_0) (b := (p_0.length : Int)) e12 e11) ?_
 refine ln ?_
 refine hK23 _ _ ?_
 refine Wc.seq fun K24 hK24 => ?_
 refine Wc.cond (t := (decide (v12_0 < (p_0.length : Int)))) (rfl) (fun hq25 => ?_) (fun hq25 => ?_)
 replace hb := tt hq25 hb
 refine Wc.skip ?_
 refine hK24 _ _ ?_
 refine Wc.seq fun K26 hK26 => ?_
 refine Wc.block ?_
 refine Wc.seq fun K27 hK27 => ?_
 refine rg ?_
 obtain ⟨x28, h29, hb⟩ := bd hb
 obtain ⟨ad30, cs31, hA, hc32, hr33⟩ := hC.elr (i := 1) rfl (get_some h29).2
 subst hA
 refine lp (.pointer (some (ad30.add (v12_0.toNat * 1)))) (pu_index (a := v12_0) Try.underlying29 Try.sizeOf3 e10 e12 (get_some h29).1) ?_
 obtain ⟨rfl, hr33'⟩ := hr33
 refine lv (.int .i64 x28) (ld_one Try.isAgg3 rfl (hc32 0 _ rfl)) ?_
 refine lp (.int .i64 x28) (pu_assign rfl) ?_
 refine ln ?_
 refine hK27 _ _ ?_
 refine rg ?_
 refine lp (.slice Al3_0 l3_0.length cl3_0) (pu_move e3) ?_
 refine lp (.int .i64 x28) (pu_move rfl) ?_
 refine lp (.int .u8 (w8 x28)) (pu_conv (a := x28) Try.underlying3 Try.underlying5 rfl (wrap8 x28)) ?_
 refine lp (.int .i64 x28) (pu_move rfl) ?_
 refine lp (.int .i64 (x28 / 256)) (pu_shr (q := 256) rfl rfl (by decide) (by decide) (by decide)) ?_
 refine lp (.int .u8 (w8 (x28 / 256))) (pu_conv (a := (x28 / 256)) Try.underlying3 Try.underlying5 rfl (wrap8 (x28 / 256))) ?_
 refine lp (.int .i64 x28) (pu_move rfl) ?_
 refine lp (.int .i64 (x28 / 65536)) (pu_shr (q := 65536) rfl rfl (by decide) (by decide) (by decide)) ?_
 refine lp (.int .u8 (w8 (x28 / 65536))) (pu_conv (a := (x28 / 65536)) Try.underlying3 Try.underlying5 rfl (wrap8 (x28 / 65536))) ?_
 refine lp (.int .i64 x28) (pu_move rfl) ?_
 refine lp (.int .i64 (x28 / 16777216)) (pu_shr (q := 16777216) rfl rfl (by decide) (by decide) (by decide)) ?_
 refine lp (.int .u8 (w8 (x28 / 16777216))) (pu_conv (a := (x28 / 16777216)) Try.underlying3 Try.underlying5 rfl (wrap8 (x28 / 16777216))) ?_
 refine lex.op (hC.lit (s := (.int .u8)) (vs := [.int .u8 (w8 x28), .int .u8 (w8 (x28 / 256)), .int .u8 (w8 (x28 / 65536)), .int .u8 (w8 (x28 / 16777216))]) (xs := [(w8 x28), (w8 (x28 / 256)), (w8 (x28 / 65536)), (w8 (x28 / 16777216))]) Try.underlying74 Try.type5 rfl rfl (Nat.le_of_ble_eq_true rfl) rfl rfl (by simp [Value.cells, Sh.n]) rfl (show Elems _ _ (.int .u8) ([.int .u8 (w8 x28)] ++ ([.int .u8 (w8 (x28 / 256))] ++ ([.int .u8 (w8 (x28 / 65536))] ++ ([.int .u8 (w8 (x28 / 16777216))] ++ ([]))))) ([(w8 x28), (w8 (x28 / 256)), (w8 (x28 / 65536)), (w8 (x28 / 16777216))] : List Int) from Elems.cons (⟨rfl, (w8_rng x28)⟩) (Elems.cons (⟨rfl, (w8_rng (x28 / 256))⟩) (Elems.cons (⟨rfl, (w8_rng (x28 / 65536))⟩) (Elems.cons (⟨rfl, (w8_rng (x28 / 16777216))⟩) (Elems.nil _ _ _)))))) ?_
 rintro _ w38 ⟨A34, c35, rfl, hl36, hc37, hC, hF, hN⟩
 clear hF hN
 obtain ⟨u40, h41, hb⟩ := bd hb
 refine lex.op (hC.app (i := 1) (s := (.int .u8)) (xs := l3_0) (ys := ([(w8 x28), (w8 (x28 / 256)), (w8 (x28 / 65536)), (w8 (x28 / 16777216))] : List Int)) (m := ((([(w8 x28), (w8 (x28 / 256)), (w8 (x28 / 65536)), (w8 (x28 / 16777216))] : List Int)).length)) rfl Try.underlying74 Try.underlying74 Try.type5 rfl rfl rfl (hC.srco (i := 0) rfl) rfl rfl (by have := lim_some h41; simp at this ⊢ <;> omega) (by decide)) ?_
 rintro _ w46 ⟨A42, c43, rfl, hl44, hc45, hC, hF, hN⟩
 clear hF hN
 refine lp (.slice A42 ((l3_0 ++ ([(w8 x28), (w8 (x28 / 256)), (w8 (x28 / 65536)), (w8 (x28 / 16777216))] : List Int)).length) c43) (pu_assign rfl) ?_
 refine ln ?_
 refine hK26 _ _ ?_
 refine rg ?_
 obtain ⟨z47, h48, hb⟩ := bd hb
 refine lp (.int .i64 z47) (pu_addc (a := v12_0) (b := 1) e12 rfl h48) ?_
 refine lp (.int .i64 z47) (pu_move rfl) ?_
 refine ln ?_
 obtain rfl := os hb
 exact hK18 m19' _ _ (Nat.lt_succ_self _) ⟨(l3_0 ++ ([(w8 x28), (w8 (x28 / 256)), (w8 (x28 / 65536)), (w8 (x28 / 16777216))] : List Int)), z47, A42, (l3_0 ++ ([(w8 x28), (w8 (x28 / 256)), (w8 (x28 / 65536)), (w8 (x28 / 16777216))] : List Int)).length, c43, e2, rfl, e10, e11, rfl, (chk_rng h48), hC.sel [1, 2] (by decide), lN hl0⟩
 replace hb := tf hq25 hb
 refine Wc.exit rfl ?_
 obtain rfl := os hb
 obtain rfl := (lX hl0).symm
 exact hK17 _ _ ⟨l3_0, v12_0, Al3_0, l3_0.length, cl3_0, e2, e3, hrv12_0, hC.sel [0] (by decide), hbK0⟩
 clear hb hC hl0
 rintro E50 w49 ⟨l3_0, v12_0, Al3_0, ml3_0, cl3_0, e2, e3, hrv12_0, hC, hb⟩
 obtain ⟨rfl, hll3_0, hcl3_0⟩ := (hC.ow (i := 0) rfl).sl_len
 refine hK14 _ _ ?_
 refine Wc.seq fun K51 hK51 => ?_
 refine rg ?_
 refine lp (.slice Al3_0 l3_0.length cl3_0) (pu_move e3) ?_
 refine lv (.string (bA l3_0)) (cv_str (own_rep (hC.ow (i := 0) rfl)) Try.underlying74 Try.underlying9 Try.underlying5 rfl) ?_
 refine lp (.string (bA l3_0)) (pu_assign rfl) ?_
 refine ln ?_
 refine hK51 _ _ ?_
 obtain rfl := os hb
 refine Wc.ret ?_
 refine hKR _ _ ?_
 refine ⟨_, res1 Try.results47 (show RV _ _ _ (.tmp _) (.string (bA l3_0)) from rfl), _, rfl, rfl, hC.sel [] (by decide)⟩

set_option maxRecDepth 100000 in
set_option maxHeartbeats 4000000 in
theorem quandle_idempotent_ok (n : Nat) {w : World} {O0 : List Nat} (hO : ∀ k ∈ O0, k < w.heap.size) {At_0 : Option Addr} {mt_0 ct_0 : Nat} {t_0 : List (List Int)} (ht_0 : Rep O0 w (.sl (.sl (.int .i64))) [.slice At_0 mt_0 ct_0] t_0) {r : Bool} (hb : F.quandle_idempotent n t_0 = some r) :
    Calls Try.prog 48 #[.slice At_0 mt_0 ct_0] w fun e w' => ∃ v, e = .returned v ∧ v = .bool r ∧ Cx (fun _ => False) O0 w w' [] := by
 unfold F.quandle_idempotent at hb
 have hC := Cx.start hO
 replace hC := hC.arg rfl ht_0
 clear hO
 obtain ⟨rfl, hlt_0, hct_0⟩ := ht_0.sl_len
 refine calls_of_Wc Try.func48 rfl (by rw [Try.ntmps48]; exact Nat.le_of_ble_eq_true rfl) fun KR hKR => ?_
 refine Wc.seq fun K2 hK2 => ?_
 refine rg ?_
 refine lp (.bool false) (pu_assign rfl) ?_
 refine ln ?_
 refine hK2 _ _ ?_
 refine Wc.seq fun K3 hK3 => ?_
 refine Wc.seq fun K4 hK4 => ?_
 refine rg ?_
 refine lp (.slice At_0 t_0.length ct_0) (pu_move rfl) ?_
 refine lp (.int .i64 (t_0.length : Int)) (pu_len (A := At_0) (n := t_0.length) (m := ct_0) Try.underlying23 rfl) ?_
 refine lp (.int .i64 0) (pu_move rfl) ?_
 refine ln ?_
 refine hK4 _ _ ?_
 obtain ⟨o5, hl0, hb⟩ := bd hb
 refine Wc.cut (fun E wv => ∃ (v6_0 : Int), E 2 = .bool false ∧ I64 v6_0 ∧ Cx (fun _ => False) O0 w wv [] ∧ (some true : Option (Bool)) = some r) (fun K6 hK6 => ?_) ?_
 refine Wc.block ?_
 refine Wc.loop (fun m E wv => ∃ (v6_0 : Int), E 0 = .slice At_0 t_0.length ct_0 ∧ E 2 = .bool false ∧ E 5 = .int .i64 (t_0.length : Int) ∧ E 6 = .int .i64 v6_0 ∧ I64 v6_0 ∧ Cx (fun _ => False) O0 w wv [.ro (.sl (.sl (.int .i64))) [.slice At_0 t_0.length ct_0] t_0] ∧ loopN m (F.quandle_idempotent_b0 n t_0) v6_0 = some o5) n ⟨0, rfl, rfl, rfl, rfl, (show I64 0 from by unfold I64; omega), hC.sel [0] (by decide), hl0⟩ ?_
 have hbK0 := hb
 clear hb hC hl0
 rintro m8 E10 w9 ⟨v6_0, e0, e2, e5, e6, hrv6_0, hC, hl0⟩ K7 hK7
 obtain ⟨m8', o11, rfl, hb, hl0⟩ := loopN_some hl0
 unfold F.quandle_idempotent_b0 at hb
 refine Wc.seq fun K12 hK12 => ?_
 refine rg ?_
 refine lp (.bool (decide (v6_0 < (t_0.length : Int)))) (pu_lss (k := .i64) (a := v6_0) (b := (t_0.length : Int)) e6 e5) ?_
 refine ln ?_
 refine hK12 _ _ ?_
 refine Wc.seq fun K13 hK13 => ?_
 refine Wc.cond (t := (decide (v6_0 < (t_0.length : Int)))) (rfl) (fun hq14 => ?_) (fun hq14 => ?_)
 replace hb := tt hq14 hb
 refine Wc.skip ?_
 refine hK13 _ _ ?_
 refine Wc.seq fun K15 hK15 => ?_
 refine Wc.block ?_
 refine Wc.seq fun K16 hK16 => ?_
 refine rg ?_
 refine lp (.int .i64 v6_0) (pu_move e6) ?_
 refine lp (.int .i64 v6_0) (pu_assign rfl) ?_
 refine ln ?_
 refine hK16 _ _ ?_
 refine Wc.seq fun K17 hK17 => ?_
 refine rg ?_
 refine lp (.slice At_0 t_0.length ct_0) (pu_move e0) ?_
 refine lp (.int .i64 v6_0) (pu_move rfl) ?_
 obtain ⟨x18, h19, hb⟩ := bd hb
 obtain ⟨ad20, cs21, hA, hc22, hr23⟩ := hC.elr (i := 0) rfl (get_some h19).2
 subst hA
 refine lp (.pointer (some (ad20.add (v6_0.toNat * 1)))) (pu_index (a := v6_0) Try.underlying23 Try.sizeOf28 rfl rfl (get_some h19).1) ?_
 have hR := hr23
 obtain ⟨A24, c25, rfl, hl26, hc27, _⟩ := hr23
 replace hC := hC.ro hR
 clear hR
 refine lv (.slice A24 x18.length c25) (ld_one Try.isAgg28 rfl (hc22 0 _ rfl)) ?_
 refine lp (.int .i64 v6_0) (pu_move rfl) ?_
 obtain ⟨x29, h30, hb⟩ := bd hb
 obtain ⟨ad31, cs32, hA, hc33, hr34⟩ := hC.elr (i := 0) rfl (get_some h30).2
 subst hA
 refine lp (.pointer (some (ad31.add (v6_0.toNat * 1)))) (pu_index (a := v6_0) Try.underlying28 Try.sizeOf3 rfl rfl (get_some h30).1) ?_
 obtain ⟨rfl, hr34'⟩ := hr34
 refine lv (.int .i64 x29) (ld_one Try.isAgg3 rfl (hc33 0 _ rfl)) ?_
 refine lp (.int .i64 v6_0) (pu_move rfl) ?_
 refine lp (.bool (!(decide (x29 = v6_0)))) (pu_neq (k := .i64) (a := x29) (b := v6_0) rfl rfl) ?_
 refine ln ?_
 refine hK17 _ _ ?_
 refine Wc.cond (t := (!(decide (x29 = v6_0)))) (rfl) (fun hq35 => ?_) (fun hq35 => ?_)
 replace hb := tt hq35 hb
 refine Wc.seq fun K36 hK36 => ?_
 refine rg ?_
 refine lp (.bool false) (pu_assign rfl) ?_
 refine ln ?_
 refine hK36 _ _ ?_
 obtain rfl := os hb
 obtain rfl := (lX hl0).symm
 replace hb := hbK0
 obtain rfl := os hb
 refine Wc.ret ?_
 refine hKR _ _ ?_
 refine ⟨_, res1 Try.results48 (show RV _ _ _ (.tmp _) (.bool false) from rfl), _, rfl, rfl, hC.sel [] (by decide)⟩
 replace hb := tf hq35 hb
 refine Wc.skip ?_
 refine hK15 _ _ ?_
 refine rg ?_
 obtain ⟨z37, h38, hb⟩ := bd hb
 refine lp (.int .i64 z37) (pu_addc (a := v6_0) (b := 1) e6 rfl h38) ?_
 refine lp (.int .i64 z37) (pu_move rfl) ?_
 refine ln ?_
 obtain rfl := os hb
 exact hK7 m8' _ _ (Nat.lt_succ_self _) ⟨z37, e0, e2, e5, rfl, (chk_rng h38), hC.sel [1] (by decide), lN hl0⟩
 replace hb := tf hq14 hb
 refine Wc.exit rfl ?_
 obtain rfl := os hb
 obtain rfl := (lX hl0).symm
 exact hK6 _ _ ⟨v6_0, e2, hrv6_0, hC.sel [] (by decide), hbK0⟩
 clear hb hC hl0
 rintro E40 w39 ⟨v6_0, e2, hrv6_0, hC, hb⟩
 refine hK3 _ _ ?_
 refine Wc.seq fun K41 hK41 => ?_
 refine rg ?_
 refine lp (.bool true) (pu_assign rfl) ?_
 refine ln ?_
 refine hK41 _ _ ?_
 obtain rfl := os hb
 refine Wc.ret ?_
 refine hKR _ _ ?_
 refine ⟨_, res1 Try.results48 (show RV _ _ _ (.tmp _) (.bool true) from rfl), _, rfl, rfl, hC.sel [] (by decide)⟩

set_option maxRecDepth 100000 in
set_option maxHeartbeats 4000000 in
theorem quandle_invertible_ok (n : Nat) {w : World} {O0 : List Nat} (hO : ∀ k ∈ O0, k < w.heap.size) {At_0 : Option Addr} {mt_0 ct_0 : Nat} {t_0 : List (List Int)} (ht_0 : Rep O0 w (.sl (.sl (.int .i64))) [.slice At_0 mt_0 ct_0] t_0) {r : Bool} (hb : F.quandle_invertible n t_0 = some r) :
    Calls Try.prog 49 #[.slice At_0 mt_0 ct_0] w fun e w' => ∃ v, e = .returned v ∧ v = .bool r ∧ Cx (fun _ => False) O0 w w' [] := by
 unfold F.quandle_invertible at hb
 have hC := Cx.start hO
 replace hC := hC.arg rfl ht_0
 clear hO
 obtain ⟨rfl, hlt_0, hct_0⟩ := ht_0.sl_len
 refine calls_of_Wc Try.func49 rfl (by rw [Try.ntmps49]; exact Nat.le_of_ble_eq_true rfl) fun KR hKR => ?_
 refine Wc.seq fun K2 hK2 => ?_
 refine rg ?_
 refine lp (.bool false) (pu_assign rfl) ?_
 refine ln ?_
 refine hK2 _ _ ?_
 refine Wc.seq fun K3 hK3 => ?_
 refine Wc.seq fun K4 hK4 => ?_
 refine rg ?_
 refine lp (.slice At_0 t_0.length ct_0) (pu_move rfl) ?_
 refine lp (.int .i64 (t_0.length : Int)) (pu_len (A := At_0) (n := t_0.length) (m := ct_0) Try.underlying23 rfl) ?_
 refine lp (.int .i64 0) (pu_move rfl) ?_
 refine ln ?_
 refine hK4 _ _ ?_
 obtain ⟨o5, hl0, hb⟩ := bd hb
 refine Wc.cut (fun E wv => ∃ (v8_0 : Int), E 2 = .bool false ∧ I64 v8_0 ∧ Cx (fun _ => False) O0 w wv [] ∧ (some true : Option (Bool)) = some r) (fun K6 hK6 => ?_) ?_
 refine Wc.block ?_
 refine Wc.loop (fun m E wv => ∃ (v8_0 : Int), E 0 = .slice At_0 t_0.length ct_0 ∧ E 2 = .bool false ∧ E 7 = .int .i64 (t_0.length : Int) ∧ E 8 = .int .i64 v8_0 ∧ I64 v8_0 ∧ Cx (fun _ => False) O0 w wv [.ro (.sl (.sl (.int .i64))) [.slice At_0 t_0.length ct_0] t_0] ∧ loopN m (F.quandle_invertible_b0 n t_0) v8_0 = some o5) n ⟨0, rfl, rfl, rfl, rfl, (show I64 0 from by unfold I64; omega), hC.sel [0] (by decide), hl0⟩ ?_
 have hbK0 := hb
 clear hb hC hl0
 rintro m8 E10 w9 ⟨v8_0, e0, e2, e7, e8, hrv8_0, hC, hl0⟩ K7 hK7
 obtain ⟨m8', o11, rfl, hb, hl0⟩ := loopN_some hl0
 unfold F.quandle_invertible_b0 at hb
 refine Wc.seq fun K12 hK12 => ?_
 refine rg ?_
 refine lp (.bool (decide (v8_0 < (t_0.length : Int)))) (pu_lss (k := .i64) (a := v8_0) (b := (t_0.length : Int)) e8 e7) ?_
 refine ln ?_
 refine hK12 _ _ ?_
 refine Wc.seq fun K13 hK13 => ?_
 refine Wc.cond (t := (decide (v8_0 < (t_0.length : Int)))) (rfl) (fun hq14 => ?_) (fun hq14 => ?_)
 replace hb := tt hq14 hb
 refine Wc.skip ?_
 refine hK13 _ _ ?_
 refine Wc.seq fun K15 hK15 => ?_
 refine Wc.block ?_
 refine Wc.seq fun K16 hK16 => ?_
 refine rg ?_
 refine lp (.int .i64 v8_0) (pu_move e8) ?_
 refine lp (.int .i64 v8_0) (pu_assign rfl) ?_
 refine ln ?_
 refine hK16 _ _ ?_
 refine Wc.seq fun K17 hK17 => ?_
 refine rg ?_
 refine lex.op (hC.alloc (cs := (List.replicate 30 false).map Value.bool) Try.zeroValue75 rfl) ?_
 rintro _ w19 ⟨g18, rfl, hC, hF, hG⟩
 clear hF hG
 refine ln ?_
 refine hK17 _ _ ?_
 refine Wc.seq fun K21 hK21 => ?_
 refine rg ?_
 refine lp (.slice At_0 t_0.length ct_0) (pu_move e0) ?_
 refine lp (.int .i64 (t_0.length : Int)) (pu_len (A := At_0) (n := t_0.length) (m := ct_0) Try.underlying23 rfl) ?_
 refine lp (.int .i64 0) (pu_move rfl) ?_
 refine ln ?_
 refine hK21 _ _ ?_
 obtain ⟨o22, hl1, hb⟩ := bd hb
 refine Wc.cut (fun E wv => ∃ (v13_1 : Int) (qf20_1 : List Bool), E 0 = .slice At_0 t_0.length ct_0 ∧ E 2 = .bool false ∧ E 3 = .int .i64 v8_0 ∧ E 4 = .pointer (some ⟨g18, 0, none⟩) ∧ E 7 = .int .i64 (t_0.length : Int) ∧ E 8 = .int .i64 v8_0 ∧ E 9 = .bool (decide (v8_0 < (t_0.length : Int))) ∧ E 12 = .int .i64 (t_0.length : Int) ∧ E 13 = .int .i64 v13_1 ∧ I64 v13_1 ∧ Cx (fun _ => False) O0 w wv [.ro (.sl (.sl (.int .i64))) [.slice At_0 t_0.length ct_0] t_0, .box g18 75 (qf20_1.map Value.bool)] ∧ ((chk (v8_0 + 1)).bind fun z86 => some (.inl z86) : Option ((Int) ⊕ ((Int) ⊕ (Bool)))) = some o11) (fun K23 hK23 => ?_) ?_
 refine Wc.block ?_
 refine Wc.loop (fun m E wv => ∃ (v13_1 : Int) (qf20_1 : List Bool), E 0 = .slice At_0 t_0.length ct_0 ∧ E 2 = .bool false ∧ E 3 = .int .i64 v8_0 ∧ E 4 = .pointer (some ⟨g18, 0, none⟩) ∧ E 7 = .int .i64 (t_0.length : Int) ∧ E 8 = .int .i64 v8_0 ∧ E 9 = .bool (decide (v8_0 < (t_0.length : Int))) ∧ E 12 = .int .i64 (t_0.length : Int) ∧ E 13 = .int .i64 v13_1 ∧ I64 v13_1 ∧ Cx (fun _ => False) O0 w wv [.ro (.sl (.sl (.int .i64))) [.slice At_0 t_0.length ct_0] t_0, .box g18 75 (qf20_1.map Value.bool)] ∧ loopN m (F.quandle_invertible_b1 n t_0 v8_0) (v13_1, qf20_1) = some o22) n ⟨0, (List.replicate 30 false), e0, e2, rfl, rfl, e7, e8, rfl, rfl, rfl, (show I64 0 from by unfold I64; omega), hC.sel [1, 0] (by decide), hl1⟩ ?_
 have hbK1 := hb
 clear hb hC hl1
 rintro m25 E27 w26 ⟨v13_1, qf20_1, e0, e2, e3, e4, e7, e8, e9, e12, e13, hrv13_1, hC, hl1⟩ K24 hK24
 obtain ⟨m25', o28, rfl, hb, hl1⟩ := loopN_some hl1
 unfold F.quandle_invertible_b1 at hb
 refine Wc.seq fun K29 hK29 => ?_
 refine rg ?_
 refine lp (.bool (decide (v13_1 < (t_0.length : Int)))) (pu_lss (k := .i64) (a := v13_1) (b := (t_0.length : Int)) e13 e12) ?_
 refine ln ?_
 refine hK29 _ _ ?_
 refine Wc.seq fun K30 hK30 => ?_
 refine Wc.cond (t := (decide (v13_1 < (t_0.length : Int)))) (rfl) (fun hq31 => ?_) (fun hq31 => ?_)
 replace hb := tt hq31 hb
 refine Wc.skip ?_
 refine hK30 _ _ ?_
 refine Wc.seq fun K32 hK32 => ?_
 refine Wc.block ?_
 refine Wc.seq fun K33 hK33 => ?_
 refine rg ?_
 refine lp (.int .i64 v13_1) (pu_move e13) ?_
 refine lp (.int .i64 v13_1) (pu_assign rfl) ?_
 refine ln ?_
 refine hK33 _ _ ?_
 refine Wc.seq fun K34 hK34 => ?_
 refine Wc.seq fun K35 hK35 => ?_
 refine rg ?_
 refine lp (.slice At_0 t_0.length ct_0) (pu_move e0) ?_
 refine lp (.int .i64 v13_1) (pu_move rfl) ?_
 obtain ⟨x36, h37, hb⟩ := bd hb
 obtain ⟨ad38, cs39, hA, hc40, hr41⟩ := hC.elr (i := 0) rfl (get_some h37).2
 subst hA
 refine lp (.pointer (some (ad38.add (v13_1.toNat * 1)))) (pu_index (a := v13_1) Try.underlying23 Try.sizeOf28 rfl rfl (get_some h37).1) ?_
 have hR := hr41
 obtain ⟨A42, c43, rfl, hl44, hc45, _⟩ := hr41
 replace hC := hC.ro hR
 clear hR
 refine lv (.slice A42 x36.length c43) (ld_one Try.isAgg28 rfl (hc40 0 _ rfl)) ?_
 refine lp (.int .i64 v8_0) (pu_move e3) ?_
 obtain ⟨x47, h48, hb⟩ := bd hb
 obtain ⟨ad49, cs50, hA, hc51, hr52⟩ := hC.elr (i := 0) rfl (get_some h48).2
 subst hA
 refine lp (.pointer (some (ad49.add (v8_0.toNat * 1)))) (pu_index (a := v8_0) Try.underlying28 Try.sizeOf3 rfl rfl (get_some h48).1) ?_
 obtain ⟨rfl, hr52'⟩ := hr52
 refine lv (.int .i64 x47) (ld_one Try.isAgg3 rfl (hc51 0 _ rfl)) ?_
 obtain ⟨u53, h54, hb⟩ := bd hb
 refine lp (.pointer (some ((⟨g18, 0, none⟩ : Addr).add (x47.toNat * 1)))) (pu_ixa (A := ⟨g18, 0, none⟩) (a := x47) (sz := 1) Try.underlying75 Try.sizeOf4 e4 rfl (ixn_some h54)) ?_
 obtain ⟨x55, h56, hb⟩ := bd hb
 refine lv (.bool x55) (ld_bit (k := x47) (hC.bx (i := 2) rfl) Try.isAgg4 rfl (get_some h56).2) ?_
 refine ln ?_
 refine hK35 _ _ ?_
 refine Wc.cond (t := x55) (rfl) (fun hq57 => ?_) (fun hq57 => ?_)
 replace hb := tt hq57 hb
 refine Wc.seq fun K58 hK58 => ?_
 refine rg ?_
 refine lp (.bool false) (pu_assign rfl) ?_
 refine ln ?_
 refine hK58 _ _ ?_
 obtain rfl := os hb
 obtain rfl := (lX hl1).symm
 replace hb := hbK1
 obtain rfl := os hb
 obtain rfl := (lX hl0).symm
 replace hb := hbK0
 obtain rfl := os hb
 refine Wc.ret ?_
 refine hKR _ _ ?_
 refine ⟨_, res1 Try.results49 (show RV _ _ _ (.tmp _) (.bool false) from rfl), _, rfl, rfl, hC.sel [] (by decide)⟩
 replace hb := tf hq57 hb
 refine Wc.skip ?_
 refine hK34 _ _ ?_
 refine Wc.fresh fun E59 hE => ?_
 have e0 := (congrFun hE 0).trans e0
 have e2 := (congrFun hE 2).trans e2
 have e3 := (congrFun hE 3).trans e3
 have e4 := (congrFun hE 4).trans e4
 have e5 : E59 5 = .int .i64 v13_1 := (congrFun hE 5).trans rfl
 have e7 := (congrFun hE 7).trans e7
 have e8 := (congrFun hE 8).trans e8
 have e9 := (congrFun hE 9).trans e9
 have e12 := (congrFun hE 12).trans e12
 have e13 := (congrFun hE 13).trans e13
 have e14 : E59 14 = .bool (decide (v13_1 < (t_0.length : Int))) := (congrFun hE 14).trans rfl
 have e24 : E59 24 = .bool x55 := (congrFun hE 24).trans rfl
 clear hE
 refine rg ?_
 refine lp (.slice (some ad38) t_0.length ct_0) (pu_move e0) ?_
 refine lp (.int .i64 v13_1) (pu_move e5) ?_
 obtain ⟨x60, h61, hb⟩ := bd hb
 obtain ⟨ad62, cs63, hA, hc64, hr65⟩ := hC.elr (i := 1) rfl (get_some h61).2
 obtain rfl := Option.some.inj hA
 refine lp (.pointer (some (ad38.add (v13_1.toNat * 1)))) (pu_index (a := v13_1) Try.underlying23 Try.sizeOf28 rfl rfl (get_some h61).1) ?_
 have hR := hr65
 obtain ⟨A66, c67, rfl, hl68, hc69, _⟩ := hr65
 replace hC := hC.ro hR
 clear hR
 refine lv (.slice A66 x60.length c67) (ld_one Try.isAgg28 rfl (hc64 0 _ rfl)) ?_
 refine lp (.int .i64 v8_0) (pu_move e3) ?_
 obtain ⟨x71, h72, hb⟩ := bd hb
 obtain ⟨ad73, cs74, hA, hc75, hr76⟩ := hC.elr (i := 0) rfl (get_some h72).2
 subst hA
 refine lp (.pointer (some (ad73.add (v8_0.toNat * 1)))) (pu_index (a := v8_0) Try.underlying28 Try.sizeOf3 rfl rfl (get_some h72).1) ?_
 obtain ⟨rfl, hr76'⟩ := hr76
 refine lv (.int .i64 x71) (ld_one Try.isAgg3 rfl (hc75 0 _ rfl)) ?_
 obtain ⟨u77, h78, hb⟩ := bd hb
 refine lp (.pointer (some ((⟨g18, 0, none⟩ : Addr).add (x71.toNat * 1)))) (pu_ixa (A := ⟨g18, 0, none⟩) (a := x71) (sz := 1) Try.underlying75 Try.sizeOf4 e4 rfl (ixn_some h78)) ?_
 obtain ⟨x79, h80, hb⟩ := bd hb
 refine lex.sk (hC.setbit (i := 3) (k := x71) (b := true) rfl Try.sizeOf4 rfl rfl (get_some h80).2) ?_
 rintro w81 ⟨hC, hF⟩
 clear hF
 refine ln ?_
 refine hK32 _ _ ?_
 refine rg ?_
 obtain ⟨z82, h83, hb⟩ := bd hb
 refine lp (.int .i64 z82) (pu_addc (a := v13_1) (b := 1) e13 rfl h83) ?_
 refine lp (.int .i64 z82) (pu_move rfl) ?_
 refine ln ?_
 obtain rfl := os hb
 exact hK24 m25' _ _ (Nat.lt_succ_self _) ⟨z82, (qf20_1.set x71.toNat true), e0, e2, e3, e4, e7, e8, e9, e12, rfl, (chk_rng h83), hC.sel [2, 3] (by decide), lN hl1⟩
 replace hb := tf hq31 hb
 refine Wc.exit rfl ?_
 obtain rfl := os hb
 obtain rfl := (lX hl1).symm
 exact hK23 _ _ ⟨v13_1, qf20_1, e0, e2, e3, e4, e7, e8, e9, e12, e13, hrv13_1, hC.sel [0, 1] (by decide), hbK1⟩
 clear hb hC hl1
 rintro E85 w84 ⟨v13_1, qf20_1, e0, e2, e3, e4, e7, e8, e9, e12, e13, hrv13_1, hC, hb⟩
 refine hK15 _ _ ?_
 refine rg ?_
 obtain ⟨z86, h87, hb⟩ := bd hb
 refine lp (.int .i64 z86) (pu_addc (a := v8_0) (b := 1) e8 rfl h87) ?_
 refine lp (.int .i64 z86) (pu_move rfl) ?_
 refine ln ?_
 obtain rfl := os hb
 exact hK7 m8' _ _ (Nat.lt_succ_self _) ⟨z86, e0, e2, e7, rfl, (chk_rng h87), hC.sel [0] (by decide), lN hl0⟩
 replace hb := tf hq14 hb
 refine Wc.exit rfl ?_
 obtain rfl := os hb
 obtain rfl := (lX hl0).symm
 exact hK6 _ _ ⟨v8_0, e2, hrv8_0, hC.sel [] (by decide), hbK0⟩
 clear hb hC hl0
 rintro E89 w88 ⟨v8_0, e2, hrv8_0, hC, hb⟩
 refine hK3 _ _ ?_
 refine Wc.seq fun K90 hK90 => ?_
 refine rg ?_
 refine lp (.bool true) (pu_assign rfl) ?_
 refine ln ?_
 refine hK90 _ _ ?_
 obtain rfl := os hb
 refine Wc.ret ?_
 refine hKR _ _ ?_
 refine ⟨_, res1 Try.results49 (show RV _ _ _ (.tmp _) (.bool true) from rfl), _, rfl, rfl, hC.sel [] (by decide)⟩

set_option maxRecDepth 100000 in
set_option maxHeartbeats 4000000 in
theorem quandle_distributive_ok (n : Nat) {w : World} {O0 : List Nat} (hO : ∀ k ∈ O0, k < w.heap.size) {At_0 : Option Addr} {mt_0 ct_0 : Nat} {t_0 : List (List Int)} (ht_0 : Rep O0 w (.sl (.sl (.int .i64))) [.slice At_0 mt_0 ct_0] t_0) {r : Bool} (hb : F.quandle_distributive n t_0 = some r) :
    Calls Try.prog 50 #[.slice At_0 mt_0 ct_0] w fun e w' => ∃ v, e = .returned v ∧ v = .bool r ∧ Cx (fun _ => False) O0 w w' [] := by
 unfold F.quandle_distributive at hb
 have hC := Cx.start hO
 replace hC := hC.arg rfl ht_0
 clear hO
 obtain ⟨rfl, hlt_0, hct_0⟩ := ht_0.sl_len
 refine calls_of_Wc Try.func50 rfl (by rw [Try.ntmps50]; exact Nat.le_of_ble_eq_true rfl) fun KR hKR => ?_
 refine Wc.seq fun K2 hK2 => ?_
 refine rg ?_
 refine lp (.bool false) (pu_assign rfl) ?_
 refine ln ?_
 refine hK2 _ _ ?_
 refine Wc.seq fun K3 hK3 => ?_
 refine Wc.seq fun K4 hK4 => ?_
 refine rg ?_
 refine lp (.slice At_0 t_0.length ct_0) (pu_move rfl) ?_
 refine lp (.int .i64 (t_0.length : Int)) (pu_len (A := At_0) (n := t_0.length) (m := ct_0) Try.underlying23 rfl) ?_
 refine lp (.int .i64 0) (pu_move rfl) ?_
 refine ln ?_
 refine hK4 _ _ ?_
 obtain ⟨o5, hl0, hb⟩ := bd hb
 refine Wc.cut (fun E wv => ∃ (v8_0 : Int), E 2 = .bool false ∧ I64 v8_0 ∧ Cx (fun _ => False) O0 w wv [] ∧ (some true : Option (Bool)) = some r) (fun K6 hK6 => ?_) ?_
 refine Wc.block ?_
 refine Wc.loop (fun m E wv => ∃ (v8_0 : Int), E 0 = .slice At_0 t_0.length ct_0 ∧ E 2 = .bool false ∧ E 7 = .int .i64 (t_0.length : Int) ∧ E 8 = .int .i64 v8_0 ∧ I64 v8_0 ∧ Cx (fun _ => False) O0 w wv [.ro (.sl (.sl (.int .i64))) [.slice At_0 t_0.length ct_0] t_0] ∧ loopN m (F.quandle_distributive_b0 n t_0) v8_0 = some o5) n ⟨0, rfl, rfl, rfl, rfl, (show I64 0 from by unfold I64; omega), hC.sel [0] (by decide), hl0⟩ ?_
 have hbK0 := hb
 clear hb hC hl0
 rintro m8 E10 w9 ⟨v8_0, e0, e2, e7, e8, hrv8_0, hC, hl0⟩ K7 hK7
 obtain ⟨m8', o11, rfl, hb, hl0⟩ := loopN_some hl0
 unfold F.quandle_distributive_b0 at hb
 refine Wc.seq fun K12 hK12 => ?_
 refine rg ?_
 refine lp (.bool (decide (v8_0 < (t_0.length : Int)))) (pu_lss (k := .i64) (a := v8_0) (b := (t_0.length : Int)) e8 e7) ?_
 refine ln ?_
 refine hK12 _ _ ?_
 refine Wc.seq fun K13 hK13 => ?_
 refine Wc.cond (t := (decide (v8_0 < (t_0.length : Int)))) (rfl) (fun hq14 => ?_) (fun hq14 => ?_)
 replace hb := tt hq14 hb
 refine Wc.skip ?_
 refine hK13 _ _ ?_
 refine Wc.seq fun K15 hK15 => ?_
 refine Wc.block ?_
 refine Wc.seq fun K16 hK16 => ?_
 refine rg ?_
 refine lp (.int .i64 v8_0) (pu_move e8) ?_
 refine lp (.int .i64 v8_0) (pu_assign rfl) ?_
 refine ln ?_
 refine hK16 _ _ ?_
 refine Wc.seq fun K17 hK17 => ?_
 refine rg ?_
 refine lp (.slice At_0 t_0.length ct_0) (pu_move e0) ?_
 refine lp (.int .i64 (t_0.length : Int)) (pu_len (A := At_0) (n := t_0.length) (m := ct_0) Try.underlying23 rfl) ?_
 refine lp (.int .i64 0) (pu_move rfl) ?_
 refine ln ?_
 refine hK17 _ _ ?_
 obtain ⟨o18, hl1, hb⟩ := bd hb
 refine Wc.cut (fun E wv => ∃ (v13_1 : Int), E 0 = .slice At_0 t_0.length ct_0 ∧ E 2 = .bool false ∧ E 3 = .int .i64 v8_0 ∧ E 7 = .int .i64 (t_0.length : Int) ∧ E 8 = .int .i64 v8_0 ∧ E 9 = .bool (decide (v8_0 < (t_0.length : Int))) ∧ E 12 = .int .i64 (t_0.length : Int) ∧ E 13 = .int .i64 v13_1 ∧ I64 v13_1 ∧ Cx (fun _ => False) O0 w wv [.ro (.sl (.sl (.int .i64))) [.slice At_0 t_0.length ct_0] t_0] ∧ ((chk (v8_0 + 1)).bind fun z151 => some (.inl z151) : Option ((Int) ⊕ ((Int) ⊕ (Bool)))) = some o11) (fun K19 hK19 => ?_) ?_
 refine Wc.block ?_
 refine Wc.loop (fun m E wv => ∃ (v13_1 : Int), E 0 = .slice At_0 t_0.length ct_0 ∧ E 2 = .bool false ∧ E 3 = .int .i64 v8_0 ∧ E 7 = .int .i64 (t_0.length : Int) ∧ E 8 = .int .i64 v8_0 ∧ E 9 = .bool (decide (v8_0 < (t_0.length : Int))) ∧ E 12 = .int .i64 (t_0.length : Int) ∧ E 13 = .int .i64 v13_1 ∧ I64 v13_1 ∧ Cx (fun _ => False) O0 w wv [.ro (.sl (.sl (.int .i64))) [.slice At_0 t_0.length ct_0] t_0] ∧ loopN m (F.quandle_distributive_b1 n t_0 v8_0) v13_1 = some o18) n ⟨0, e0, e2, rfl, e7, e8, rfl, rfl, rfl, (show I64 0 from by unfold I64; omega), hC.sel [0] (by decide), hl1⟩ ?_
 have hbK1 := hb
 clear hb hC hl1
 rintro m21 E23 w22 ⟨v13_1, e0, e2, e3, e7, e8, e9, e12, e13, hrv13_1, hC, hl1⟩ K20 hK20
 obtain ⟨m21', o24, rfl, hb, hl1⟩ := loopN_some hl1
 unfold F.quandle_distributive_b1 at hb
 refine Wc.seq fun K25 hK25 => ?_
 refine rg ?_
 refine lp (.bool (decide (v13_1 < (t_0.length : Int)))) (pu_lss (k := .i64) (a := v13_1) (b := (t_0.length : Int)) e13 e12) ?_
 refine ln ?_
 refine hK25 _ _ ?_
 refine Wc.seq fun K26 hK26 => ?_
 refine Wc.cond (t := (decide (v13_1 < (t_0.length : Int)))) (rfl) (fun hq27 => ?_) (fun hq27 => ?_)
 replace hb := tt hq27 hb
 refine Wc.skip ?_
 refine hK26 _ _ ?_
 refine Wc.seq fun K28 hK28 => ?_
 refine Wc.block ?_
 refine Wc.seq fun K29 hK29 => ?_
 refine rg ?_
 refine lp (.int .i64 v13_1) (pu_move e13) ?_
 refine lp (.int .i64 v13_1) (pu_assign rfl) ?_
 refine ln ?_
 refine hK29 _ _ ?_
 refine Wc.seq fun K30 hK30 => ?_
 refine rg ?_
 refine lp (.slice At_0 t_0.length ct_0) (pu_move e0) ?_
 refine lp (.int .i64 (t_0.length : Int)) (pu_len (A := At_0) (n := t_0.length) (m := ct_0) Try.underlying23 rfl) ?_
 refine lp (.int .i64 0) (pu_move rfl) ?_
 refine ln ?_
 refine hK30 _ _ ?_
 obtain ⟨o31, hl2, hb⟩ := bd hb
 refine Wc.cut (fun E wv => ∃ (v18_2 : Int), E 0 = .slice At_0 t_0.length ct_0 ∧ E 2 = .bool false ∧ E 3 = .int .i64 v8_0 ∧ E 4 = .int .i64 v13_1 ∧ E 7 = .int .i64 (t_0.length : Int) ∧ E 8 = .int .i64 v8_0 ∧ E 9 = .bool (decide (v8_0 < (t_0.length : Int))) ∧ E 12 = .int .i64 (t_0.length : Int) ∧ E 13 = .int .i64 v13_1 ∧ E 14 = .bool (decide (v13_1 < (t_0.length : Int))) ∧ E 17 = .int .i64 (t_0.length : Int) ∧ E 18 = .int .i64 v18_2 ∧ I64 v18_2 ∧ Cx (fun _ => False) O0 w wv [.ro (.sl (.sl (.int .i64))) [.slice At_0 t_0.length ct_0] t_0] ∧ ((chk (v13_1 + 1)).bind fun z147 => some (.inl z147) : Option ((Int) ⊕ ((Int) ⊕ (Bool)))) = some o24) (fun K32 hK32 => ?_) ?_
 refine Wc.block ?_
 refine Wc.loop (fun m E wv => ∃ (v18_2 : Int), E 0 = .slice At_0 t_0.length ct_0 ∧ E 2 = .bool false ∧ E 3 = .int .i64 v8_0 ∧ E 4 = .int .i64 v13_1 ∧ E 7 = .int .i64 (t_0.length : Int) ∧ E 8 = .int .i64 v8_0 ∧ E 9 = .bool (decide (v8_0 < (t_0.length : Int))) ∧ E 12 = .int .i64 (t_0.length : Int) ∧ E 13 = .int .i64 v13_1 ∧ E 14 = .bool (decide (v13_1 < (t_0.length : Int))) ∧ E 17 = .int .i64 (t_0.length : Int) ∧ E 18 = .int .i64 v18_2 ∧ I64 v18_2 ∧ Cx (fun _ => False) O0 w wv [.ro (.sl (.sl (.int .i64))) [.slice At_0 t_0.length ct_0] t_0] ∧ loopN m (F.quandle_distributive_b2 n t_0 v8_0 v13_1) v18_2 = some o31) n ⟨0, e0, e2, e3, rfl, e7, e8, e9, e12, e13, rfl, rfl, rfl, (show I64 0 from by unfold I64; omega), hC.sel [0] (by decide), hl2⟩ ?_
 have hbK2 := hb
 clear hb hC hl2
 rintro m34 E36 w35 ⟨v18_2, e0, e2, e3, e4, e7, e8, e9, e12, e13, e14, e17, e18, hrv18_2, hC, hl2⟩ K33 hK33
 obtain ⟨m34', o37, rfl, hb, hl2⟩ := loopN_some hl2
 unfold F.quandle_distributive_b2 at hb
 refine Wc.seq fun K38 hK38 => ?_
 refine rg ?_
 refine lp (.bool (decide (v18_2 < (t_0.length : Int)))) (pu_lss (k := .i64) (a := v18_2) (b := (t_0.length : Int)) e18 e17) ?_
 refine ln ?_
 refine hK38 _ _ ?_
 refine Wc.seq fun K39 hK39 => ?_
 refine Wc.cond (t := (decide (v18_2 < (t_0.length : Int)))) (rfl) (fun hq40 => ?_) (fun hq40 => ?_)
 replace hb := tt hq40 hb
 refine Wc.skip ?_
 refine hK39 _ _ ?_
 refine Wc.seq fun K41 hK41 => ?_
 refine Wc.block ?_
 refine Wc.seq fun K42 hK42 => ?_
 refine rg ?_
 refine lp (.int .i64 v18_2) (pu_move e18) ?_
 refine lp (.int .i64 v18_2) (pu_assign rfl) ?_
 refine ln ?_
 refine hK42 _ _ ?_
 refine Wc.seq fun K43 hK43 => ?_
 refine Wc.regionMix [] (frm [] ([] : List Fact) ([] : List Fact)) (fun _ => rfl) mixed (by decide +kernel) (by decide +kernel) fun w45 hw44 => ?_
 replace hC := hC.step (Fr.of_drew hw44)
 have hM := Fr.refl (fun k => k ∈ blocks ([] : List Fact)) w45
 clear hw44
 have hS := hC
 refine mp (.slice At_0 t_0.length ct_0) (pu_move e0) ?_
 refine mp (.slice At_0 t_0.length ct_0) (pu_move e0) ?_
 refine mp (.int .i64 v8_0) (pu_move e3) ?_
 obtain ⟨x46, h47, hb⟩ := bd hb
 obtain ⟨ad48, cs49, hA, ho52, hc50, hr51⟩ := hS.elr2 (i := 0) rfl (get_some h47).2 []
 subst hA
 refine mp (.pointer (some (ad48.add (v8_0.toNat * 1)))) (pu_index (a := v8_0) Try.underlying23 Try.sizeOf28 rfl rfl (get_some h47).1) ?_
 have hR := hr51
 obtain ⟨A53, c54, rfl, hl55, hc56, _⟩ := hr51
 replace hS := hS.ro hR
 replace hC := hC.ro hR
 clear hR
 refine mixE.load hM (v := .slice A53 x46.length c54) (fun _ hF => ld_one Try.isAgg28 rfl (hF.cell (hc50 0 _ rfl) (off1 ho52))) ?_
 refine mp (.int .i64 v13_1) (pu_move e4) ?_
 obtain ⟨x58, h59, hb⟩ := bd hb
 obtain ⟨ad60, cs61, hA, ho64, hc62, hr63⟩ := hS.elr2 (i := 0) rfl (get_some h59).2 []
 subst hA
 refine mp (.pointer (some (ad60.add (v13_1.toNat * 1)))) (pu_index (a := v13_1) Try.underlying28 Try.sizeOf3 rfl rfl (get_some h59).1) ?_
 obtain ⟨rfl, hr63'⟩ := hr63
 refine mixE.load hM (v := .int .i64 x58) (fun _ hF => ld_one Try.isAgg3 rfl (hF.cell (hc62 0 _ rfl) (off1 ho64))) ?_
 obtain ⟨x65, h66, hb⟩ := bd hb
 obtain ⟨ad67, cs68, hA, ho71, hc69, hr70⟩ := hS.elr2 (i := 1) rfl (get_some h66).2 []
 obtain rfl := Option.some.inj hA
 refine mp (.pointer (some (ad48.add (x58.toNat * 1)))) (pu_index (a := x58) Try.underlying23 Try.sizeOf28 rfl rfl (get_some h66).1) ?_
 have hR := hr70
 obtain ⟨A72, c73, rfl, hl74, hc75, _⟩ := hr70
 replace hS := hS.ro hR
 replace hC := hC.ro hR
 clear hR
 refine mixE.load hM (v := .slice A72 x65.length c73) (fun _ hF => ld_one Try.isAgg28 rfl (hF.cell (hc69 0 _ rfl) (off1 ho71))) ?_
 refine mp (.int .i64 v18_2) (pu_move rfl) ?_
 obtain ⟨x77, h78, hb⟩ := bd hb
 obtain ⟨ad79, cs80, hA, ho83, hc81, hr82⟩ := hS.elr2 (i := 0) rfl (get_some h78).2 []
 subst hA
 refine mp (.pointer (some (ad79.add (v18_2.toNat * 1)))) (pu_index (a := v18_2) Try.underlying28 Try.sizeOf3 rfl rfl (get_some h78).1) ?_
 obtain ⟨rfl, hr82'⟩ := hr82
 refine mixE.load hM (v := .int .i64 x77) (fun _ hF => ld_one Try.isAgg3 rfl (hF.cell (hc81 0 _ rfl) (off1 ho83))) ?_
 refine mp (.slice (some ad48) t_0.length ct_0) (pu_move e0) ?_
 refine mp (.slice (some ad48) t_0.length ct_0) (pu_move e0) ?_
 refine mp (.int .i64 v8_0) (pu_move e3) ?_
 obtain ⟨x84, h85, hb⟩ := bd hb
 obtain ⟨ad86, cs87, hA, ho90, hc88, hr89⟩ := hS.elr2 (i := 2) rfl (get_some h85).2 []
 obtain rfl := Option.some.inj hA
 refine mp (.pointer (some (ad48.add (v8_0.toNat * 1)))) (pu_index (a := v8_0) Try.underlying23 Try.sizeOf28 rfl rfl (get_some h85).1) ?_
 have hR := hr89
 obtain ⟨A91, c92, rfl, hl93, hc94, _⟩ := hr89
 replace hS := hS.ro hR
 replace hC := hC.ro hR
 clear hR
 refine mixE.load hM (v := .slice A91 x84.length c92) (fun _ hF => ld_one Try.isAgg28 rfl (hF.cell (hc88 0 _ rfl) (off1 ho90))) ?_
 refine mp (.int .i64 v18_2) (pu_move rfl) ?_
 obtain ⟨x96, h97, hb⟩ := bd hb
 obtain ⟨ad98, cs99, hA, ho102, hc100, hr101⟩ := hS.elr2 (i := 0) rfl (get_some h97).2 []
 subst hA
 refine mp (.pointer (some (ad98.add (v18_2.toNat * 1)))) (pu_index (a := v18_2) Try.underlying28 Try.sizeOf3 rfl rfl (get_some h97).1) ?_
 obtain ⟨rfl, hr101'⟩ := hr101
 refine mixE.load hM (v := .int .i64 x96) (fun _ hF => ld_one Try.isAgg3 rfl (hF.cell (hc100 0 _ rfl) (off1 ho102))) ?_
 obtain ⟨x103, h104, hb⟩ := bd hb
 obtain ⟨ad105, cs106, hA, ho109, hc107, hr108⟩ := hS.elr2 (i := 3) rfl (get_some h104).2 []
 obtain rfl := Option.some.inj hA
 refine mp (.pointer (some (ad48.add (x96.toNat * 1)))) (pu_index (a := x96) Try.underlying23 Try.sizeOf28 rfl rfl (get_some h104).1) ?_
 have hR := hr108
 obtain ⟨A110, c111, rfl, hl112, hc113, _⟩ := hr108
 replace hS := hS.ro hR
 replace hC := hC.ro hR
 clear hR
 refine mixE.load hM (v := .slice A110 x103.length c111) (fun _ hF => ld_one Try.isAgg28 rfl (hF.cell (hc107 0 _ rfl) (off1 ho109))) ?_
 refine mp (.slice (some ad48) t_0.length ct_0) (pu_move e0) ?_
 refine mp (.int .i64 v13_1) (pu_move e4) ?_
 obtain ⟨x115, h116, hb⟩ := bd hb
 obtain ⟨ad117, cs118, hA, ho121, hc119, hr120⟩ := hS.elr2 (i := 4) rfl (get_some h116).2 []
 obtain rfl := Option.some.inj hA
 refine mp (.pointer (some (ad48.add (v13_1.toNat * 1)))) (pu_index (a := v13_1) Try.underlying23 Try.sizeOf28 rfl rfl (get_some h116).1) ?_
 have hR := hr120
 obtain ⟨A122, c123, rfl, hl124, hc125, _⟩ := hr120
 replace hS := hS.ro hR
 replace hC := hC.ro hR
 clear hR
 refine mixE.load hM (v := .slice A122 x115.length c123) (fun _ hF => ld_one Try.isAgg28 rfl (hF.cell (hc119 0 _ rfl) (off1 ho121))) ?_
 refine mp (.int .i64 v18_2) (pu_move rfl) ?_
 obtain ⟨x127, h128, hb⟩ := bd hb
 obtain ⟨ad129, cs130, hA, ho133, hc131, hr132⟩ := hS.elr2 (i := 0) rfl (get_some h128).2 []
 subst hA
 refine mp (.pointer (some (ad129.add (v18_2.toNat * 1)))) (pu_index (a := v18_2) Try.underlying28 Try.sizeOf3 rfl rfl (get_some h128).1) ?_
 obtain ⟨rfl, hr132'⟩ := hr132
 refine mixE.load hM (v := .int .i64 x127) (fun _ hF => ld_one Try.isAgg3 rfl (hF.cell (hc131 0 _ rfl) (off1 ho133))) ?_
 obtain ⟨x134, h135, hb⟩ := bd hb
 obtain ⟨ad136, cs137, hA, ho140, hc138, hr139⟩ := hS.elr2 (i := 1) rfl (get_some h135).2 []
 subst hA
 refine mp (.pointer (some (ad136.add (x127.toNat * 1)))) (pu_index (a := x127) Try.underlying28 Try.sizeOf3 rfl rfl (get_some h135).1) ?_
 obtain ⟨rfl, hr139'⟩ := hr139
 refine mixE.load hM (v := .int .i64 x134) (fun _ hF => ld_one Try.isAgg3 rfl (hF.cell (hc138 0 _ rfl) (off1 ho140))) ?_
 refine mp (.bool (!(decide (x77 = x134)))) (pu_neq (k := .i64) (a := x77) (b := x134) rfl rfl) ?_
 refine mixE.nil ?_
 clear hS hM
 refine hK43 _ _ ?_
 refine Wc.cond (t := (!(decide (x77 = x134)))) (rfl) (fun hq141 => ?_) (fun hq141 => ?_)
 replace hb := tt hq141 hb
 refine Wc.seq fun K142 hK142 => ?_
 refine rg ?_
 refine lp (.bool false) (pu_assign rfl) ?_
 refine ln ?_
 refine hK142 _ _ ?_
 obtain rfl := os hb
 obtain rfl := (lX hl2).symm
 replace hb := hbK2
 obtain rfl := os hb
 obtain rfl := (lX hl1).symm
 replace hb := hbK1
 obtain rfl := os hb
 obtain rfl := (lX hl0).symm
 replace hb := hbK0
 obtain rfl := os hb
 refine Wc.ret ?_
 refine hKR _ _ ?_
 refine ⟨_, res1 Try.results50 (show RV _ _ _ (.tmp _) (.bool false) from rfl), _, rfl, rfl, hC.sel [] (by decide)⟩
 replace hb := tf hq141 hb
 refine Wc.skip ?_
 refine hK41 _ _ ?_
 refine rg ?_
 obtain ⟨z143, h144, hb⟩ := bd hb
 refine lp (.int .i64 z143) (pu_addc (a := v18_2) (b := 1) e18 rfl h144) ?_
 refine lp (.int .i64 z143) (pu_move rfl) ?_
 refine ln ?_
 obtain rfl := os hb
 exact hK33 m34' _ _ (Nat.lt_succ_self _) ⟨z143, e0, e2, e3, e4, e7, e8, e9, e12, e13, e14, e17, rfl, (chk_rng h144), hC.sel [5] (by decide), lN hl2⟩
 replace hb := tf hq40 hb
 refine Wc.exit rfl ?_
 obtain rfl := os hb
 obtain rfl := (lX hl2).symm
 exact hK32 _ _ ⟨v18_2, e0, e2, e3, e4, e7, e8, e9, e12, e13, e14, e17, e18, hrv18_2, hC.sel [0] (by decide), hbK2⟩
 clear hb hC hl2
 rintro E146 w145 ⟨v18_2, e0, e2, e3, e4, e7, e8, e9, e12, e13, e14, e17, e18, hrv18_2, hC, hb⟩
 refine hK28 _ _ ?_
 refine rg ?_
 obtain ⟨z147, h148, hb⟩ := bd hb
 refine lp (.int .i64 z147) (pu_addc (a := v13_1) (b := 1) e13 rfl h148) ?_
 refine lp (.int .i64 z147) (pu_move rfl) ?_
 refine ln ?_
 obtain rfl := os hb
 exact hK20 m21' _ _ (Nat.lt_succ_self _) ⟨z147, e0, e2, e3, e7, e8, e9, e12, rfl, (chk_rng h148), hC.sel [0] (by decide), lN hl1⟩
 replace hb := tf hq27 hb
 refine Wc.exit rfl ?_
 obtain rfl := os hb
 obtain rfl := (lX hl1).symm
 exact hK19 _ _ ⟨v13_1, e0, e2, e3, e7, e8, e9, e12, e13, hrv13_1, hC.sel [0] (by decide), hbK1⟩
 clear hb hC hl1
 rintro E150 w149 ⟨v13_1, e0, e2, e3, e7, e8, e9, e12, e13, hrv13_1, hC, hb⟩
 refine hK15 _ _ ?_
 refine rg ?_
 obtain ⟨z151, h152, hb⟩ := bd hb
 refine lp (.int .i64 z151) (pu_addc (a := v8_0) (b := 1) e8 rfl h152) ?_
 refine lp (.int .i64 z151) (pu_move rfl) ?_
 refine ln ?_
 obtain rfl := os hb
 exact hK7 m8' _ _ (Nat.lt_succ_self _) ⟨z151, e0, e2, e7, rfl, (chk_rng h152), hC.sel [0] (by decide), lN hl0⟩
 replace hb := tf hq14 hb
 refine Wc.exit rfl ?_
 obtain rfl := os hb
 obtain rfl := (lX hl0).symm
 exact hK6 _ _ ⟨v8_0, e2, hrv8_0, hC.sel [] (by decide), hbK0⟩
 clear hb hC hl0
 rintro E154 w153 ⟨v8_0, e2, hrv8_0, hC, hb⟩
 refine hK3 _ _ ?_
 refine Wc.seq fun K155 hK155 => ?_
 refine rg ?_
 refine lp (.bool true) (pu_assign rfl) ?_
 refine ln ?_
 refine hK155 _ _ ?_
 obtain rfl := os hb
 refine Wc.ret ?_
 refine hKR _ _ ?_
 refine ⟨_, res1 Try.results50 (show RV _ _ _ (.tmp _) (.bool true) from rfl), _, rfl, rfl, hC.sel [] (by decide)⟩

set_option maxRecDepth 100000 in
set_option maxHeartbeats 4000000 in
theorem quandle_Valid_ok (n : Nat) {w : World} {O0 : List Nat} (hO : ∀ k ∈ O0, k < w.heap.size) {Aq_0 : Option Addr} {mq_0 cq_0 : Nat} {q_0 : List (List Int)} (hq_0 : Rep O0 w (.sl (.sl (.int .i64))) [.slice Aq_0 mq_0 cq_0] q_0) {r : Bool} (hb : F.quandle_Valid n q_0 = some r) :
    Calls Try.prog 36 #[.agg #[.slice Aq_0 mq_0 cq_0]] w fun e w' => ∃ v, e = .returned v ∧ v = .bool r ∧ Cx (fun _ => False) O0 w w' [] := by
 unfold F.quandle_Valid at hb
 have hC := Cx.start hO
 replace hC := hC.arg rfl hq_0
 clear hO
 obtain ⟨rfl, hlq_0, hcq_0⟩ := hq_0.sl_len
 refine calls_of_Wc Try.func36 rfl (by rw [Try.ntmps36]; exact Nat.le_of_ble_eq_true rfl) fun KR hKR => ?_
 refine Wc.seq fun K2 hK2 => ?_
 refine rg ?_
 refine lex.op (hC.box (cs := [.slice Aq_0 q_0.length cq_0]) rfl rfl) ?_
 rintro _ w4 ⟨g3, rfl, hC, hF, hG⟩
 clear hG
 refine lp (.bool false) (pu_assign rfl) ?_
 refine ln ?_
 refine hK2 _ _ ?_
 refine Wc.seq fun K6 hK6 => ?_
 refine rg ?_
 refine lp (.pointer (some ((⟨g3, 0, none⟩ : Addr).add 0))) (pu_field (sz := 1) Try.underlying58 rfl Try.sizeOf23 (by decide) rfl rfl) ?_
 refine lv (.slice Aq_0 q_0.length cq_0) (ld_fld (hC.bx (i := 0) rfl) Try.isAgg23 rfl rfl) ?_
 refine lp (.int .i64 (q_0.length : Int)) (pu_len (A := Aq_0) (n := q_0.length) (m := cq_0) Try.underlying23 rfl) ?_
 refine lp (.int .i64 (q_0.length : Int)) (pu_assign rfl) ?_
 refine ln ?_
 refine hK6 _ _ ?_
 refine Wc.seq fun K7 hK7 => ?_
 refine Wc.seq fun K8 hK8 => ?_
 refine rg ?_
 refine lp (.int .i64 (q_0.length : Int)) (pu_move rfl) ?_
 refine lp (.bool (decide ((q_0.length : Int) < 1))) (pu_lss (k := .i64) (a := (q_0.length : Int)) (b := 1) rfl rfl) ?_
 refine lp (.bool (decide ((q_0.length : Int) < 1))) (pu_move rfl) ?_
 rcases bS (decide ((q_0.length : Int) < 1)) with hq9 | hq9
 replace hb := tt hq9 hb
 refine gs rfl rfl (decide ((q_0.length : Int) < 1)) rfl hq9 ?_
 refine gs rfl rfl (decide ((q_0.length : Int) < 1)) rfl hq9 ?_
 refine lp (.bool true) (pu_pickT (q := (decide ((q_0.length : Int) < 1))) rfl hq9 rfl) ?_
 refine ln ?_
 refine hK8 _ _ ?_
 refine Wc.cond_true (rfl) ?_
 refine Wc.seq fun K10 hK10 => ?_
 refine rg ?_
 refine lp (.bool false) (pu_assign rfl) ?_
 refine ln ?_
 refine hK10 _ _ ?_
 obtain rfl := os hb
 refine Wc.ret ?_
 refine hKR _ _ ?_
 refine ⟨_, res1 Try.results36 (show RV _ _ _ (.tmp _) (.bool false) from rfl), _, rfl, rfl, hC.sel [] (by decide)⟩
 replace hb := tf hq9 hb
 refine gp rfl rfl (decide ((q_0.length : Int) < 1)) rfl hq9 (.int .i64 (q_0.length : Int)) (pu_move rfl) ?_
 refine gp rfl rfl (decide ((q_0.length : Int) < 1)) rfl hq9 (.bool (decide (30 < (q_0.length : Int)))) (pu_gtr (k := .i64) (a := (q_0.length : Int)) (b := 30) rfl rfl) ?_
 refine lp (.bool (decide (30 < (q_0.length : Int)))) (pu_pickF (q := (decide ((q_0.length : Int) < 1))) rfl hq9 rfl) ?_
 refine ln ?_
 refine hK8 _ _ ?_
 refine Wc.cond (t := (decide (30 < (q_0.length : Int)))) (rfl) (fun hq11 => ?_) (fun hq11 => ?_)
 replace hb := tt hq11 hb
 refine Wc.seq fun K12 hK12 => ?_
 refine rg ?_
 refine lp (.bool false) (pu_assign rfl) ?_
 refine ln ?_
 refine hK12 _ _ ?_
 obtain rfl := os hb
 refine Wc.ret ?_
 refine hKR _ _ ?_
 refine ⟨_, res1 Try.results36 (show RV _ _ _ (.tmp _) (.bool false) from rfl), _, rfl, rfl, hC.sel [] (by decide)⟩
 replace hb := tf hq11 hb
 refine Wc.skip ?_
 refine hK7 _ _ ?_
 refine Wc.fresh fun E13 hE => ?_
 have e1 : E13 1 = .pointer (some ⟨g3, 0, none⟩) := (congrFun hE 1).trans rfl
 have e2 : E13 2 = .bool false := (congrFun hE 2).trans rfl
 have e3 : E13 3 = .int .i64 (q_0.length : Int) := (congrFun hE 3).trans rfl
 clear hE
 refine Wc.seq fun K14 hK14 => ?_
 refine Wc.seq fun K15 hK15 => ?_
 refine rg ?_
 refine lp (.pointer (some ((⟨g3, 0, none⟩ : Addr).add 0))) (pu_field (sz := 1) Try.underlying58 rfl Try.sizeOf23 (by decide) rfl e1) ?_
 refine lv (.slice Aq_0 q_0.length cq_0) (ld_fld (hC.bx (i := 0) rfl) Try.isAgg23 rfl rfl) ?_
 refine lp (.int .i64 (q_0.length : Int)) (pu_len (A := Aq_0) (n := q_0.length) (m := cq_0) Try.underlying23 rfl) ?_
 refine lp (.int .i64 0) (pu_move rfl) ?_
 refine ln ?_
 refine hK15 _ _ ?_
 obtain ⟨o16, hl0, hb⟩ := bd hb
 refine Wc.cut (fun E wv => ∃ (v20_0 : Int), E 1 = .pointer (some ⟨g3, 0, none⟩) ∧ E 2 = .bool false ∧ I64 v20_0 ∧ Cx (fun _ => False) O0 w wv [.box g3 58 [.slice Aq_0 q_0.length cq_0], .ro (.sl (.sl (.int .i64))) [.slice Aq_0 q_0.length cq_0] q_0] ∧ ((F.quandle_idempotent n q_0).bind fun y77 => cond y77 ((F.quandle_invertible n q_0).bind fun y81 => cond y81 ((F.quandle_distributive n q_0).bind fun y85 => some y85) (some false)) (some false) : Option (Bool)) = some r) (fun K17 hK17 => ?_) ?_
 refine Wc.block ?_
 refine Wc.loop (fun m E wv => ∃ (v20_0 : Int), E 1 = .pointer (some ⟨g3, 0, none⟩) ∧ E 2 = .bool false ∧ E 3 = .int .i64 (q_0.length : Int) ∧ E 18 = .slice Aq_0 q_0.length cq_0 ∧ E 19 = .int .i64 (q_0.length : Int) ∧ E 20 = .int .i64 v20_0 ∧ I64 v20_0 ∧ Cx (fun _ => False) O0 w wv [.box g3 58 [.slice Aq_0 q_0.length cq_0], .ro (.sl (.sl (.int .i64))) [.slice Aq_0 q_0.length cq_0] q_0] ∧ loopN m (F.quandle_Valid_b0 n q_0) v20_0 = some o16) n ⟨0, e1, e2, e3, rfl, rfl, rfl, (show I64 0 from by unfold I64; omega), hC.sel [0, 1] (by decide), hl0⟩ ?_
 have hbK0 := hb
 clear hb hC hl0
 rintro m19 E21 w20 ⟨v20_0, e1, e2, e3, e18, e19, e20, hrv20_0, hC, hl0⟩ K18 hK18
 obtain ⟨m19', o22, rfl, hb, hl0⟩ := loopN_some hl0
 unfold F.quandle_Valid_b0 at hb
 refine Wc.seq fun K23 hK23 => ?_
 refine rg ?_
 refine lp (.bool (decide (v20_0 < (q_0.length : Int)))) (pu_lss (k := .i64) (a := v20_0) (b := (q_0.length : Int)) e20 e19) ?_
 refine ln ?_
 refine hK23 _ _ ?_
 refine Wc.seq fun K24 hK24 => ?_
 refine Wc.cond (t := (decide (v20_0 < (q_0.length : Int)))) (rfl) (fun hq25 => ?_) (fun hq25 => ?_)
 replace hb := tt hq25 hb
 refine Wc.skip ?_
 refine hK24 _ _ ?_
 refine Wc.seq fun K26 hK26 => ?_
 refine Wc.block ?_
 refine Wc.seq fun K27 hK27 => ?_
 refine rg ?_
 obtain ⟨x28, h29, hb⟩ := bd hb
 obtain ⟨ad30, cs31, hA, hc32, hr33⟩ := hC.elr (i := 1) rfl (get_some h29).2
 subst hA
 refine lp (.pointer (some (ad30.add (v20_0.toNat * 1)))) (pu_index (a := v20_0) Try.underlying23 Try.sizeOf28 e18 e20 (get_some h29).1) ?_
 have hR := hr33
 obtain ⟨A34, c35, rfl, hl36, hc37, _⟩ := hr33
 replace hC := hC.ro hR
 clear hR
 refine lv (.slice A34 x28.length c35) (ld_one Try.isAgg28 rfl (hc32 0 _ rfl)) ?_
 refine lp (.slice A34 x28.length c35) (pu_assign rfl) ?_
 refine ln ?_
 refine hK27 _ _ ?_
 refine Wc.seq fun K39 hK39 => ?_
 refine Wc.seq fun K40 hK40 => ?_
 refine rg ?_
 refine lp (.slice A34 x28.length c35) (pu_move rfl) ?_
 refine lp (.int .i64 (x28.length : Int)) (pu_len (A := A34) (n := x28.length) (m := c35) Try.underlying28 rfl) ?_
 refine lp (.int .i64 (q_0.length : Int)) (pu_move e3) ?_
 refine lp (.bool (!(decide ((x28.length : Int) = (q_0.length : Int))))) (pu_neq (k := .i64) (a := (x28.length : Int)) (b := (q_0.length : Int)) rfl rfl) ?_
 refine ln ?_
 refine hK40 _ _ ?_
 refine Wc.cond (t := (!(decide ((x28.length : Int) = (q_0.length : Int))))) (rfl) (fun hq41 => ?_) (fun hq41 => ?_)
 replace hb := tt hq41 hb
 refine Wc.seq fun K42 hK42 => ?_
 refine rg ?_
 refine lp (.bool false) (pu_assign rfl) ?_
 refine ln ?_
 refine hK42 _ _ ?_
 obtain rfl := os hb
 obtain rfl := (lX hl0).symm
 replace hb := hbK0
 obtain rfl := os hb
 refine Wc.ret ?_
 refine hKR _ _ ?_
 refine ⟨_, res1 Try.results36 (show RV _ _ _ (.tmp _) (.bool false) from rfl), _, rfl, rfl, hC.sel [] (by decide)⟩
 replace hb := tf hq41 hb
 refine Wc.skip ?_
 refine hK39 _ _ ?_
 refine Wc.seq fun K43 hK43 => ?_
 refine rg ?_
 refine lp (.slice A34 x28.length c35) (pu_move rfl) ?_
 refine lp (.int .i64 (x28.length : Int)) (pu_len (A := A34) (n := x28.length) (m := c35) Try.underlying28 rfl) ?_
 refine lp (.int .i64 0) (pu_move rfl) ?_
 refine ln ?_
 refine hK43 _ _ ?_
 refine Wc.fresh fun E44 hE => ?_
 have e1 := (congrFun hE 1).trans e1
 have e2 := (congrFun hE 2).trans e2
 have e3 := (congrFun hE 3).trans e3
 have e5 : E44 5 = .slice A34 x28.length c35 := (congrFun hE 5).trans rfl
 have e18 := (congrFun hE 18).trans e18
 have e19 := (congrFun hE 19).trans e19
 have e20 := (congrFun hE 20).trans e20
 have e21 : E44 21 = .bool (decide (v20_0 < (q_0.length : Int))) := (congrFun hE 21).trans rfl
 have e27 : E44 27 = .bool (!(decide ((x28.length : Int) = (q_0.length : Int)))) := (congrFun hE 27).trans rfl
 have e28 : E44 28 = .slice A34 x28.length c35 := (congrFun hE 28).trans rfl
 have e29 : E44 29 = .int .i64 (x28.length : Int) := (congrFun hE 29).trans rfl
 have e30 : E44 30 = .int .i64 0 := (congrFun hE 30).trans rfl
 clear hE
 obtain ⟨o45, hl1, hb⟩ := bd hb
 refine Wc.cut (fun E wv => ∃ (v30_1 : Int), E 1 = .pointer (some ⟨g3, 0, none⟩) ∧ E 2 = .bool false ∧ E 3 = .int .i64 (q_0.length : Int) ∧ E 5 = .slice A34 x28.length c35 ∧ E 18 = .slice (some ad30) q_0.length cq_0 ∧ E 19 = .int .i64 (q_0.length : Int) ∧ E 20 = .int .i64 v20_0 ∧ E 21 = .bool (decide (v20_0 < (q_0.length : Int))) ∧ E 27 = .bool (!(decide ((x28.length : Int) = (q_0.length : Int)))) ∧ E 28 = .slice A34 x28.length c35 ∧ E 29 = .int .i64 (x28.length : Int) ∧ E 30 = .int .i64 v30_1 ∧ I64 v30_1 ∧ Cx (fun _ => False) O0 w wv [.box g3 58 [.slice (some ad30) q_0.length cq_0], .ro (.sl (.sl (.int .i64))) [.slice (some ad30) q_0.length cq_0] q_0, .ro (.sl (.int .i64)) [.slice A34 x28.length c35] x28] ∧ ((chk (v20_0 + 1)).bind fun z72 => some (.inl z72) : Option ((Int) ⊕ ((Int) ⊕ (Bool)))) = some o22) (fun K46 hK46 => ?_) ?_
 refine Wc.block ?_
 refine Wc.loop (fun m E wv => ∃ (v30_1 : Int), E 1 = .pointer (some ⟨g3, 0, none⟩) ∧ E 2 = .bool false ∧ E 3 = .int .i64 (q_0.length : Int) ∧ E 5 = .slice A34 x28.length c35 ∧ E 18 = .slice (some ad30) q_0.length cq_0 ∧ E 19 = .int .i64 (q_0.length : Int) ∧ E 20 = .int .i64 v20_0 ∧ E 21 = .bool (decide (v20_0 < (q_0.length : Int))) ∧ E 27 = .bool (!(decide ((x28.length : Int) = (q_0.length : Int)))) ∧ E 28 = .slice A34 x28.length c35 ∧ E 29 = .int .i64 (x28.length : Int) ∧ E 30 = .int .i64 v30_1 ∧ I64 v30_1 ∧ Cx (fun _ => False) O0 w wv [.box g3 58 [.slice (some ad30) q_0.length cq_0], .ro (.sl (.sl (.int .i64))) [.slice (some ad30) q_0.length cq_0] q_0, .ro (.sl (.int .i64)) [.slice A34 x28.length c35] x28] ∧ loopN m (F.quandle_Valid_b1 n q_0 x28) v30_1 = some o45) n ⟨0, e1, e2, e3, e5, e18, e19, e20, e21, e27, e28, e29, e30, (show I64 0 from by unfold I64; omega), hC.sel [1, 2, 0] (by decide), hl1⟩ ?_
 have hbK1 := hb
 clear hb hC hl1
 rintro m48 E50 w49 ⟨v30_1, e1, e2, e3, e5, e18, e19, e20, e21, e27, e28, e29, e30, hrv30_1, hC, hl1⟩ K47 hK47
 obtain ⟨m48', o51, rfl, hb, hl1⟩ := loopN_some hl1
 unfold F.quandle_Valid_b1 at hb
 refine Wc.seq fun K52 hK52 => ?_
 refine rg ?_
 refine lp (.bool (decide (v30_1 < (x28.length : Int)))) (pu_lss (k := .i64) (a := v30_1) (b := (x28.length : Int)) e30 e29) ?_
 refine ln ?_
 refine hK52 _ _ ?_
 refine Wc.seq fun K53 hK53 => ?_
 refine Wc.cond (t := (decide (v30_1 < (x28.length : Int)))) (rfl) (fun hq54 => ?_) (fun hq54 => ?_)
 replace hb := tt hq54 hb
 refine Wc.skip ?_
 refine hK53 _ _ ?_
 refine Wc.seq fun K55 hK55 => ?_
 refine Wc.block ?_
 refine Wc.seq fun K56 hK56 => ?_
 refine rg ?_
 obtain ⟨x57, h58, hb⟩ := bd hb
 obtain ⟨ad59, cs60, hA, hc61, hr62⟩ := hC.elr (i := 2) rfl (get_some h58).2
 subst hA
 refine lp (.pointer (some (ad59.add (v30_1.toNat * 1)))) (pu_index (a := v30_1) Try.underlying28 Try.sizeOf3 e28 e30 (get_some h58).1) ?_
 obtain ⟨rfl, hr62'⟩ := hr62
 refine lv (.int .i64 x57) (ld_one Try.isAgg3 rfl (hc61 0 _ rfl)) ?_
 refine lp (.int .i64 x57) (pu_assign rfl) ?_
 refine ln ?_
 refine hK56 _ _ ?_
 refine Wc.seq fun K63 hK63 => ?_
 refine rg ?_
 refine lp (.int .i64 x57) (pu_move rfl) ?_
 refine lp (.bool (decide (x57 < 0))) (pu_lss (k := .i64) (a := x57) (b := 0) rfl rfl) ?_
 refine lp (.bool (decide (x57 < 0))) (pu_move rfl) ?_
 rcases bS (decide (x57 < 0)) with hq64 | hq64
 replace hb := tt hq64 hb
 refine gs rfl rfl (decide (x57 < 0)) rfl hq64 ?_
 refine gs rfl rfl (decide (x57 < 0)) rfl hq64 ?_
 refine gs rfl rfl (decide (x57 < 0)) rfl hq64 ?_
 refine lp (.bool true) (pu_pickT (q := (decide (x57 < 0))) rfl hq64 rfl) ?_
 refine ln ?_
 refine hK63 _ _ ?_
 refine Wc.cond_true (rfl) ?_
 refine Wc.seq fun K65 hK65 => ?_
 refine rg ?_
 refine lp (.bool false) (pu_assign rfl) ?_
 refine ln ?_
 refine hK65 _ _ ?_
 obtain rfl := os hb
 obtain rfl := (lX hl1).symm
 replace hb := hbK1
 obtain rfl := os hb
 obtain rfl := (lX hl0).symm
 replace hb := hbK0
 obtain rfl := os hb
 refine Wc.ret ?_
 refine hKR _ _ ?_
 refine ⟨_, res1 Try.results36 (show RV _ _ _ (.tmp _) (.bool false) from rfl), _, rfl, rfl, hC.sel [] (by decide)⟩
 replace hb := tf hq64 hb
 refine gp rfl rfl (decide (x57 < 0)) rfl hq64 (.int .i64 x57) (pu_move rfl) ?_
 refine gp rfl rfl (decide (x57 < 0)) rfl hq64 (.int .i64 (q_0.length : Int)) (pu_move e3) ?_
 refine gp rfl rfl (decide (x57 < 0)) rfl hq64 (.bool (decide ((q_0.length : Int) ≤ x57))) (pu_geq (k := .i64) (a := x57) (b := (q_0.length : Int)) rfl rfl) ?_
 refine lp (.bool (decide ((q_0.length : Int) ≤ x57))) (pu_pickF (q := (decide (x57 < 0))) rfl hq64 rfl) ?_
 refine ln ?_
 refine hK63 _ _ ?_
 refine Wc.cond (t := (decide ((q_0.length : Int) ≤ x57))) (rfl) (fun hq66 => ?_) (fun hq66 => ?_)
 replace hb := tt hq66 hb
 refine Wc.seq fun K67 hK67 => ?_
 refine rg ?_
 refine lp (.bool false) (pu_assign rfl) ?_
 refine ln ?_
 refine hK67 _ _ ?_
 obtain rfl := os hb
 obtain rfl := (lX hl1).symm
 replace hb := hbK1
 obtain rfl := os hb
 obtain rfl := (lX hl0).symm
 replace hb := hbK0
 obtain rfl := os hb
 refine Wc.ret ?_
 refine hKR _ _ ?_
 refine ⟨_, res1 Try.results36 (show RV _ _ _ (.tmp _) (.bool false) from rfl), _, rfl, rfl, hC.sel [] (by decide)⟩
 replace hb := tf hq66 hb
 refine Wc.skip ?_
 refine hK55 _ _ ?_
 refine rg ?_
 obtain ⟨z68, h69, hb⟩ := bd hb
 refine lp (.int .i64 z68) (pu_addc (a := v30_1) (b := 1) e30 rfl h69) ?_
 refine lp (.int .i64 z68) (pu_move rfl) ?_
 refine ln ?_
 obtain rfl := os hb
 exact hK47 m48' _ _ (Nat.lt_succ_self _) ⟨z68, e1, e2, e3, e5, e18, e19, e20, e21, e27, e28, e29, rfl, (chk_rng h69), hC.sel [0, 1, 2] (by decide), lN hl1⟩
 replace hb := tf hq54 hb
 refine Wc.exit rfl ?_
 obtain rfl := os hb
 obtain rfl := (lX hl1).symm
 exact hK46 _ _ ⟨v30_1, e1, e2, e3, e5, e18, e19, e20, e21, e27, e28, e29, e30, hrv30_1, hC.sel [0, 1, 2] (by decide), hbK1⟩
 clear hb hC hl1
 rintro E71 w70 ⟨v30_1, e1, e2, e3, e5, e18, e19, e20, e21, e27, e28, e29, e30, hrv30_1, hC, hb⟩
 refine hK26 _ _ ?_
 refine rg ?_
 obtain ⟨z72, h73, hb⟩ := bd hb
 refine lp (.int .i64 z72) (pu_addc (a := v20_0) (b := 1) e20 rfl h73) ?_
 refine lp (.int .i64 z72) (pu_move rfl) ?_
 refine ln ?_
 obtain rfl := os hb
 exact hK18 m19' _ _ (Nat.lt_succ_self _) ⟨z72, e1, e2, e3, e18, e19, rfl, (chk_rng h73), hC.sel [0, 1] (by decide), lN hl0⟩
 replace hb := tf hq25 hb
 refine Wc.exit rfl ?_
 obtain rfl := os hb
 obtain rfl := (lX hl0).symm
 exact hK17 _ _ ⟨v20_0, e1, e2, hrv20_0, hC.sel [0, 1] (by decide), hbK0⟩
 clear hb hC hl0
 rintro E75 w74 ⟨v20_0, e1, e2, hrv20_0, hC, hb⟩
 refine hK14 _ _ ?_
 refine Wc.seq fun K76 hK76 => ?_
 refine rg ?_
 refine lp (.pointer (some ((⟨g3, 0, none⟩ : Addr).add 0))) (pu_field (sz := 1) Try.underlying58 rfl Try.sizeOf23 (by decide) rfl e1) ?_
 refine lv (.slice Aq_0 q_0.length cq_0) (ld_fld (hC.bx (i := 0) rfl) Try.isAgg23 rfl rfl) ?_
 obtain ⟨y77, h78, hb⟩ := bd hb
 refine lex.cl (⟨_, _, op_call (vs := [.slice Aq_0 q_0.length cq_0]) Try.call48 rfl rfl rfl, quandle_idempotent_ok n hC.lt (hC.rd (i := 1) rfl) h78⟩) ?_
 rintro _ w79 ⟨rfl, hK⟩
 replace hC := hC.merge hK
 clear hK
 refine lp (.bool y77) (pu_move rfl) ?_
 rcases bS y77 with hq80 | hq80
 replace hb := tt hq80 hb
 refine gp rfl rfl y77 rfl hq80 (.pointer (some ((⟨g3, 0, none⟩ : Addr).add 0))) (pu_field (sz := 1) Try.underlying58 rfl Try.sizeOf23 (by decide) rfl e1) ?_
 refine gv rfl rfl y77 rfl hq80 (.slice Aq_0 q_0.length cq_0) (ld_fld (hC.bx (i := 0) rfl) Try.isAgg23 rfl rfl) ?_
 obtain ⟨y81, h82, hb⟩ := bd hb
 refine lex.gcl (want_t rfl rfl (show _ = Value.bool y77 from rfl) hq80) (⟨_, _, op_call (vs := [.slice Aq_0 q_0.length cq_0]) Try.call49 rfl rfl rfl, quandle_invertible_ok n hC.lt (hC.rd (i := 1) rfl) h82⟩) ?_
 rintro _ w83 ⟨rfl, hK⟩
 replace hC := hC.merge hK
 clear hK
 refine lp (.bool y81) (pu_pickT (q := y77) rfl hq80 rfl) ?_
 refine lp (.bool y81) (pu_move rfl) ?_
 rcases bS y81 with hq84 | hq84
 replace hb := tt hq84 hb
 refine gp rfl rfl y81 rfl hq84 (.pointer (some ((⟨g3, 0, none⟩ : Addr).add 0))) (pu_field (sz := 1) Try.underlying58 rfl Try.sizeOf23 (by decide) rfl e1) ?_
 refine gv rfl rfl y81 rfl hq84 (.slice Aq_0 q_0.length cq_0) (ld_fld (hC.bx (i := 0) rfl) Try.isAgg23 rfl rfl) ?_
 obtain ⟨y85, h86, hb⟩ := bd hb
 refine lex.gcl (want_t rfl rfl (show _ = Value.bool y81 from rfl) hq84) (⟨_, _, op_call (vs := [.slice Aq_0 q_0.length cq_0]) Try.call50 rfl rfl rfl, quandle_distributive_ok n hC.lt (hC.rd (i := 1) rfl) h86⟩) ?_
 rintro _ w87 ⟨rfl, hK⟩
 replace hC := hC.merge hK
 clear hK
 refine lp (.bool y85) (pu_pickT (q := y81) rfl hq84 rfl) ?_
 refine lp (.bool y85) (pu_assign rfl) ?_
 refine ln ?_
 refine hK76 _ _ ?_
 obtain rfl := os hb
 refine Wc.ret ?_
 refine hKR _ _ ?_
 refine ⟨_, res1 Try.results36 (show RV _ _ _ (.tmp _) (.bool y85) from rfl), _, rfl, rfl, hC.sel [] (by decide)⟩
 replace hb := tf hq84 hb
 refine gs rfl rfl y81 rfl hq84 ?_
 refine gs rfl rfl y81 rfl hq84 ?_
 refine gs rfl rfl y81 rfl hq84 ?_
 refine lp (.bool false) (pu_pickF (q := y81) rfl hq84 rfl) ?_
 refine lp (.bool false) (pu_assign rfl) ?_
 refine ln ?_
 refine hK76 _ _ ?_
 obtain rfl := os hb
 refine Wc.ret ?_
 refine hKR _ _ ?_
 refine ⟨_, res1 Try.results36 (show RV _ _ _ (.tmp _) (.bool false) from rfl), _, rfl, rfl, hC.sel [] (by decide)⟩
 replace hb := tf hq80 hb
 refine gs rfl rfl y77 rfl hq80 ?_
 refine gs rfl rfl y77 rfl hq80 ?_
 refine gs rfl rfl y77 rfl hq80 ?_
 refine lp (.bool false) (pu_pickF (q := y77) rfl hq80 rfl) ?_
 refine lp (.bool false) (pu_move rfl) ?_
 refine gs rfl rfl false rfl rfl ?_
 refine gs rfl rfl false rfl rfl ?_
 refine gs rfl rfl false rfl rfl ?_
 refine lp (.bool false) (pu_pickF (q := false) rfl rfl rfl) ?_
 refine lp (.bool false) (pu_assign rfl) ?_
 refine ln ?_
 refine hK76 _ _ ?_
 obtain rfl := os hb
 refine Wc.ret ?_
 refine hKR _ _ ?_
 refine ⟨_, res1 Try.results36 (show RV _ _ _ (.tmp _) (.bool false) from rfl), _, rfl, rfl, hC.sel [] (by decide)⟩
end Go.Proofs.Ytmlkiafidahnbaa
