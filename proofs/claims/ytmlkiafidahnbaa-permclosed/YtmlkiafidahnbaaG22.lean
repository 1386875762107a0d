/- The walks: part 22. -/
import Derived.Test.YtmlkiafidahnbaaS
import Derived.Test.YtmlkiafidahnbaaG0
import Derived.Test.YtmlkiafidahnbaaG1
import Derived.Test.YtmlkiafidahnbaaG2
import Derived.Test.YtmlkiafidahnbaaG20
import Derived.Test.YtmlkiafidahnbaaG21
set_option linter.unusedVariables false
set_option linter.unusedSimpArgs false
namespace Go.Proofs.Ytmlkiafidahnbaa
open Ev
set_option maxRecDepth 100000 in
set_option maxHeartbeats 4000000 in
theorem law30_PermClosed_c1_ok (n : Nat) {w : World} {O0 : List Nat} (hO : ∀ k ∈ O0, k < w.heap.size) {Ax_0 : Option Addr} {mx_0 cx_0 : Nat} {x_0 : List Int} (hx_0 : Rep O0 w (.sl (.int .i64)) [.slice Ax_0 mx_0 cx_0] x_0) {gu_1 : Nat} {Au_1_0 : Option Addr} {mu_1_0 cu_1_0 : Nat} {u_1_0 : List Int} (hu_1_0 : Rep O0 w (.sl (.int .i64)) [.slice Au_1_0 mu_1_0 cu_1_0] u_1_0) (hio : Tk O0 w [.box gu_1 28 [.slice Au_1_0 mu_1_0 cu_1_0]]) {r : Bool} (hb : F.law30_PermClosed_c1 n x_0 u_1_0 = some r) :
    Calls Try.prog 38 #[.slice Ax_0 mx_0 cx_0, .pointer (some ⟨gu_1, 0, none⟩)] w fun e w' => ∃ v, e = .returned v ∧ v = .bool r ∧ Cx (fun k => k ∈ blocks [.box gu_1 28 [.slice Au_1_0 mu_1_0 cu_1_0]]) O0 w w' [.box gu_1 28 [.slice Au_1_0 mu_1_0 cu_1_0]] := by
 unfold F.law30_PermClosed_c1 at hb
 have hC := Cx.startTk hO hio
 have hsub := hio.2.2
 replace hC := hC.argTk (by first | exact hsub | exact fun k hk => hsub k (by simpa [blocks, Fact.blk] using hk)) hx_0
 replace hC := hC.argTk (by first | exact hsub | exact fun k hk => hsub k (by simpa [blocks, Fact.blk] using hk)) hu_1_0
 clear hO
 obtain ⟨rfl, hlx_0, hcx_0⟩ := hx_0.sl_len
 obtain ⟨rfl, hlu_1_0, hcu_1_0⟩ := hu_1_0.sl_len
 clear hio hsub
 obtain ⟨I, hI, hC⟩ : ∃ I : Nat → Prop, I = (fun k => k ∈ blocks [.box gu_1 28 [.slice Au_1_0 u_1_0.length cu_1_0]]) ∧ Cx I O0 w w ([.ro (.sl (.int .i64)) [.slice Au_1_0 u_1_0.length cu_1_0] u_1_0, .ro (.sl (.int .i64)) [.slice Ax_0 x_0.length cx_0] x_0, .box gu_1 28 [.slice Au_1_0 u_1_0.length cu_1_0]]) := ⟨_, rfl, hC⟩
 refine calls_of_Wc Try.func38 rfl (by rw [Try.ntmps38]; exact Nat.le_of_ble_eq_true rfl) fun KR hKR => ?_
 refine Wc.seq fun K4 hK4 => ?_
 refine rg ?_
 refine lp (.bool false) (pu_assign rfl) ?_
 refine ln ?_
 refine hK4 _ _ ?_
 refine Wc.seq fun K5 hK5 => ?_
 refine rg ?_
 refine lp (.slice Ax_0 x_0.length cx_0) (pu_move rfl) ?_
 refine lv (.slice Au_1_0 u_1_0.length cu_1_0) (ld_one Try.isAgg28 rfl ((hC.bx (i := 2) rfl).cell (j := 0) rfl)) ?_
 obtain ⟨y6, h7, hb⟩ := bd hb
 refine lex.cl (⟨_, _, op_call (vs := [.slice Ax_0 x_0.length cx_0, .slice Au_1_0 u_1_0.length cu_1_0]) Try.call21 rfl rfl rfl, slices_Equal_Perm_int_ok n hC.lt (hC.rd (i := 1) rfl) (hC.rd (i := 0) rfl) h7⟩) ?_
 rintro _ w8 ⟨rfl, hK⟩
 replace hC := hC.merge hK
 clear hK
 refine lp (.bool y6) (pu_assign rfl) ?_
 refine ln ?_
 refine hK5 _ _ ?_
 obtain rfl := os hb
 subst hI
 refine Wc.ret ?_
 refine hKR _ _ ?_
 refine ⟨_, res1 Try.results38 (show RV _ _ _ (.tmp _) (.bool y6) from rfl), _, rfl, rfl, hC.sel [2] (by decide)⟩

set_option maxRecDepth 100000 in
set_option maxHeartbeats 4000000 in
theorem slices_IndexFunc_Perm_Perm_law30_PermClosed_c1_ok (n : Nat) {w : World} {O0 : List Nat} (hO : ∀ k ∈ O0, k < w.heap.size) {As_0 : Option Addr} {ms_0 cs_0 : Nat} {s_0 : List (List Int)} (hs_0 : Rep O0 w (.sl (.sl (.int .i64))) [.slice As_0 ms_0 cs_0] s_0) {gf_1_0 : Nat} {Af_1_0_0 : Option Addr} {mf_1_0_0 cf_1_0_0 : Nat} {f_1_0_0 : List Int} (hf_1_0_0 : Rep O0 w (.sl (.int .i64)) [.slice Af_1_0_0 mf_1_0_0 cf_1_0_0] f_1_0_0) (hio : Tk O0 w [.box gf_1_0 28 [.slice Af_1_0_0 mf_1_0_0 cf_1_0_0]]) {r : Int} (hb : F.slices_IndexFunc_Perm_Perm_law30_PermClosed_c1 n s_0 f_1_0_0 = some r) :
    Calls Try.prog 51 #[.slice As_0 ms_0 cs_0, .func (.func 38) #[] #[.pointer (some ⟨gf_1_0, 0, none⟩)]] w fun e w' => ∃ v, e = .returned v ∧ v = .int .i64 r ∧ I64 r ∧ Cx (fun k => k ∈ blocks [.box gf_1_0 28 [.slice Af_1_0_0 mf_1_0_0 cf_1_0_0]]) O0 w w' [.box gf_1_0 28 [.slice Af_1_0_0 mf_1_0_0 cf_1_0_0]] := by
 unfold F.slices_IndexFunc_Perm_Perm_law30_PermClosed_c1 at hb
 have hC := Cx.startTk hO hio
 have hsub := hio.2.2
 replace hC := hC.argTk (by first | exact hsub | exact fun k hk => hsub k (by simpa [blocks, Fact.blk] using hk)) hs_0
 replace hC := hC.argTk (by first | exact hsub | exact fun k hk => hsub k (by simpa [blocks, Fact.blk] using hk)) hf_1_0_0
 clear hO
 obtain ⟨rfl, hls_0, hcs_0⟩ := hs_0.sl_len
 obtain ⟨rfl, hlf_1_0_0, hcf_1_0_0⟩ := hf_1_0_0.sl_len
 clear hio hsub
 obtain ⟨I, hI, hC⟩ : ∃ I : Nat → Prop, I = (fun k => k ∈ blocks [.box gf_1_0 28 [.slice Af_1_0_0 f_1_0_0.length cf_1_0_0]]) ∧ Cx I O0 w w ([.ro (.sl (.int .i64)) [.slice Af_1_0_0 f_1_0_0.length cf_1_0_0] f_1_0_0, .ro (.sl (.sl (.int .i64))) [.slice As_0 s_0.length cs_0] s_0, .box gf_1_0 28 [.slice Af_1_0_0 f_1_0_0.length cf_1_0_0]]) := ⟨_, rfl, hC⟩
 refine calls_of_Wc Try.func51 rfl (by rw [Try.ntmps51]; exact Nat.le_of_ble_eq_true rfl) fun KR hKR => ?_
 refine Wc.seq fun K4 hK4 => ?_
 refine rg ?_
 refine lp (.int .i64 0) (pu_assign rfl) ?_
 refine ln ?_
 refine hK4 _ _ ?_
 refine Wc.seq fun K5 hK5 => ?_
 refine Wc.seq fun K6 hK6 => ?_
 refine rg ?_
 refine lp (.slice As_0 s_0.length cs_0) (pu_move rfl) ?_
 refine lp (.int .i64 (s_0.length : Int)) (pu_len (A := As_0) (n := s_0.length) (m := cs_0) Try.underlying32 rfl) ?_
 refine lp (.int .i64 0) (pu_move rfl) ?_
 refine ln ?_
 refine hK6 _ _ ?_
 obtain ⟨o7, hl0, hb⟩ := bd hb
 refine Wc.cut (fun E wv => ∃ (v8_0 : Int), E 4 = .int .i64 0 ∧ I64 v8_0 ∧ Cx I O0 w wv [.box gf_1_0 28 [.slice Af_1_0_0 f_1_0_0.length cf_1_0_0], .ro (.sl (.int .i64)) [.slice Af_1_0_0 f_1_0_0.length cf_1_0_0] f_1_0_0] ∧ (some (-1) : Option (Int)) = some r) (fun K8 hK8 => ?_) ?_
 refine Wc.block ?_
 refine Wc.loop (fun m E wv => ∃ (v8_0 : Int), E 0 = .slice As_0 s_0.length cs_0 ∧ E 1 = .func (.func 38) #[] #[.pointer (some ⟨gf_1_0, 0, none⟩)] ∧ E 4 = .int .i64 0 ∧ E 7 = .int .i64 (s_0.length : Int) ∧ E 8 = .int .i64 v8_0 ∧ I64 v8_0 ∧ Cx I O0 w wv [.ro (.sl (.sl (.int .i64))) [.slice As_0 s_0.length cs_0] s_0, .box gf_1_0 28 [.slice Af_1_0_0 f_1_0_0.length cf_1_0_0], .ro (.sl (.int .i64)) [.slice Af_1_0_0 f_1_0_0.length cf_1_0_0] f_1_0_0] ∧ loopN m (F.slices_IndexFunc_Perm_Perm_law30_PermClosed_c1_b0 n s_0 f_1_0_0) v8_0 = some o7) n ⟨0, rfl, rfl, rfl, rfl, rfl, (show I64 0 from by unfold I64; omega), hC.sel [1, 2, 0] (by decide), hl0⟩ ?_
 have hbK0 := hb
 clear hb hC hl0
 rintro m10 E12 w11 ⟨v8_0, e0, e1, e4, e7, e8, hrv8_0, hC, hl0⟩ K9 hK9
 obtain ⟨m10', o13, rfl, hb, hl0⟩ := loopN_some hl0
 unfold F.slices_IndexFunc_Perm_Perm_law30_PermClosed_c1_b0 at hb
 refine Wc.seq fun K14 hK14 => ?_
 refine rg ?_
 refine lp (.bool (decide (v8_0 < (s_0.length : Int)))) (pu_lss (k := .i64) (a := v8_0) (b := (s_0.length : Int)) e8 e7) ?_
 refine ln ?_
 refine hK14 _ _ ?_
 refine Wc.seq fun K15 hK15 => ?_
 refine Wc.cond (t := (decide (v8_0 < (s_0.length : Int)))) (rfl) (fun hq16 => ?_) (fun hq16 => ?_)
 replace hb := tt hq16 hb
 refine Wc.skip ?_
 refine hK15 _ _ ?_
 refine Wc.seq fun K17 hK17 => ?_
 refine Wc.block ?_
 refine Wc.seq fun K18 hK18 => ?_
 refine rg ?_
 refine lp (.int .i64 v8_0) (pu_move e8) ?_
 refine lp (.int .i64 v8_0) (pu_assign rfl) ?_
 refine ln ?_
 refine hK18 _ _ ?_
 refine Wc.seq fun K19 hK19 => ?_
 refine rg ?_
 refine lp (.func (.func 38) #[] #[.pointer (some ⟨gf_1_0, 0, none⟩)]) (pu_move e1) ?_
 refine lp (.slice As_0 s_0.length cs_0) (pu_move e0) ?_
 refine lp (.int .i64 v8_0) (pu_move rfl) ?_
 obtain ⟨x20, h21, hb⟩ := bd hb
 obtain ⟨ad22, cs23, hA, hc24, hr25⟩ := hC.elr (i := 0) rfl (get_some h21).2
 subst hA
 refine lp (.pointer (some (ad22.add (v8_0.toNat * 1)))) (pu_index (a := v8_0) Try.underlying32 Try.sizeOf29 rfl rfl (get_some h21).1) ?_
 have hR := hr25
 obtain ⟨A26, c27, rfl, hl28, hc29, _⟩ := hr25
 replace hC := hC.ro hR
 clear hR
 refine lv (.slice A26 x20.length c27) (ld_one Try.isAgg29 rfl (hc24 0 _ rfl)) ?_
 replace hC : Cx I O0 w w11 ([.box gf_1_0 28 [.slice Af_1_0_0 f_1_0_0.length cf_1_0_0]] ++ [.ro (.sl (.int .i64)) [.slice A26 x20.length c27] x20, .ro (.sl (.sl (.int .i64))) [.slice (some ad22) s_0.length cs_0] s_0, .ro (.sl (.int .i64)) [.slice Af_1_0_0 f_1_0_0.length cf_1_0_0] f_1_0_0]) := hC.sel [2, 0, 1, 3] (by decide)
 obtain ⟨y31, h32, hb⟩ := bd hb
 refine lex.cl (⟨_, _, op_callv (vs := [.slice A26 x20.length c27, .pointer (some ⟨gf_1_0, 0, none⟩)]) (ca := #[.pointer (some ⟨gf_1_0, 0, none⟩)]) Try.call38 rfl rfl rfl, law30_PermClosed_c1_ok n hC.lt (hC.rd (i := 1) rfl) (hC.rd (i := 3) rfl) hC.give h32⟩) ?_
 rintro _ w33 ⟨rfl, hK⟩
 replace hC := hC.back hK
 clear hK
 refine ln ?_
 refine hK19 _ _ ?_
 refine Wc.cond (t := y31) (rfl) (fun hq34 => ?_) (fun hq34 => ?_)
 replace hb := tt hq34 hb
 refine Wc.seq fun K35 hK35 => ?_
 refine rg ?_
 refine lp (.int .i64 v8_0) (pu_move rfl) ?_
 refine lp (.int .i64 v8_0) (pu_assign rfl) ?_
 refine ln ?_
 refine hK35 _ _ ?_
 obtain rfl := os hb
 obtain rfl := (lX hl0).symm
 replace hb := hbK0
 obtain rfl := os hb
 subst hI
 refine Wc.ret ?_
 refine hKR _ _ ?_
 refine ⟨_, res1 Try.results51 (show RV _ _ _ (.tmp _) (.int .i64 v8_0) from rfl), _, rfl, rfl, hrv8_0, hC.sel [0] (by decide)⟩
 replace hb := tf hq34 hb
 refine Wc.skip ?_
 refine hK17 _ _ ?_
 refine rg ?_
 obtain ⟨z36, h37, hb⟩ := bd hb
 refine lp (.int .i64 z36) (pu_addc (a := v8_0) (b := 1) e8 rfl h37) ?_
 refine lp (.int .i64 z36) (pu_move rfl) ?_
 refine ln ?_
 obtain rfl := os hb
 exact hK9 m10' _ _ (Nat.lt_succ_self _) ⟨z36, e0, e1, e4, e7, rfl, (chk_rng h37), hC.sel [2, 0, 3] (by decide), lN hl0⟩
 replace hb := tf hq16 hb
 refine Wc.exit rfl ?_
 obtain rfl := os hb
 obtain rfl := (lX hl0).symm
 exact hK8 _ _ ⟨v8_0, e4, hrv8_0, hC.sel [1, 2] (by decide), hbK0⟩
 clear hb hC hl0
 rintro E39 w38 ⟨v8_0, e4, hrv8_0, hC, hb⟩
 refine hK5 _ _ ?_
 refine Wc.seq fun K40 hK40 => ?_
 refine rg ?_
 refine lp (.int .i64 (-1)) (pu_assign rfl) ?_
 refine ln ?_
 refine hK40 _ _ ?_
 obtain rfl := os hb
 subst hI
 refine Wc.ret ?_
 refine hKR _ _ ?_
 refine ⟨_, res1 Try.results51 (show RV _ _ _ (.tmp _) (.int .i64 (-1)) from rfl), _, rfl, rfl, (show I64 (-1) from by unfold I64; omega), hC.sel [0] (by decide)⟩

set_option maxRecDepth 100000 in
set_option maxHeartbeats 4000000 in
theorem slices_ContainsFunc_Perm_Perm_law30_PermClosed_c1_ok (n : Nat) {w : World} {O0 : List Nat} (hO : ∀ k ∈ O0, k < w.heap.size) {As_0 : Option Addr} {ms_0 cs_0 : Nat} {s_0 : List (List Int)} (hs_0 : Rep O0 w (.sl (.sl (.int .i64))) [.slice As_0 ms_0 cs_0] s_0) {gf_1_0 : Nat} {Af_1_0_0 : Option Addr} {mf_1_0_0 cf_1_0_0 : Nat} {f_1_0_0 : List Int} (hf_1_0_0 : Rep O0 w (.sl (.int .i64)) [.slice Af_1_0_0 mf_1_0_0 cf_1_0_0] f_1_0_0) (hio : Tk O0 w [.box gf_1_0 28 [.slice Af_1_0_0 mf_1_0_0 cf_1_0_0]]) {r : Bool} (hb : F.slices_ContainsFunc_Perm_Perm_law30_PermClosed_c1 n s_0 f_1_0_0 = some r) :
    Calls Try.prog 37 #[.slice As_0 ms_0 cs_0, .func (.func 38) #[] #[.pointer (some ⟨gf_1_0, 0, none⟩)]] w fun e w' => ∃ v, e = .returned v ∧ v = .bool r ∧ Cx (fun k => k ∈ blocks [.box gf_1_0 28 [.slice Af_1_0_0 mf_1_0_0 cf_1_0_0]]) O0 w w' [.box gf_1_0 28 [.slice Af_1_0_0 mf_1_0_0 cf_1_0_0]] := by
 unfold F.slices_ContainsFunc_Perm_Perm_law30_PermClosed_c1 at hb
 have hC := Cx.startTk hO hio
 have hsub := hio.2.2
 replace hC := hC.argTk (by first | exact hsub | exact fun k hk => hsub k (by simpa [blocks, Fact.blk] using hk)) hs_0
 replace hC := hC.argTk (by first | exact hsub | exact fun k hk => hsub k (by simpa [blocks, Fact.blk] using hk)) hf_1_0_0
 clear hO
 obtain ⟨rfl, hls_0, hcs_0⟩ := hs_0.sl_len
 obtain ⟨rfl, hlf_1_0_0, hcf_1_0_0⟩ := hf_1_0_0.sl_len
 clear hio hsub
 obtain ⟨I, hI, hC⟩ : ∃ I : Nat → Prop, I = (fun k => k ∈ blocks [.box gf_1_0 28 [.slice Af_1_0_0 f_1_0_0.length cf_1_0_0]]) ∧ Cx I O0 w w ([.ro (.sl (.int .i64)) [.slice Af_1_0_0 f_1_0_0.length cf_1_0_0] f_1_0_0, .ro (.sl (.sl (.int .i64))) [.slice As_0 s_0.length cs_0] s_0, .box gf_1_0 28 [.slice Af_1_0_0 f_1_0_0.length cf_1_0_0]]) := ⟨_, rfl, hC⟩
 refine calls_of_Wc Try.func37 rfl (by rw [Try.ntmps37]; exact Nat.le_of_ble_eq_true rfl) fun KR hKR => ?_
 refine Wc.seq fun K4 hK4 => ?_
 refine rg ?_
 refine lp (.bool false) (pu_assign rfl) ?_
 refine ln ?_
 refine hK4 _ _ ?_
 refine Wc.seq fun K5 hK5 => ?_
 refine rg ?_
 refine lp (.slice As_0 s_0.length cs_0) (pu_move rfl) ?_
 refine lp (.func (.func 38) #[] #[.pointer (some ⟨gf_1_0, 0, none⟩)]) (pu_move rfl) ?_
 replace hC : Cx I O0 w w ([.box gf_1_0 28 [.slice Af_1_0_0 f_1_0_0.length cf_1_0_0]] ++ [.ro (.sl (.int .i64)) [.slice Af_1_0_0 f_1_0_0.length cf_1_0_0] f_1_0_0, .ro (.sl (.sl (.int .i64))) [.slice As_0 s_0.length cs_0] s_0]) := hC.sel [2, 0, 1] (by decide)
 obtain ⟨y6, h7, hb⟩ := bd hb
 refine lex.cl (⟨_, _, op_call (vs := [.slice As_0 s_0.length cs_0, .func (.func 38) #[] #[.pointer (some ⟨gf_1_0, 0, none⟩)]]) Try.call51 rfl rfl rfl, slices_IndexFunc_Perm_Perm_law30_PermClosed_c1_ok n hC.lt (hC.rd (i := 2) rfl) (hC.rd (i := 1) rfl) hC.give h7⟩) ?_
 rintro _ w9 ⟨rfl, hr8, hK⟩
 replace hC := hC.back hK
 clear hK
 refine lp (.bool (decide (0 ≤ y6))) (pu_geq (k := .i64) (a := y6) (b := 0) rfl rfl) ?_
 refine lp (.bool (decide (0 ≤ y6))) (pu_assign rfl) ?_
 refine ln ?_
 refine hK5 _ _ ?_
 obtain rfl := os hb
 subst hI
 refine Wc.ret ?_
 refine hKR _ _ ?_
 refine ⟨_, res1 Try.results37 (show RV _ _ _ (.tmp _) (.bool (decide (0 ≤ y6))) from rfl), _, rfl, rfl, hC.sel [0] (by decide)⟩

set_option maxRecDepth 100000 in
set_option maxHeartbeats 4000000 in
theorem law30_PermClosed_ok (n : Nat) {w : World} {O0 : List Nat} (hO : ∀ k ∈ O0, k < w.heap.size) {Ap_0 : Option Addr} {mp_0 cp_0 : Nat} {p_0 : List Int} (hp_0 : Rep O0 w (.sl (.int .i64)) [.slice Ap_0 mp_0 cp_0] p_0) {r : Bool} (hb : F.law30_PermClosed n p_0 = some r) :
    Calls Try.prog 9 #[.slice Ap_0 mp_0 cp_0] w fun e w' => ∃ v, e = .returned v ∧ v = .bool r ∧ Cx (fun _ => False) O0 w w' [] := by
 unfold F.law30_PermClosed at hb
 have hC := Cx.start hO
 replace hC := hC.arg rfl hp_0
 clear hO
 obtain ⟨rfl, hlp_0, hcp_0⟩ := hp_0.sl_len
 refine calls_of_Wc Try.func9 rfl (by rw [Try.ntmps9]; exact Nat.le_of_ble_eq_true rfl) fun KR hKR => ?_
 refine Wc.seq fun K2 hK2 => ?_
 refine rg ?_
 refine lex.op (hC.box (cs := [.slice Ap_0 p_0.length cp_0]) rfl rfl) ?_
 rintro _ w4 ⟨g3, rfl, hC, hF, hG⟩
 clear hG
 refine lp (.bool false) (pu_assign rfl) ?_
 refine ln ?_
 refine hK2 _ _ ?_
 refine Wc.seq fun K6 hK6 => ?_
 refine Wc.seq fun K7 hK7 => ?_
 refine rg ?_
 obtain ⟨y8, h9, hb⟩ := bd hb
 refine lex.cl (⟨_, _, op_call (vs := []) Try.call10 rfl rfl rfl, law30_awake_ok n hC.lt  h9⟩) ?_
 rintro _ w10 ⟨rfl, hK⟩
 replace hC := hC.merge hK
 clear hK
 refine lp (.bool (!y8)) (pu_not (q := y8) rfl) ?_
 refine lp (.bool (!y8)) (pu_move rfl) ?_
 rcases bS (!y8) with hq11 | hq11
 replace hb := tt hq11 hb
 refine gs rfl rfl (!y8) rfl hq11 ?_
 refine gs rfl rfl (!y8) rfl hq11 ?_
 refine gs rfl rfl (!y8) rfl hq11 ?_
 refine lp (.bool true) (pu_pickT (q := (!y8)) rfl hq11 rfl) ?_
 refine lp (.bool true) (pu_move rfl) ?_
 refine gs rfl rfl true rfl rfl ?_
 refine gs rfl rfl true rfl rfl ?_
 refine gs rfl rfl true rfl rfl ?_
 refine lp (.bool true) (pu_pickT (q := true) rfl rfl rfl) ?_
 refine lp (.bool true) (pu_move rfl) ?_
 refine gs rfl rfl true rfl rfl ?_
 refine gs rfl rfl true rfl rfl ?_
 refine gs rfl rfl true rfl rfl ?_
 refine lp (.bool true) (pu_pickT (q := true) rfl rfl rfl) ?_
 refine ln ?_
 refine hK7 _ _ ?_
 refine Wc.fresh fun E12 hE => ?_
 have e1 : E12 1 = .pointer (some ⟨g3, 0, none⟩) := (congrFun hE 1).trans rfl
 have e2 : E12 2 = .bool false := (congrFun hE 2).trans rfl
 have e23 : E12 23 = .bool true := (congrFun hE 23).trans rfl
 clear hE
 refine Wc.cond_true (e23) ?_
 refine Wc.seq fun K13 hK13 => ?_
 refine rg ?_
 obtain ⟨y14, h15, hb⟩ := bd hb
 refine lex.cl (⟨_, _, op_call (vs := []) Try.call10 rfl rfl rfl, law30_awake_ok n hC.lt  h15⟩) ?_
 rintro _ w16 ⟨rfl, hK⟩
 replace hC := hC.merge hK
 clear hK
 refine lp (.bool y14) (pu_assign rfl) ?_
 refine ln ?_
 refine hK13 _ _ ?_
 obtain rfl := os hb
 refine Wc.ret ?_
 refine hKR _ _ ?_
 refine ⟨_, res1 Try.results9 (show RV _ _ _ (.tmp _) (.bool y14) from rfl), _, rfl, rfl, hC.sel [] (by decide)⟩
 replace hb := tf hq11 hb
 refine gv rfl rfl (!y8) rfl hq11 (.slice Ap_0 p_0.length cp_0) (ld_one Try.isAgg28 rfl ((hC.bx (i := 0) rfl).cell (j := 0) rfl)) ?_
 refine gp rfl rfl (!y8) rfl hq11 (.int .i64 (p_0.length : Int)) (pu_len (A := Ap_0) (n := p_0.length) (m := cp_0) Try.underlying28 rfl) ?_
 refine gp rfl rfl (!y8) rfl hq11 (.bool (decide ((p_0.length : Int) < 1))) (pu_lss (k := .i64) (a := (p_0.length : Int)) (b := 1) rfl rfl) ?_
 refine lp (.bool (decide ((p_0.length : Int) < 1))) (pu_pickF (q := (!y8)) rfl hq11 rfl) ?_
 refine lp (.bool (decide ((p_0.length : Int) < 1))) (pu_move rfl) ?_
 rcases bS (decide ((p_0.length : Int) < 1)) with hq17 | hq17
 replace hb := tt hq17 hb
 refine gs rfl rfl (decide ((p_0.length : Int) < 1)) rfl hq17 ?_
 refine gs rfl rfl (decide ((p_0.length : Int) < 1)) rfl hq17 ?_
 refine gs rfl rfl (decide ((p_0.length : Int) < 1)) rfl hq17 ?_
 refine lp (.bool true) (pu_pickT (q := (decide ((p_0.length : Int) < 1))) rfl hq17 rfl) ?_
 refine lp (.bool true) (pu_move rfl) ?_
 refine gs rfl rfl true rfl rfl ?_
 refine gs rfl rfl true rfl rfl ?_
 refine gs rfl rfl true rfl rfl ?_
 refine lp (.bool true) (pu_pickT (q := true) rfl rfl rfl) ?_
 refine ln ?_
 refine hK7 _ _ ?_
 refine Wc.fresh fun E18 hE => ?_
 have e1 : E18 1 = .pointer (some ⟨g3, 0, none⟩) := (congrFun hE 1).trans rfl
 have e2 : E18 2 = .bool false := (congrFun hE 2).trans rfl
 have e23 : E18 23 = .bool true := (congrFun hE 23).trans rfl
 clear hE
 refine Wc.cond_true (e23) ?_
 refine Wc.seq fun K19 hK19 => ?_
 refine rg ?_
 obtain ⟨y20, h21, hb⟩ := bd hb
 refine lex.cl (⟨_, _, op_call (vs := []) Try.call10 rfl rfl rfl, law30_awake_ok n hC.lt  h21⟩) ?_
 rintro _ w22 ⟨rfl, hK⟩
 replace hC := hC.merge hK
 clear hK
 refine lp (.bool y20) (pu_assign rfl) ?_
 refine ln ?_
 refine hK19 _ _ ?_
 obtain rfl := os hb
 refine Wc.ret ?_
 refine hKR _ _ ?_
 refine ⟨_, res1 Try.results9 (show RV _ _ _ (.tmp _) (.bool y20) from rfl), _, rfl, rfl, hC.sel [] (by decide)⟩
 replace hb := tf hq17 hb
 refine gv rfl rfl (decide ((p_0.length : Int) < 1)) rfl hq17 (.slice Ap_0 p_0.length cp_0) (ld_one Try.isAgg28 rfl ((hC.bx (i := 0) rfl).cell (j := 0) rfl)) ?_
 refine gp rfl rfl (decide ((p_0.length : Int) < 1)) rfl hq17 (.int .i64 (p_0.length : Int)) (pu_len (A := Ap_0) (n := p_0.length) (m := cp_0) Try.underlying28 rfl) ?_
 refine gp rfl rfl (decide ((p_0.length : Int) < 1)) rfl hq17 (.bool (decide (5 < (p_0.length : Int)))) (pu_gtr (k := .i64) (a := (p_0.length : Int)) (b := 5) rfl rfl) ?_
 refine lp (.bool (decide (5 < (p_0.length : Int)))) (pu_pickF (q := (decide ((p_0.length : Int) < 1))) rfl hq17 rfl) ?_
 refine lp (.bool (decide (5 < (p_0.length : Int)))) (pu_move rfl) ?_
 rcases bS (decide (5 < (p_0.length : Int))) with hq23 | hq23
 replace hb := tt hq23 hb
 refine gs rfl rfl (decide (5 < (p_0.length : Int))) rfl hq23 ?_
 refine gs rfl rfl (decide (5 < (p_0.length : Int))) rfl hq23 ?_
 refine gs rfl rfl (decide (5 < (p_0.length : Int))) rfl hq23 ?_
 refine lp (.bool true) (pu_pickT (q := (decide (5 < (p_0.length : Int)))) rfl hq23 rfl) ?_
 refine ln ?_
 refine hK7 _ _ ?_
 refine Wc.fresh fun E24 hE => ?_
 have e1 : E24 1 = .pointer (some ⟨g3, 0, none⟩) := (congrFun hE 1).trans rfl
 have e2 : E24 2 = .bool false := (congrFun hE 2).trans rfl
 have e23 : E24 23 = .bool true := (congrFun hE 23).trans rfl
 clear hE
 refine Wc.cond_true (e23) ?_
 refine Wc.seq fun K25 hK25 => ?_
 refine rg ?_
 obtain ⟨y26, h27, hb⟩ := bd hb
 refine lex.cl (⟨_, _, op_call (vs := []) Try.call10 rfl rfl rfl, law30_awake_ok n hC.lt  h27⟩) ?_
 rintro _ w28 ⟨rfl, hK⟩
 replace hC := hC.merge hK
 clear hK
 refine lp (.bool y26) (pu_assign rfl) ?_
 refine ln ?_
 refine hK25 _ _ ?_
 obtain rfl := os hb
 refine Wc.ret ?_
 refine hKR _ _ ?_
 refine ⟨_, res1 Try.results9 (show RV _ _ _ (.tmp _) (.bool y26) from rfl), _, rfl, rfl, hC.sel [] (by decide)⟩
 replace hb := tf hq23 hb
 refine gv rfl rfl (decide (5 < (p_0.length : Int))) rfl hq23 (.slice Ap_0 p_0.length cp_0) (ld_one Try.isAgg28 rfl ((hC.bx (i := 0) rfl).cell (j := 0) rfl)) ?_
 obtain ⟨y29, h30, hb⟩ := bd hb
 refine lex.gcl (want_t rfl rfl (show _ = Value.bool (decide (5 < (p_0.length : Int))) from rfl) hq23) (⟨_, _, op_call (vs := [.slice Ap_0 p_0.length cp_0]) Try.call19 rfl rfl rfl, perm_Valid_ok n hC.lt (hC.rd (i := 1) rfl) h30⟩) ?_
 rintro _ w31 ⟨rfl, hK⟩
 replace hC := hC.merge hK
 clear hK
 refine gp rfl rfl (decide (5 < (p_0.length : Int))) rfl hq23 (.bool (!y29)) (pu_not (q := y29) rfl) ?_
 refine lp (.bool (!y29)) (pu_pickF (q := (decide (5 < (p_0.length : Int)))) rfl hq23 rfl) ?_
 refine ln ?_
 refine hK7 _ _ ?_
 refine Wc.fresh fun E32 hE => ?_
 have e1 : E32 1 = .pointer (some ⟨g3, 0, none⟩) := (congrFun hE 1).trans rfl
 have e2 : E32 2 = .bool false := (congrFun hE 2).trans rfl
 have e23 : E32 23 = .bool (!y29) := (congrFun hE 23).trans rfl
 clear hE
 refine Wc.cond (t := (!y29)) (e23) (fun hq33 => ?_) (fun hq33 => ?_)
 replace hb := tt hq33 hb
 refine Wc.seq fun K34 hK34 => ?_
 refine rg ?_
 obtain ⟨y35, h36, hb⟩ := bd hb
 refine lex.cl (⟨_, _, op_call (vs := []) Try.call10 rfl rfl rfl, law30_awake_ok n hC.lt  h36⟩) ?_
 rintro _ w37 ⟨rfl, hK⟩
 replace hC := hC.merge hK
 clear hK
 refine lp (.bool y35) (pu_assign rfl) ?_
 refine ln ?_
 refine hK34 _ _ ?_
 obtain rfl := os hb
 refine Wc.ret ?_
 refine hKR _ _ ?_
 refine ⟨_, res1 Try.results9 (show RV _ _ _ (.tmp _) (.bool y35) from rfl), _, rfl, rfl, hC.sel [] (by decide)⟩
 replace hb := tf hq33 hb
 refine Wc.skip ?_
 refine hK6 _ _ ?_
 refine Wc.seq fun K38 hK38 => ?_
 refine Wc.regionMix [] (frm [] ([] : List Fact) ([] : List Fact)) (fun _ => rfl) mixed (by decide +kernel) (by decide +kernel) fun w40 hw39 => ?_
 replace hC := hC.step (Fr.of_drew hw39)
 have hM := Fr.refl (fun k => k ∈ blocks ([] : List Fact)) w40
 clear hw39
 have hS := hC
 refine mixE.load hM (v := .slice Ap_0 p_0.length cp_0) (fun _ hF => ld_one Try.isAgg28 e1 ((hS.bx2 (i := 0) rfl [] (by decide) hF).cell (j := 0) rfl)) ?_
 refine mp (.int .i64 (p_0.length : Int)) (pu_len (A := Ap_0) (n := p_0.length) (m := cp_0) Try.underlying28 rfl) ?_
 refine mixE.load hM (v := .slice Ap_0 p_0.length cp_0) (fun _ hF => ld_one Try.isAgg28 e1 ((hS.bx2 (i := 0) rfl [] (by decide) hF).cell (j := 0) rfl)) ?_
 obtain ⟨y41, h42, hb⟩ := bd hb
 refine mixE.cl hM (⟨_, _, op_call (vs := [.slice Ap_0 p_0.length cp_0]) Try.call25 rfl rfl rfl, perm_Type_ok n hC.lt (hC.rd (i := 1) rfl) h42⟩) ?_
 rintro _ w47 ⟨A43, m44, c45, rfl, hK⟩
 have hBf46 := Beside.cl (i := 0) hM hK rfl
 replace hM := hM.none hK.fr
 refine ⟨hM, ?_⟩
 replace hC := hC.merge hK
 clear hK
 obtain ⟨rfl, hl48, hc49⟩ := (hC.ow (i := 0) rfl).sl_len
 replace hC := hC.freeze (i := 0) rfl (hC.own_new (i := 0) rfl)
 obtain ⟨y50, h51, hb⟩ := bd hb
 refine mixE.cl hM (⟨_, _, op_call (vs := [.int .i64 (p_0.length : Int), .slice A43 y41.length c45]) Try.call14 rfl rfl rfl, perm_Class_ok n hC.lt (I64.len hlp_0 hcp_0) (hC.rd (i := 0) rfl) h51⟩) ?_
 rintro _ w57 ⟨A52, m53, c54, rfl, hr56, hK⟩
 have hBf55 := Beside.cl (i := 0) hM hK rfl
 replace hM := hM.none hK.fr
 refine ⟨hM, ?_⟩
 replace hC := hC.merge hK
 clear hK
 obtain ⟨rfl, hl58, hc59⟩ := (hC.ow (i := 0) rfl).sl_len
 refine mp (.tuple #[.slice A52 y50.1.length c54, .int .i64 y50.2]) (pu_move rfl) ?_
 refine mp (.slice A52 y50.1.length c54) (pu_extract rfl rfl) ?_
 refine mp (.int .i64 y50.2) (pu_extract rfl rfl) ?_
 refine mp (.slice A52 y50.1.length c54) (pu_assign rfl) ?_
 refine mp (.int .i64 y50.2) (pu_assign rfl) ?_
 refine mixE.nil ?_
 clear hS hM
 refine hK38 _ _ ?_
 refine Wc.fresh fun E60 hE => ?_
 have e1 := (congrFun hE 1).trans e1
 have e2 := (congrFun hE 2).trans e2
 have e3 : E60 3 = .slice A52 y50.1.length c54 := (congrFun hE 3).trans rfl
 have e4 : E60 4 = .int .i64 y50.2 := (congrFun hE 4).trans rfl
 clear hE
 refine Wc.seq fun K61 hK61 => ?_
 refine Wc.seqJ (fun E wv => ∃ (v44_0 : Bool), E 1 = .pointer (some ⟨g3, 0, none⟩) ∧ E 2 = .bool false ∧ E 3 = .slice A52 y50.1.length c54 ∧ E 4 = .int .i64 y50.2 ∧ E 44 = .bool v44_0 ∧ Cx (fun _ => False) O0 w wv [.box g3 28 [.slice Ap_0 p_0.length cp_0], .ro (.sl (.int .i64)) [.slice Ap_0 p_0.length cp_0] p_0, .own 29 (.sl (.int .i64)) (.slice A52 y50.1.length c54) y50.1] ∧ F.law30_PermClosed_j0 n p_0 y50 v44_0 = some r) (fun K62 hK62 => ?_) ?_
 refine rg ?_
 refine lp (.int .i64 y50.2) (pu_move e4) ?_
 refine lp (.bool (!(decide (y50.2 = 0)))) (pu_neq (k := .i64) (a := y50.2) (b := 0) rfl rfl) ?_
 refine lp (.bool (!(decide (y50.2 = 0)))) (pu_move rfl) ?_
 rcases bS (!(decide (y50.2 = 0))) with hq63 | hq63
 replace hb := tt hq63 hb
 refine gs rfl rfl (!(decide (y50.2 = 0))) rfl hq63 ?_
 refine gs rfl rfl (!(decide (y50.2 = 0))) rfl hq63 ?_
 refine gs rfl rfl (!(decide (y50.2 = 0))) rfl hq63 ?_
 refine lp (.bool true) (pu_pickT (q := (!(decide (y50.2 = 0)))) rfl hq63 rfl) ?_
 refine lp (.bool true) (pu_move rfl) ?_
 refine gs rfl rfl true rfl rfl ?_
 refine gs rfl rfl true rfl rfl ?_
 refine gs rfl rfl true rfl rfl ?_
 refine lp (.bool true) (pu_pickT (q := true) rfl rfl rfl) ?_
 refine ln ?_
 exact hK62 _ _ ⟨true, e1, e2, e3, e4, rfl, hC.sel [2, 3, 0] (by decide), hb⟩
 replace hb := tf hq63 hb
 refine gp rfl rfl (!(decide (y50.2 = 0))) rfl hq63 (.slice A52 y50.1.length c54) (pu_move e3) ?_
 refine gp rfl rfl (!(decide (y50.2 = 0))) rfl hq63 (.int .i64 (y50.1.length : Int)) (pu_len (A := A52) (n := y50.1.length) (m := c54) Try.underlying32 rfl) ?_
 refine gp rfl rfl (!(decide (y50.2 = 0))) rfl hq63 (.bool (decide ((y50.1.length : Int) = 0))) (pu_eql (k := .i64) (a := (y50.1.length : Int)) (b := 0) rfl rfl) ?_
 refine lp (.bool (decide ((y50.1.length : Int) = 0))) (pu_pickF (q := (!(decide (y50.2 = 0)))) rfl hq63 rfl) ?_
 refine lp (.bool (decide ((y50.1.length : Int) = 0))) (pu_move rfl) ?_
 rcases bS (decide ((y50.1.length : Int) = 0)) with hq64 | hq64
 replace hb := tt hq64 hb
 refine gs rfl rfl (decide ((y50.1.length : Int) = 0)) rfl hq64 ?_
 refine gs rfl rfl (decide ((y50.1.length : Int) = 0)) rfl hq64 ?_
 refine gs rfl rfl (decide ((y50.1.length : Int) = 0)) rfl hq64 ?_
 refine lp (.bool true) (pu_pickT (q := (decide ((y50.1.length : Int) = 0))) rfl hq64 rfl) ?_
 refine ln ?_
 exact hK62 _ _ ⟨true, e1, e2, e3, e4, rfl, hC.sel [2, 3, 0] (by decide), hb⟩
 replace hb := tf hq64 hb
 refine gp rfl rfl (decide ((y50.1.length : Int) = 0)) rfl hq64 (.slice A52 y50.1.length c54) (pu_move e3) ?_
 refine gp rfl rfl (decide ((y50.1.length : Int) = 0)) rfl hq64 (.int .i64 (y50.1.length : Int)) (pu_len (A := A52) (n := y50.1.length) (m := c54) Try.underlying32 rfl) ?_
 refine gp rfl rfl (decide ((y50.1.length : Int) = 0)) rfl hq64 (.bool (decide (24 < (y50.1.length : Int)))) (pu_gtr (k := .i64) (a := (y50.1.length : Int)) (b := 24) rfl rfl) ?_
 refine lp (.bool (decide (24 < (y50.1.length : Int)))) (pu_pickF (q := (decide ((y50.1.length : Int) = 0))) rfl hq64 rfl) ?_
 refine ln ?_
 exact hK62 _ _ ⟨(decide (24 < (y50.1.length : Int))), e1, e2, e3, e4, rfl, hC.sel [2, 3, 0] (by decide), hb⟩
 clear hb hC
 rintro E66 w65 ⟨v44_0, e1, e2, e3, e4, e44, hC, hb⟩
 unfold F.law30_PermClosed_j0 at hb
 refine Wc.cond (t := v44_0) (e44) (fun hq67 => ?_) (fun hq67 => ?_)
 replace hb := tt hq67 hb
 refine Wc.seq fun K68 hK68 => ?_
 refine rg ?_
 refine lp (.int .i64 y50.2) (pu_move e4) ?_
 refine lp (.bool (decide (y50.2 = 0))) (pu_eql (k := .i64) (a := y50.2) (b := 0) rfl rfl) ?_
 refine lp (.bool (decide (y50.2 = 0))) (pu_move rfl) ?_
 rcases bS (decide (y50.2 = 0)) with hq69 | hq69
 replace hb := tt hq69 hb
 refine gp rfl rfl (decide (y50.2 = 0)) rfl hq69 (.slice A52 y50.1.length c54) (pu_move e3) ?_
 refine gp rfl rfl (decide (y50.2 = 0)) rfl hq69 (.int .i64 (y50.1.length : Int)) (pu_len (A := A52) (n := y50.1.length) (m := c54) Try.underlying32 rfl) ?_
 refine gp rfl rfl (decide (y50.2 = 0)) rfl hq69 (.bool (decide (0 < (y50.1.length : Int)))) (pu_gtr (k := .i64) (a := (y50.1.length : Int)) (b := 0) rfl rfl) ?_
 refine lp (.bool (decide (0 < (y50.1.length : Int)))) (pu_pickT (q := (decide (y50.2 = 0))) rfl hq69 rfl) ?_
 refine lp (.bool (decide (0 < (y50.1.length : Int)))) (pu_assign rfl) ?_
 refine ln ?_
 refine hK68 _ _ ?_
 obtain rfl := os hb
 refine Wc.ret ?_
 refine hKR _ _ ?_
 refine ⟨_, res1 Try.results9 (show RV _ _ _ (.tmp _) (.bool (decide (0 < (y50.1.length : Int)))) from rfl), _, rfl, rfl, hC.sel [] (by decide)⟩
 replace hb := tf hq69 hb
 refine gs rfl rfl (decide (y50.2 = 0)) rfl hq69 ?_
 refine gs rfl rfl (decide (y50.2 = 0)) rfl hq69 ?_
 refine gs rfl rfl (decide (y50.2 = 0)) rfl hq69 ?_
 refine lp (.bool false) (pu_pickF (q := (decide (y50.2 = 0))) rfl hq69 rfl) ?_
 refine lp (.bool false) (pu_assign rfl) ?_
 refine ln ?_
 refine hK68 _ _ ?_
 obtain rfl := os hb
 refine Wc.ret ?_
 refine hKR _ _ ?_
 refine ⟨_, res1 Try.results9 (show RV _ _ _ (.tmp _) (.bool false) from rfl), _, rfl, rfl, hC.sel [] (by decide)⟩
 replace hb := tf hq67 hb
 refine Wc.skip ?_
 refine hK61 _ _ ?_
 refine Wc.seq fun K70 hK70 => ?_
 refine rg ?_
 refine lp (.slice A52 y50.1.length c54) (pu_move e3) ?_
 replace hC := hC.freeze (i := 2) rfl (hC.own_new (i := 2) rfl)
 obtain ⟨y71, h72, hb⟩ := bd hb
 refine lex.cl (⟨_, _, op_call (vs := [.slice A52 y50.1.length c54]) Try.call35 rfl rfl rfl, perm_Conjugation_ok n hC.lt (hC.rd (i := 2) rfl) h72⟩) ?_
 rintro _ w78 ⟨A73, m74, c75, rfl, hr77, hK⟩
 replace hC := hC.merge hK
 clear hK
 obtain ⟨rfl, hl79, hc80⟩ := (hC.ow (i := 0) rfl).sl_len
 refine lp (.tuple #[.agg #[.slice A73 y71.1.length c75], .int .i64 y71.2]) (pu_move rfl) ?_
 refine lp (.agg #[.slice A73 y71.1.length c75]) (pu_extract rfl rfl) ?_
 refine lp (.int .i64 y71.2) (pu_extract rfl rfl) ?_
 refine lex.op (hC.alloc (cs := [.slice none 0 0]) Try.zeroValue58 rfl) ?_
 rintro _ w82 ⟨g81, rfl, hC, hF, hG⟩
 clear hG
 refine lex.sk (hC.seta (i := 0) (ds := [.slice A73 y71.1.length c75]) rfl Try.type58 rfl rfl rfl rfl rfl) ?_
 rintro w84 ⟨hC, hF⟩
 refine lp (.int .i64 y71.2) (pu_assign rfl) ?_
 refine ln ?_
 refine hK70 _ _ ?_
 refine Wc.seq fun K85 hK85 => ?_
 refine rg ?_
 refine lp (.int .i64 y71.2) (pu_move rfl) ?_
 refine lp (.bool (decide (y71.2 = 0))) (pu_eql (k := .i64) (a := y71.2) (b := 0) rfl rfl) ?_
 refine lp (.bool (decide (y71.2 = 0))) (pu_move rfl) ?_
 rcases bS (decide (y71.2 = 0)) with hq86 | hq86
 replace hb := tt hq86 hb
 refine gp rfl rfl (decide (y71.2 = 0)) rfl hq86 (.pointer (some ((⟨g81, 0, none⟩ : Addr).add 0))) (pu_field (sz := 1) Try.underlying58 rfl Try.sizeOf23 (by decide) rfl rfl) ?_
 refine gv rfl rfl (decide (y71.2 = 0)) rfl hq86 (.slice A73 y71.1.length c75) (ld_fld (hC.bx (i := 0) rfl) Try.isAgg23 rfl rfl) ?_
 refine gp rfl rfl (decide (y71.2 = 0)) rfl hq86 (.int .i64 (y71.1.length : Int)) (pu_len (A := A73) (n := y71.1.length) (m := c75) Try.underlying23 rfl) ?_
 refine gp rfl rfl (decide (y71.2 = 0)) rfl hq86 (.slice A52 y50.1.length c54) (pu_move e3) ?_
 refine gp rfl rfl (decide (y71.2 = 0)) rfl hq86 (.int .i64 (y50.1.length : Int)) (pu_len (A := A52) (n := y50.1.length) (m := c54) Try.underlying32 rfl) ?_
 refine gp rfl rfl (decide (y71.2 = 0)) rfl hq86 (.bool (decide ((y71.1.length : Int) = (y50.1.length : Int)))) (pu_eql (k := .i64) (a := (y71.1.length : Int)) (b := (y50.1.length : Int)) rfl rfl) ?_
 refine lp (.bool (decide ((y71.1.length : Int) = (y50.1.length : Int)))) (pu_pickT (q := (decide (y71.2 = 0))) rfl hq86 rfl) ?_
 refine lp (.bool (decide ((y71.1.length : Int) = (y50.1.length : Int)))) (pu_move rfl) ?_
 rcases bS (decide ((y71.1.length : Int) = (y50.1.length : Int))) with hq87 | hq87
 replace hb := tt hq87 hb
 refine gv rfl rfl (decide ((y71.1.length : Int) = (y50.1.length : Int))) rfl hq87 (.agg #[.slice A73 y71.1.length c75]) (ld_blk (hC.bx (i := 0) rfl) Try.isAgg58 Try.sizeOf58 rfl) ?_
 obtain ⟨y88, h89, hb⟩ := bd hb
 refine lex.gcl (want_t rfl rfl (show _ = Value.bool (decide ((y71.1.length : Int) = (y50.1.length : Int))) from rfl) hq87) (⟨_, _, op_call (vs := [.agg #[.slice A73 y71.1.length c75]]) Try.call36 rfl rfl rfl, quandle_Valid_ok n (hC.lentLt [.slice A73 y71.1.length c75]) ((hC.ow (i := 1) rfl).lend (vs := [.slice A73 y71.1.length c75]) (by simp)) h89⟩) ?_
 rintro _ w90 ⟨rfl, hK⟩
 replace hC := hC.mergeF hK rfl
 clear hK
 refine lp (.bool y88) (pu_pickT (q := (decide ((y71.1.length : Int) = (y50.1.length : Int)))) rfl hq87 rfl) ?_
 refine lp (.bool y88) (pu_move rfl) ?_
 rcases bS y88 with hq91 | hq91
 replace hb := tt hq91 hb
 refine gp rfl rfl y88 rfl hq91 (.slice A52 y50.1.length c54) (pu_move e3) ?_
 refine gp rfl rfl y88 rfl hq91 (.func (.func 38) #[] #[.pointer (some ⟨g3, 0, none⟩)]) (pu_funcc (map_of (m2_cons e1 m2_nil))) ?_
 replace hC : Cx (fun _ => False) O0 w w90 ([.box g3 28 [.slice Ap_0 p_0.length cp_0]] ++ [.box g81 58 [.slice A73 y71.1.length c75], .own 28 (.sl (.int .i64)) (.slice A73 y71.1.length c75) y71.1, .ro (.sl (.int .i64)) [.slice Ap_0 p_0.length cp_0] p_0, .ro (.sl (.sl (.int .i64))) [.slice A52 y50.1.length c54] y50.1]) := hC.sel [2, 0, 1, 3, 4] (by decide)
 obtain ⟨y92, h93, hb⟩ := bd hb
 refine lex.gcl (want_t rfl rfl (show _ = Value.bool y88 from rfl) hq91) (⟨_, _, op_call (vs := [.slice A52 y50.1.length c54, .func (.func 38) #[] #[.pointer (some ⟨g3, 0, none⟩)]]) Try.call37 rfl rfl rfl, slices_ContainsFunc_Perm_Perm_law30_PermClosed_c1_ok n hC.lt (hC.rd (i := 4) rfl) (hC.rd (i := 3) rfl) hC.give h93⟩) ?_
 rintro _ w94 ⟨rfl, hK⟩
 replace hC := hC.back hK
 clear hK
 refine lp (.bool y92) (pu_pickT (q := y88) rfl hq91 rfl) ?_
 refine lp (.bool y92) (pu_assign rfl) ?_
 refine ln ?_
 refine hK85 _ _ ?_
 obtain rfl := os hb
 refine Wc.ret ?_
 refine hKR _ _ ?_
 refine ⟨_, res1 Try.results9 (show RV _ _ _ (.tmp _) (.bool y92) from rfl), _, rfl, rfl, hC.sel [] (by decide)⟩
 replace hb := tf hq91 hb
 refine gs rfl rfl y88 rfl hq91 ?_
 refine gs rfl rfl y88 rfl hq91 ?_
 refine gs rfl rfl y88 rfl hq91 ?_
 refine lp (.bool false) (pu_pickF (q := y88) rfl hq91 rfl) ?_
 refine lp (.bool false) (pu_assign rfl) ?_
 refine ln ?_
 refine hK85 _ _ ?_
 obtain rfl := os hb
 refine Wc.ret ?_
 refine hKR _ _ ?_
 refine ⟨_, res1 Try.results9 (show RV _ _ _ (.tmp _) (.bool false) from rfl), _, rfl, rfl, hC.sel [] (by decide)⟩
 replace hb := tf hq87 hb
 refine gs rfl rfl (decide ((y71.1.length : Int) = (y50.1.length : Int))) rfl hq87 ?_
 refine gs rfl rfl (decide ((y71.1.length : Int) = (y50.1.length : Int))) rfl hq87 ?_
 refine lp (.bool false) (pu_pickF (q := (decide ((y71.1.length : Int) = (y50.1.length : Int)))) rfl hq87 rfl) ?_
 refine lp (.bool false) (pu_move rfl) ?_
 refine gs rfl rfl false rfl rfl ?_
 refine gs rfl rfl false rfl rfl ?_
 refine gs rfl rfl false rfl rfl ?_
 refine lp (.bool false) (pu_pickF (q := false) rfl rfl rfl) ?_
 refine lp (.bool false) (pu_assign rfl) ?_
 refine ln ?_
 refine hK85 _ _ ?_
 obtain rfl := os hb
 refine Wc.ret ?_
 refine hKR _ _ ?_
 refine ⟨_, res1 Try.results9 (show RV _ _ _ (.tmp _) (.bool false) from rfl), _, rfl, rfl, hC.sel [] (by decide)⟩
 replace hb := tf hq86 hb
 refine gs rfl rfl (decide (y71.2 = 0)) rfl hq86 ?_
 refine gs rfl rfl (decide (y71.2 = 0)) rfl hq86 ?_
 refine gs rfl rfl (decide (y71.2 = 0)) rfl hq86 ?_
 refine gs rfl rfl (decide (y71.2 = 0)) rfl hq86 ?_
 refine gs rfl rfl (decide (y71.2 = 0)) rfl hq86 ?_
 refine gs rfl rfl (decide (y71.2 = 0)) rfl hq86 ?_
 refine lp (.bool false) (pu_pickF (q := (decide (y71.2 = 0))) rfl hq86 rfl) ?_
 refine lp (.bool false) (pu_move rfl) ?_
 refine gs rfl rfl false rfl rfl ?_
 refine gs rfl rfl false rfl rfl ?_
 refine lp (.bool false) (pu_pickF (q := false) rfl rfl rfl) ?_
 refine lp (.bool false) (pu_move rfl) ?_
 refine gs rfl rfl false rfl rfl ?_
 refine gs rfl rfl false rfl rfl ?_
 refine gs rfl rfl false rfl rfl ?_
 refine lp (.bool false) (pu_pickF (q := false) rfl rfl rfl) ?_
 refine lp (.bool false) (pu_assign rfl) ?_
 refine ln ?_
 refine hK85 _ _ ?_
 obtain rfl := os hb
 refine Wc.ret ?_
 refine hKR _ _ ?_
 refine ⟨_, res1 Try.results9 (show RV _ _ _ (.tmp _) (.bool false) from rfl), _, rfl, rfl, hC.sel [] (by decide)⟩
end Go.Proofs.Ytmlkiafidahnbaa
