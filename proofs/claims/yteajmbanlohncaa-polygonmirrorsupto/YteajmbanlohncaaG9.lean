/- The walks: part 9. -/
import Derived.Test.YteajmbanlohncaaS
import Derived.Test.YteajmbanlohncaaG5
set_option linter.unusedVariables false
set_option linter.unusedSimpArgs false
namespace Go.Proofs.Yteajmbanlohncaa
open Ev
set_option maxRecDepth 100000 in
set_option maxHeartbeats 4000000 in
theorem mirror_Mirror_c1_ok (n : Nat) {w : World} {O0 : List Nat} (hO : ∀ k ∈ O0, k < w.heap.size) {a_0 : Int} (ha_0 : I64 a_0) {r : Bool} (hb : F.mirror_Mirror_c1 n a_0 = some r) :
    Calls Try.prog 69 #[.int .i64 a_0] w fun e w' => ∃ v, e = .returned v ∧ v = .bool r ∧ Cx (fun _ => False) O0 w w' [] := by
 unfold F.mirror_Mirror_c1 at hb
 have hC := Cx.start hO
 clear hO
 refine calls_of_Wc Try.func69 rfl (by rw [Try.ntmps69]; exact Nat.le_of_ble_eq_true rfl) fun KR hKR => ?_
 refine Wc.seq fun K1 hK1 => ?_
 refine rg ?_
 refine lp (.bool false) (pu_assign rfl) ?_
 refine ln ?_
 refine hK1 _ _ ?_
 refine Wc.seq fun K2 hK2 => ?_
 refine rg ?_
 refine lp (.bool true) (pu_assign rfl) ?_
 refine ln ?_
 refine hK2 _ _ ?_
 obtain rfl := os hb
 refine Wc.ret ?_
 refine hKR _ _ ?_
 refine ⟨_, res1 Try.results69 (show RV _ _ _ (.tmp _) (.bool true) from rfl), _, rfl, rfl, hC.sel [] (by decide)⟩

set_option maxRecDepth 100000 in
set_option maxHeartbeats 4000000 in
theorem mirror_exchange_c2_ok (n : Nat) {w : World} {O0 : List Nat} (hO : ∀ k ∈ O0, k < w.heap.size) {c_0 : Int} (hc_0 : I64 c_0) {gu_1 : Nat} (hio : Tk O0 w [.box gu_1 96 [.func (.func 69) #[] #[]]]) {r : Int} (hb : F.mirror_exchange_c2 n c_0 = some r) :
    Calls Try.prog 95 #[.int .i64 c_0, .pointer (some ⟨gu_1, 0, none⟩)] w fun e w' => ∃ v, e = .returned v ∧ v = .int .i64 r ∧ I64 r ∧ Cx (fun k => k ∈ blocks [.box gu_1 96 [.func (.func 69) #[] #[]]]) O0 w w' [.box gu_1 96 [.func (.func 69) #[] #[]]] := by
 unfold F.mirror_exchange_c2 at hb
 have hC := Cx.startTk hO hio
 have hsub := hio.2.2
 clear hO
 clear hio hsub
 obtain ⟨I, hI, hC⟩ : ∃ I : Nat → Prop, I = (fun k => k ∈ blocks [.box gu_1 96 [.func (.func 69) #[] #[]]]) ∧ Cx I O0 w w ([.box gu_1 96 [.func (.func 69) #[] #[]]]) := ⟨_, rfl, hC⟩
 refine calls_of_Wc Try.func95 rfl (by rw [Try.ntmps95]; exact Nat.le_of_ble_eq_true rfl) fun KR hKR => ?_
 refine Wc.seq fun K2 hK2 => ?_
 refine rg ?_
 refine lp (.int .i64 0) (pu_assign rfl) ?_
 refine ln ?_
 refine hK2 _ _ ?_
 refine Wc.seq fun K3 hK3 => ?_
 refine Wc.seq fun K4 hK4 => ?_
 refine rg ?_
 refine lv (.func (.func 69) #[] #[]) (ld_one Try.isAgg96 rfl ((hC.bx (i := 0) rfl).cell (j := 0) rfl)) ?_
 refine lp (.int .i64 c_0) (pu_move rfl) ?_
 obtain ⟨y5, h6, hb⟩ := bd hb
 refine lex.cl (⟨_, _, op_callv (vs := [.int .i64 c_0]) (ca := #[]) Try.call69 rfl rfl rfl, mirror_Mirror_c1_ok n hC.lt hc_0 h6⟩) ?_
 rintro _ w7 ⟨rfl, hK⟩
 replace hC := hC.merge hK
 clear hK
 refine ln ?_
 refine hK4 _ _ ?_
 refine Wc.cond (t := y5) (rfl) (fun hq8 => ?_) (fun hq8 => ?_)
 replace hb := tt hq8 hb
 refine Wc.seq fun K9 hK9 => ?_
 refine rg ?_
 refine lp (.int .i64 (-1)) (pu_assign rfl) ?_
 refine ln ?_
 refine hK9 _ _ ?_
 obtain rfl := os hb
 subst hI
 refine Wc.ret ?_
 refine hKR _ _ ?_
 refine ⟨_, res1 Try.results95 (show RV _ _ _ (.tmp _) (.int .i64 (-1)) from rfl), _, rfl, rfl, (show I64 (-1) from by unfold I64; omega), hC.sel [0] (by decide)⟩
 replace hb := tf hq8 hb
 refine Wc.skip ?_
 refine hK3 _ _ ?_
 refine Wc.seq fun K10 hK10 => ?_
 refine rg ?_
 refine lp (.int .i64 1) (pu_assign rfl) ?_
 refine ln ?_
 refine hK10 _ _ ?_
 obtain rfl := os hb
 subst hI
 refine Wc.ret ?_
 refine hKR _ _ ?_
 refine ⟨_, res1 Try.results95 (show RV _ _ _ (.tmp _) (.int .i64 1) from rfl), _, rfl, rfl, (show I64 1 from by unfold I64; omega), hC.sel [0] (by decide)⟩

set_option maxRecDepth 100000 in
set_option maxHeartbeats 4000000 in
theorem mirror_exchange_c1_ok (n : Nat) {w : World} {O0 : List Nat} (hO : ∀ k ∈ O0, k < w.heap.size) {c_0 : Int} (hc_0 : I64 c_0) {x_1 : Int} (hx_1 : I64 x_1) {gu_2 : Nat} {gu_3 : Nat} {Au_3_0 : Option Addr} {mu_3_0 cu_3_0 : Nat} {u_3_0 : List Int} (hu_3_0 : Rep O0 w (.sl (.int .i64)) [.slice Au_3_0 mu_3_0 cu_3_0] u_3_0) {Au_3_1 : Option Addr} {mu_3_1 cu_3_1 : Nat} {u_3_1 : List Int} (hu_3_1 : Rep O0 w (.sl (.int .i64)) [.slice Au_3_1 mu_3_1 cu_3_1] u_3_1) {u_3_2 : Int} (hu_3_2 : I64 u_3_2) (hio : Tk O0 w [.box gu_2 96 [.func (.func 69) #[] #[]], .box gu_3 32 [.slice Au_3_0 mu_3_0 cu_3_0, .slice Au_3_1 mu_3_1 cu_3_1, .int .i64 u_3_2]]) {r : Int} (hb : F.mirror_exchange_c1 n c_0 x_1 u_3_0 u_3_1 u_3_2 = some r) :
    Calls Try.prog 94 #[.int .i64 c_0, .int .i64 x_1, .pointer (some ⟨gu_2, 0, none⟩), .pointer (some ⟨gu_3, 0, none⟩)] w fun e w' => ∃ v, e = .returned v ∧ v = .int .i64 r ∧ I64 r ∧ Cx (fun k => k ∈ blocks [.box gu_2 96 [.func (.func 69) #[] #[]], .box gu_3 32 [.slice Au_3_0 mu_3_0 cu_3_0, .slice Au_3_1 mu_3_1 cu_3_1, .int .i64 u_3_2]]) O0 w w' [.box gu_2 96 [.func (.func 69) #[] #[]], .box gu_3 32 [.slice Au_3_0 mu_3_0 cu_3_0, .slice Au_3_1 mu_3_1 cu_3_1, .int .i64 u_3_2]] := by
 unfold F.mirror_exchange_c1 at hb
 have hC := Cx.startTk hO hio
 have hsub := hio.2.2
 replace hC := hC.argTk (by first | exact hsub | exact fun k hk => hsub k (by simpa [blocks, Fact.blk] using hk)) hu_3_0
 replace hC := hC.argTk (by first | exact hsub | exact fun k hk => hsub k (by simpa [blocks, Fact.blk] using hk)) hu_3_1
 clear hO
 obtain ⟨rfl, hlu_3_0, hcu_3_0⟩ := hu_3_0.sl_len
 obtain ⟨rfl, hlu_3_1, hcu_3_1⟩ := hu_3_1.sl_len
 clear hio hsub
 obtain ⟨I, hI, hC⟩ : ∃ I : Nat → Prop, I = (fun k => k ∈ blocks [.box gu_2 96 [.func (.func 69) #[] #[]], .box gu_3 32 [.slice Au_3_0 u_3_0.length cu_3_0, .slice Au_3_1 u_3_1.length cu_3_1, .int .i64 u_3_2]]) ∧ Cx I O0 w w ([.ro (.sl (.int .i64)) [.slice Au_3_1 u_3_1.length cu_3_1] u_3_1, .ro (.sl (.int .i64)) [.slice Au_3_0 u_3_0.length cu_3_0] u_3_0, .box gu_2 96 [.func (.func 69) #[] #[]], .box gu_3 32 [.slice Au_3_0 u_3_0.length cu_3_0, .slice Au_3_1 u_3_1.length cu_3_1, .int .i64 u_3_2]]) := ⟨_, rfl, hC⟩
 refine calls_of_Wc Try.func94 rfl (by rw [Try.ntmps94]; exact Nat.le_of_ble_eq_true rfl) fun KR hKR => ?_
 refine Wc.seq fun K5 hK5 => ?_
 refine rg ?_
 refine lp (.int .i64 0) (pu_assign rfl) ?_
 refine ln ?_
 refine hK5 _ _ ?_
 refine Wc.seq fun K6 hK6 => ?_
 refine Wc.block ?_
 refine Wc.seq fun K7 hK7 => ?_
 refine rg ?_
 refine lv (.func (.func 69) #[] #[]) (ld_one Try.isAgg96 rfl ((hC.bx (i := 2) rfl).cell (j := 0) rfl)) ?_
 refine lp (.int .i64 c_0) (pu_move rfl) ?_
 obtain ⟨y8, h9, hb⟩ := bd hb
 refine lex.cl (⟨_, _, op_callv (vs := [.int .i64 c_0]) (ca := #[]) Try.call69 rfl rfl rfl, mirror_Mirror_c1_ok n hC.lt hc_0 h9⟩) ?_
 rintro _ w10 ⟨rfl, hK⟩
 replace hC := hC.merge hK
 clear hK
 refine lp (.bool (!y8)) (pu_not (q := y8) rfl) ?_
 refine lp (.bool (!y8)) (pu_assign rfl) ?_
 refine ln ?_
 refine hK7 _ _ ?_
 refine Wc.cond (t := (!y8)) (rfl) (fun hq11 => ?_) (fun hq11 => ?_)
 replace hb := tt hq11 hb
 refine Wc.seq fun K12 hK12 => ?_
 refine rg ?_
 refine lp (.int .i64 0) (pu_assign rfl) ?_
 refine ln ?_
 refine hK12 _ _ ?_
 obtain rfl := os hb
 subst hI
 refine Wc.ret ?_
 refine hKR _ _ ?_
 refine ⟨_, res1 Try.results94 (show RV _ _ _ (.tmp _) (.int .i64 0) from rfl), _, rfl, rfl, (show I64 0 from by unfold I64; omega), hC.sel [2, 3] (by decide)⟩
 replace hb := tf hq11 hb
 refine Wc.seq fun K13 hK13 => ?_
 refine rg ?_
 refine lp (.pointer (some ((⟨gu_3, 0, none⟩ : Addr).add 0))) (pu_field (sz := 1) Try.underlying32 rfl Try.sizeOf30 (by decide) rfl rfl) ?_
 refine lv (.slice Au_3_0 u_3_0.length cu_3_0) (ld_fld (hC.bx (i := 3) rfl) Try.isAgg30 rfl rfl) ?_
 refine lp (.int .i64 c_0) (pu_move rfl) ?_
 obtain ⟨x14, h15, hb⟩ := bd hb
 obtain ⟨ad16, cs17, hA, hc18, hr19⟩ := hC.elr (i := 1) rfl (get_some h15).2
 subst hA
 refine lp (.pointer (some (ad16.add (c_0.toNat * 1)))) (pu_index (a := c_0) Try.underlying30 Try.sizeOf3 rfl rfl (get_some h15).1) ?_
 obtain ⟨rfl, hr19'⟩ := hr19
 refine lv (.int .i64 x14) (ld_one Try.isAgg3 rfl (hc18 0 _ rfl)) ?_
 refine lp (.bool (decide (x14 = 1))) (pu_eql (k := .i64) (a := x14) (b := 1) rfl rfl) ?_
 refine lp (.bool (decide (x14 = 1))) (pu_assign rfl) ?_
 refine ln ?_
 refine hK13 _ _ ?_
 refine Wc.cond (t := (decide (x14 = 1))) (rfl) (fun hq20 => ?_) (fun hq20 => ?_)
 replace hb := tt hq20 hb
 refine Wc.seq fun K21 hK21 => ?_
 refine rg ?_
 refine lp (.int .i64 (-3)) (pu_assign rfl) ?_
 refine ln ?_
 refine hK21 _ _ ?_
 obtain rfl := os hb
 subst hI
 refine Wc.ret ?_
 refine hKR _ _ ?_
 refine ⟨_, res1 Try.results94 (show RV _ _ _ (.tmp _) (.int .i64 (-3)) from rfl), _, rfl, rfl, (show I64 (-3) from by unfold I64; omega), hC.sel [2, 3] (by decide)⟩
 replace hb := tf hq20 hb
 refine Wc.skip ?_
 refine hK6 _ _ ?_
 refine Wc.seq fun K22 hK22 => ?_
 refine rg ?_
 refine lp (.int .i64 (-1)) (pu_assign rfl) ?_
 refine ln ?_
 refine hK22 _ _ ?_
 obtain rfl := os hb
 subst hI
 refine Wc.ret ?_
 refine hKR _ _ ?_
 refine ⟨_, res1 Try.results94 (show RV _ _ _ (.tmp _) (.int .i64 (-1)) from rfl), _, rfl, rfl, (show I64 (-1) from by unfold I64; omega), hC.sel [2, 3] (by decide)⟩

set_option maxRecDepth 100000 in
set_option maxHeartbeats 4000000 in
theorem mirror_move_c1_ok (n : Nat) {w : World} {O0 : List Nat} (hO : ∀ k ∈ O0, k < w.heap.size) {h_0 : Int} (hh_0 : I64 h_0) {gu_1 : Nat} {gu_1_0_0 : Nat} {gu_1_0_1 : Nat} {Au_1_0_1_0 : Option Addr} {mu_1_0_1_0 cu_1_0_1_0 : Nat} {u_1_0_1_0 : List Int} (hu_1_0_1_0 : Rep O0 w (.sl (.int .i64)) [.slice Au_1_0_1_0 mu_1_0_1_0 cu_1_0_1_0] u_1_0_1_0) {Au_1_0_1_1 : Option Addr} {mu_1_0_1_1 cu_1_0_1_1 : Nat} {u_1_0_1_1 : List Int} (hu_1_0_1_1 : Rep O0 w (.sl (.int .i64)) [.slice Au_1_0_1_1 mu_1_0_1_1 cu_1_0_1_1] u_1_0_1_1) {u_1_0_1_2 : Int} (hu_1_0_1_2 : I64 u_1_0_1_2) (hio : Tk O0 w [.box gu_1 97 [.func (.func 94) #[] #[.pointer (some ⟨gu_1_0_0, 0, none⟩), .pointer (some ⟨gu_1_0_1, 0, none⟩)]], .box gu_1_0_0 96 [.func (.func 69) #[] #[]], .box gu_1_0_1 32 [.slice Au_1_0_1_0 mu_1_0_1_0 cu_1_0_1_0, .slice Au_1_0_1_1 mu_1_0_1_1 cu_1_0_1_1, .int .i64 u_1_0_1_2]]) {r : Int} (hb : F.mirror_move_c1 n h_0 u_1_0_1_0 u_1_0_1_1 u_1_0_1_2 = some r) :
    Calls Try.prog 96 #[.int .i64 h_0, .pointer (some ⟨gu_1, 0, none⟩)] w fun e w' => ∃ v, e = .returned v ∧ v = .int .i64 r ∧ I64 r ∧ Cx (fun k => k ∈ blocks [.box gu_1 97 [.func (.func 94) #[] #[.pointer (some ⟨gu_1_0_0, 0, none⟩), .pointer (some ⟨gu_1_0_1, 0, none⟩)]], .box gu_1_0_0 96 [.func (.func 69) #[] #[]], .box gu_1_0_1 32 [.slice Au_1_0_1_0 mu_1_0_1_0 cu_1_0_1_0, .slice Au_1_0_1_1 mu_1_0_1_1 cu_1_0_1_1, .int .i64 u_1_0_1_2]]) O0 w w' [.box gu_1 97 [.func (.func 94) #[] #[.pointer (some ⟨gu_1_0_0, 0, none⟩), .pointer (some ⟨gu_1_0_1, 0, none⟩)]], .box gu_1_0_0 96 [.func (.func 69) #[] #[]], .box gu_1_0_1 32 [.slice Au_1_0_1_0 mu_1_0_1_0 cu_1_0_1_0, .slice Au_1_0_1_1 mu_1_0_1_1 cu_1_0_1_1, .int .i64 u_1_0_1_2]] := by
 unfold F.mirror_move_c1 at hb
 have hC := Cx.startTk hO hio
 have hsub := hio.2.2
 replace hC := hC.argTk (by first | exact hsub | exact fun k hk => hsub k (by simpa [blocks, Fact.blk] using hk)) hu_1_0_1_0
 replace hC := hC.argTk (by first | exact hsub | exact fun k hk => hsub k (by simpa [blocks, Fact.blk] using hk)) hu_1_0_1_1
 clear hO
 obtain ⟨rfl, hlu_1_0_1_0, hcu_1_0_1_0⟩ := hu_1_0_1_0.sl_len
 obtain ⟨rfl, hlu_1_0_1_1, hcu_1_0_1_1⟩ := hu_1_0_1_1.sl_len
 clear hio hsub
 obtain ⟨I, hI, hC⟩ : ∃ I : Nat → Prop, I = (fun k => k ∈ blocks [.box gu_1 97 [.func (.func 94) #[] #[.pointer (some ⟨gu_1_0_0, 0, none⟩), .pointer (some ⟨gu_1_0_1, 0, none⟩)]], .box gu_1_0_0 96 [.func (.func 69) #[] #[]], .box gu_1_0_1 32 [.slice Au_1_0_1_0 u_1_0_1_0.length cu_1_0_1_0, .slice Au_1_0_1_1 u_1_0_1_1.length cu_1_0_1_1, .int .i64 u_1_0_1_2]]) ∧ Cx I O0 w w ([.ro (.sl (.int .i64)) [.slice Au_1_0_1_1 u_1_0_1_1.length cu_1_0_1_1] u_1_0_1_1, .ro (.sl (.int .i64)) [.slice Au_1_0_1_0 u_1_0_1_0.length cu_1_0_1_0] u_1_0_1_0, .box gu_1 97 [.func (.func 94) #[] #[.pointer (some ⟨gu_1_0_0, 0, none⟩), .pointer (some ⟨gu_1_0_1, 0, none⟩)]], .box gu_1_0_0 96 [.func (.func 69) #[] #[]], .box gu_1_0_1 32 [.slice Au_1_0_1_0 u_1_0_1_0.length cu_1_0_1_0, .slice Au_1_0_1_1 u_1_0_1_1.length cu_1_0_1_1, .int .i64 u_1_0_1_2]]) := ⟨_, rfl, hC⟩
 refine calls_of_Wc Try.func96 rfl (by rw [Try.ntmps96]; exact Nat.le_of_ble_eq_true rfl) fun KR hKR => ?_
 refine Wc.seq fun K6 hK6 => ?_
 refine rg ?_
 refine lp (.int .i64 0) (pu_assign rfl) ?_
 refine ln ?_
 refine hK6 _ _ ?_
 refine Wc.seq fun K7 hK7 => ?_
 refine rg ?_
 refine lp (.int .i64 h_0) (pu_move rfl) ?_
 refine lv (.func (.func 94) #[] #[.pointer (some ⟨gu_1_0_0, 0, none⟩), .pointer (some ⟨gu_1_0_1, 0, none⟩)]) (ld_one Try.isAgg97 rfl ((hC.bx (i := 2) rfl).cell (j := 0) rfl)) ?_
 refine lp (.int .i64 h_0) (pu_move rfl) ?_
 obtain ⟨u8, h9, hb⟩ := bd hb
 obtain ⟨z10, h11, hb⟩ := bd hb
 refine lp (.int .i64 z10) (pu_quoc (a := h_0) (b := 4) rfl rfl h9 h11) ?_
 refine lp (.int .i64 h_0) (pu_move rfl) ?_
 obtain ⟨u12, h13, hb⟩ := bd hb
 refine lp (.int .i64 (Int.tmod h_0 4)) (pu_remc (a := h_0) (b := 4) rfl rfl h13) ?_
 replace hC : Cx I O0 w w ([.box gu_1_0_0 96 [.func (.func 69) #[] #[]], .box gu_1_0_1 32 [.slice Au_1_0_1_0 u_1_0_1_0.length cu_1_0_1_0, .slice Au_1_0_1_1 u_1_0_1_1.length cu_1_0_1_1, .int .i64 u_1_0_1_2]] ++ [.ro (.sl (.int .i64)) [.slice Au_1_0_1_1 u_1_0_1_1.length cu_1_0_1_1] u_1_0_1_1, .ro (.sl (.int .i64)) [.slice Au_1_0_1_0 u_1_0_1_0.length cu_1_0_1_0] u_1_0_1_0, .box gu_1 97 [.func (.func 94) #[] #[.pointer (some ⟨gu_1_0_0, 0, none⟩), .pointer (some ⟨gu_1_0_1, 0, none⟩)]]]) := hC.sel [3, 4, 0, 1, 2] (by decide)
 obtain ⟨y14, h15, hb⟩ := bd hb
 refine lex.cl (⟨_, _, op_callv (vs := [.int .i64 z10, .int .i64 (Int.tmod h_0 4), .pointer (some ⟨gu_1_0_0, 0, none⟩), .pointer (some ⟨gu_1_0_1, 0, none⟩)]) (ca := #[.pointer (some ⟨gu_1_0_0, 0, none⟩), .pointer (some ⟨gu_1_0_1, 0, none⟩)]) Try.call94 rfl rfl rfl, mirror_exchange_c1_ok n hC.lt (chk_rng h11) (I64.rem hh_0) (hC.rd (i := 3) rfl) (hC.rd (i := 2) rfl) hu_1_0_1_2 hC.give h15⟩) ?_
 rintro _ w17 ⟨rfl, hr16, hK⟩
 replace hC := hC.back hK
 clear hK
 obtain ⟨y18, h19, hb⟩ := bd hb
 refine lex.cl (⟨_, _, op_call (vs := [.int .i64 h_0, .int .i64 y14]) Try.call89 rfl rfl rfl, diagram_Turn_ok n hC.lt hh_0 hr16 h19⟩) ?_
 rintro _ w21 ⟨rfl, hr20, hK⟩
 replace hC := hC.merge hK
 clear hK
 refine lp (.int .i64 y18) (pu_assign rfl) ?_
 refine ln ?_
 refine hK7 _ _ ?_
 obtain rfl := os hb
 subst hI
 refine Wc.ret ?_
 refine hKR _ _ ?_
 refine ⟨_, res1 Try.results96 (show RV _ _ _ (.tmp _) (.int .i64 y18) from rfl), _, rfl, rfl, hr20, hC.sel [4, 0, 1] (by decide)⟩

set_option maxRecDepth 100000 in
set_option maxHeartbeats 4000000 in
theorem mirror_move_mirror_exchange_c1_mirror_exchange_c2_ok (n : Nat) {w : World} {O0 : List Nat} (hO : ∀ k ∈ O0, k < w.heap.size) {Ad_0_0 : Option Addr} {md_0_0 cd_0_0 : Nat} {d_0_0 : List Int} (hd_0_0 : Rep O0 w (.sl (.int .i64)) [.slice Ad_0_0 md_0_0 cd_0_0] d_0_0) {Ad_0_1 : Option Addr} {md_0_1 cd_0_1 : Nat} {d_0_1 : List Int} (hd_0_1 : Rep O0 w (.sl (.int .i64)) [.slice Ad_0_1 md_0_1 cd_0_1] d_0_1) {d_0_2 : Int} (hd_0_2 : I64 d_0_2) {gby_1_0 : Nat} {gby_1_1 : Nat} {Aby_1_1_0 : Option Addr} {mby_1_1_0 cby_1_1_0 : Nat} {by_1_1_0 : List Int} (hby_1_1_0 : Rep O0 w (.sl (.int .i64)) [.slice Aby_1_1_0 mby_1_1_0 cby_1_1_0] by_1_1_0) {Aby_1_1_1 : Option Addr} {mby_1_1_1 cby_1_1_1 : Nat} {by_1_1_1 : List Int} (hby_1_1_1 : Rep O0 w (.sl (.int .i64)) [.slice Aby_1_1_1 mby_1_1_1 cby_1_1_1] by_1_1_1) {by_1_1_2 : Int} (hby_1_1_2 : I64 by_1_1_2) (hio : Tk O0 w [.box gby_1_0 96 [.func (.func 69) #[] #[]], .box gby_1_1 32 [.slice Aby_1_1_0 mby_1_1_0 cby_1_1_0, .slice Aby_1_1_1 mby_1_1_1 cby_1_1_1, .int .i64 by_1_1_2]]) {r : (List Int) × (List Int) × Int} (hb : F.mirror_move_mirror_exchange_c1_mirror_exchange_c2 n d_0_0 d_0_1 d_0_2 by_1_1_0 by_1_1_1 by_1_1_2 = some r) :
    Calls Try.prog 71 #[.agg #[.slice Ad_0_0 md_0_0 cd_0_0, .slice Ad_0_1 md_0_1 cd_0_1, .int .i64 d_0_2], .func (.func 94) #[] #[.pointer (some ⟨gby_1_0, 0, none⟩), .pointer (some ⟨gby_1_1, 0, none⟩)], .func (.func 95) #[] #[.pointer (some ⟨gby_1_0, 0, none⟩)]] w fun e w' => ∃ v, e = .returned v ∧ ∃ (A0 : Option Addr) (m0 c0 : Nat) (A1 : Option Addr) (m1 c1 : Nat), v = .agg #[.slice A0 m0 c0, .slice A1 m1 c1, .int .i64 r.2.2] ∧ I64 r.2.2 ∧ Cx (fun k => k ∈ blocks [.box gby_1_0 96 [.func (.func 69) #[] #[]], .box gby_1_1 32 [.slice Aby_1_1_0 mby_1_1_0 cby_1_1_0, .slice Aby_1_1_1 mby_1_1_1 cby_1_1_1, .int .i64 by_1_1_2]]) O0 w w' [.own 3 (.int .i64) (.slice A0 m0 c0) r.1, .own 3 (.int .i64) (.slice A1 m1 c1) r.2.1, .box gby_1_0 96 [.func (.func 69) #[] #[]], .box gby_1_1 32 [.slice Aby_1_1_0 mby_1_1_0 cby_1_1_0, .slice Aby_1_1_1 mby_1_1_1 cby_1_1_1, .int .i64 by_1_1_2]] := by
 unfold F.mirror_move_mirror_exchange_c1_mirror_exchange_c2 at hb
 have hC := Cx.startTk hO hio
 have hsub := hio.2.2
 replace hC := hC.argTk (by first | exact hsub | exact fun k hk => hsub k (by simpa [blocks, Fact.blk] using hk)) hd_0_0
 replace hC := hC.argTk (by first | exact hsub | exact fun k hk => hsub k (by simpa [blocks, Fact.blk] using hk)) hd_0_1
 replace hC := hC.argTk (by first | exact hsub | exact fun k hk => hsub k (by simpa [blocks, Fact.blk] using hk)) hby_1_1_0
 replace hC := hC.argTk (by first | exact hsub | exact fun k hk => hsub k (by simpa [blocks, Fact.blk] using hk)) hby_1_1_1
 clear hO
 obtain ⟨rfl, hld_0_0, hcd_0_0⟩ := hd_0_0.sl_len
 obtain ⟨rfl, hld_0_1, hcd_0_1⟩ := hd_0_1.sl_len
 obtain ⟨rfl, hlby_1_1_0, hcby_1_1_0⟩ := hby_1_1_0.sl_len
 obtain ⟨rfl, hlby_1_1_1, hcby_1_1_1⟩ := hby_1_1_1.sl_len
 clear hio hsub
 obtain ⟨I, hI, hC⟩ : ∃ I : Nat → Prop, I = (fun k => k ∈ blocks [.box gby_1_0 96 [.func (.func 69) #[] #[]], .box gby_1_1 32 [.slice Aby_1_1_0 by_1_1_0.length cby_1_1_0, .slice Aby_1_1_1 by_1_1_1.length cby_1_1_1, .int .i64 by_1_1_2]]) ∧ Cx I O0 w w ([.ro (.sl (.int .i64)) [.slice Aby_1_1_1 by_1_1_1.length cby_1_1_1] by_1_1_1, .ro (.sl (.int .i64)) [.slice Aby_1_1_0 by_1_1_0.length cby_1_1_0] by_1_1_0, .ro (.sl (.int .i64)) [.slice Ad_0_1 d_0_1.length cd_0_1] d_0_1, .ro (.sl (.int .i64)) [.slice Ad_0_0 d_0_0.length cd_0_0] d_0_0, .box gby_1_0 96 [.func (.func 69) #[] #[]], .box gby_1_1 32 [.slice Aby_1_1_0 by_1_1_0.length cby_1_1_0, .slice Aby_1_1_1 by_1_1_1.length cby_1_1_1, .int .i64 by_1_1_2]]) := ⟨_, rfl, hC⟩
 refine calls_of_Wc Try.func71 rfl (by rw [Try.ntmps71]; exact Nat.le_of_ble_eq_true rfl) fun KR hKR => ?_
 refine Wc.seq fun K7 hK7 => ?_
 refine rg ?_
 refine lex.op (hC.box (cs := [.slice Ad_0_0 d_0_0.length cd_0_0, .slice Ad_0_1 d_0_1.length cd_0_1, .int .i64 d_0_2]) rfl rfl) ?_
 rintro _ w9 ⟨g8, rfl, hC, hF, hG⟩
 clear hG
 refine lex.op (hC.box (cs := [.func (.func 94) #[] #[.pointer (some ⟨gby_1_0, 0, none⟩), .pointer (some ⟨gby_1_1, 0, none⟩)]]) rfl rfl) ?_
 rintro _ w12 ⟨g11, rfl, hC, hF, hG⟩
 clear hG
 refine lex.op (hC.alloc (cs := [.slice none 0 0, .slice none 0 0, .int .i64 0]) Try.zeroValue32 rfl) ?_
 rintro _ w15 ⟨g14, rfl, hC, hF, hG⟩
 clear hG
 refine ln ?_
 refine hK7 _ _ ?_
 refine Wc.seq fun K17 hK17 => ?_
 refine rg ?_
 refine lp (.func (.func 96) #[] #[.pointer (some ⟨g11, 0, none⟩)]) (pu_funcc rfl) ?_
 refine lp (.func (.func 96) #[] #[.pointer (some ⟨g11, 0, none⟩)]) (pu_assign rfl) ?_
 refine ln ?_
 refine hK17 _ _ ?_
 refine Wc.seqJ (fun E wv => ∃ (gP8 : Nat) (kP8_0_0 : List Int) (kP8_1_0 : List Int) (AkP8_0_0 : Option Addr) (mkP8_0_0 ckP8_0_0 : Nat) (AkP8_1_0 : Option Addr) (mkP8_1_0 ckP8_1_0 : Nat), E 2 = .func (.func 95) #[] #[.pointer (some ⟨gby_1_0, 0, none⟩)] ∧ E 3 = .pointer (some ⟨g8, 0, none⟩) ∧ E 6 = .pointer (some ⟨g14, 0, none⟩) ∧ E 7 = .func (.func 96) #[] #[.pointer (some ⟨g11, 0, none⟩)] ∧ E 8 = .pointer (some ⟨gP8, 0, none⟩) ∧ Cx I O0 w wv [.box gby_1_0 96 [.func (.func 69) #[] #[]], .box g8 32 [.slice Ad_0_0 d_0_0.length cd_0_0, .slice Ad_0_1 d_0_1.length cd_0_1, .int .i64 d_0_2], .ro (.sl (.int .i64)) [.slice Ad_0_0 d_0_0.length cd_0_0] d_0_0, .ro (.sl (.int .i64)) [.slice Ad_0_1 d_0_1.length cd_0_1] d_0_1, .box g14 32 [.slice none 0 0, .slice none 0 0, .int .i64 0], .box g11 97 [.func (.func 94) #[] #[.pointer (some ⟨gby_1_0, 0, none⟩), .pointer (some ⟨gby_1_1, 0, none⟩)]], .box gby_1_1 32 [.slice Aby_1_1_0 by_1_1_0.length cby_1_1_0, .slice Aby_1_1_1 by_1_1_1.length cby_1_1_1, .int .i64 by_1_1_2], .ro (.sl (.int .i64)) [.slice Aby_1_1_0 by_1_1_0.length cby_1_1_0] by_1_1_0, .ro (.sl (.int .i64)) [.slice Aby_1_1_1 by_1_1_1.length cby_1_1_1] by_1_1_1, .box gP8 32 [.slice AkP8_0_0 mkP8_0_0 ckP8_0_0, .slice AkP8_1_0 mkP8_1_0 ckP8_1_0, .int .i64 d_0_2], .own 3 (.int .i64) (.slice AkP8_0_0 mkP8_0_0 ckP8_0_0) kP8_0_0, .own 3 (.int .i64) (.slice AkP8_1_0 mkP8_1_0 ckP8_1_0) kP8_1_0] ∧ F.mirror_move_mirror_exchange_c1_mirror_exchange_c2_j0 n d_0_0 d_0_1 d_0_2 by_1_1_0 by_1_1_1 by_1_1_2 kP8_0_0 kP8_1_0 = some r) (fun K18 hK18 => ?_) ?_
 refine Wc.regionPlan [15, 19, 23] (frm [15, 19, 23] ([] : List Fact) ([] : List Fact)) (chainP [0, 1, 2, 4, 5, 6, 8, 9] (.alt (chainP [3] (.alt (chainP [7] (chainP [10, 11, 12] .done)) (chainP [11] (chainP [7, 10, 12] .done)))) (.alt (chainP [7] (.alt (chainP [3] (chainP [10, 11, 12] .done)) (chainP [11] (chainP [3, 10, 12] .done)))) (chainP [11] (.alt (chainP [3] (chainP [7, 10, 12] .done)) (chainP [7] (chainP [3, 10, 12] .done))))))) (fun _ => rfl) mixed (by decide +kernel) (by decide +kernel) fun w20 hw19 => ?_
 replace hC := hC.step (Fr.of_drew hw19)
 have hM := Fr.refl (fun k => k ∈ blocks ([] : List Fact)) w20
 clear hw19
 have hS := hC
 have hD : Fr (fun k => k ∈ blocks (([] : List Fact) ++ ([] : List Fact))) w20 w20 := hM.wide
 refine mixPE_chain ?_
 refine mp (.pointer (some ((⟨g8, 0, none⟩ : Addr).add 0))) (pu_field (sz := 1) Try.underlying32 rfl Try.sizeOf30 (by decide) rfl rfl) ?_
 refine mixE.steady hD (v := .slice Ad_0_0 d_0_0.length cd_0_0) (fun _ hF => ld_fld (hS.bx2 (i := 2) rfl [] (by decide) hF) Try.isAgg30 rfl rfl) ?_
 refine mp (.int .i64 (d_0_0.length : Int)) (pu_len (A := Ad_0_0) (n := d_0_0.length) (m := cd_0_0) Try.underlying30 rfl) ?_
 refine mp (.pointer (some ((⟨g8, 0, none⟩ : Addr).add 1))) (pu_field (sz := 1) Try.underlying32 rfl Try.sizeOf30 (by decide) rfl rfl) ?_
 refine mixE.steady hD (v := .slice Ad_0_1 d_0_1.length cd_0_1) (fun _ hF => ld_fld (hS.bx2 (i := 2) rfl [] (by decide) hF) Try.isAgg30 rfl rfl) ?_
 refine mp (.int .i64 (d_0_1.length : Int)) (pu_len (A := Ad_0_1) (n := d_0_1.length) (m := cd_0_1) Try.underlying30 rfl) ?_
 refine mp (.pointer (some ((⟨g8, 0, none⟩ : Addr).add 2))) (pu_field (sz := 1) Try.underlying32 rfl Try.sizeOf3 (by decide) rfl rfl) ?_
 refine mixE.steady hD (v := .int .i64 d_0_2) (fun _ hF => ld_fld (hS.bx2 (i := 2) rfl [] (by decide) hF) Try.isAgg3 rfl rfl) ?_
 refine mixE.nil ?_
 refine mixPE_alt ?_ ?_
 refine mixPE_chain ?_
 obtain ⟨u21, h22, hb⟩ := bd hb
 refine mixE.op hM (hC.make (s := (.int .i64)) (n := (d_0_0.length : Int)) Try.underlying30 Try.type3 rfl rfl rfl rfl rfl (pos_some h22).1 (pos_some h22).2 (by decide)) ?_
 rintro _ w27 ⟨A23, c24, rfl, hl25, hc26, hC, hF, hN⟩
 have hBf28 := Beside.new hM hN
 have hUf28 := Beside.new (hM.wide (H := ([] : List Fact))) hN
 replace hM := hM.none hF
 replace hD := hM.wide (H := ([] : List Fact))
 refine ⟨hM, ?_⟩
 clear hF hN
 refine mixE.nil ?_
 refine mixPE_alt ?_ ?_
 refine mixPE_chain ?_
 obtain ⟨u29, h30, hb⟩ := bd hb
 refine mixE.op hM (hC.make (s := (.int .i64)) (n := (d_0_1.length : Int)) Try.underlying30 Try.type3 rfl rfl rfl rfl rfl (pos_some h30).1 (pos_some h30).2 (by decide)) ?_
 rintro _ w35 ⟨A31, c32, rfl, hl33, hc34, hC, hF, hN⟩
 have hBf36 := Beside.new hM hN
 have hUf36 := Beside.new (hM.wide (H := ([] : List Fact))) hN
 replace hM := hM.none hF
 replace hD := hM.wide (H := ([] : List Fact))
 refine ⟨hM, ?_⟩
 clear hF hN
 refine mixE.nil ?_
 refine mixPE_chain ?_
 refine mp (.agg #[.slice A23 (((List.replicate (d_0_0.length : Int).toNat (0 : Int))).length) c24, .slice A31 (((List.replicate (d_0_1.length : Int).toNat (0 : Int))).length) c32, .int .i64 d_0_2]) (pu_builds (places := [(0, 1), (1, 1), (2, 1)]) (pv := [(0, .slice A23 (((List.replicate (d_0_0.length : Int).toNat (0 : Int))).length) c24), (1, .slice A31 (((List.replicate (d_0_1.length : Int).toNat (0 : Int))).length) c32), (2, .int .i64 d_0_2)]) Try.type32 Try.underlying32 rfl (mp_cons Try.type30 (mp_cons Try.type30 (mp_cons Try.type3 mp_nil rfl rfl) rfl rfl) rfl rfl) rfl (by simp [Instr.fill, Value.cells])) ?_
 refine mixE.op hM (hC.alloc (cs := [.slice none 0 0, .slice none 0 0, .int .i64 0]) Try.zeroValue32 rfl) ?_
 rintro _ w38 ⟨g37, rfl, hC, hF, hG⟩
 have hUf39 : g37 < w20.heap.size → g37 ∈ blocks (([] : List Fact) ++ ([] : List Fact)) := fun h => absurd (Nat.lt_of_lt_of_le h (Nat.le_trans hM.size hG)) (Nat.lt_irrefl _)
 clear hG
 replace hM := hM.none hF
 replace hD := hM.wide (H := ([] : List Fact))
 refine ⟨hM, ?_⟩
 refine mixE.sk hD (hC.seta (i := 0) (ds := [.slice A23 (((List.replicate (d_0_0.length : Int).toNat (0 : Int))).length) c24, .slice A31 (((List.replicate (d_0_1.length : Int).toNat (0 : Int))).length) c32, .int .i64 d_0_2]) rfl Try.type32 rfl rfl rfl rfl rfl) ?_
 rintro w40 ⟨hC, hF⟩
 replace hD := hD.besideG hUf39 hF
 clear hF
 refine ⟨hD, ?_⟩
 refine mixE.nil ?_
 clear hS hM
 clear hD
 exact hK18 _ _ ⟨g37, (List.replicate (d_0_0.length : Int).toNat (0 : Int)), (List.replicate (d_0_1.length : Int).toNat (0 : Int)), A23, ((List.replicate (d_0_0.length : Int).toNat (0 : Int))).length, c24, A31, ((List.replicate (d_0_1.length : Int).toNat (0 : Int))).length, c32, rfl, rfl, rfl, rfl, rfl, hC.sel [10, 5, 9, 8, 3, 4, 11, 7, 6, 0, 2, 1] (by decide), hb⟩
 refine mixPE_chain ?_
 refine mixE.op hM (hC.alloc (cs := [.slice none 0 0, .slice none 0 0, .int .i64 0]) Try.zeroValue32 rfl) ?_
 rintro _ w42 ⟨g41, rfl, hC, hF, hG⟩
 have hUf43 : g41 < w20.heap.size → g41 ∈ blocks (([] : List Fact) ++ ([] : List Fact)) := fun h => absurd (Nat.lt_of_lt_of_le h (Nat.le_trans hM.size hG)) (Nat.lt_irrefl _)
 clear hG
 replace hM := hM.none hF
 replace hD := hM.wide (H := ([] : List Fact))
 refine ⟨hM, ?_⟩
 refine mixE.nil ?_
 refine mixPE_chain ?_
 obtain ⟨u29, h45, hb⟩ := bd hb
 refine mixE.op hM (hC.make (s := (.int .i64)) (n := (d_0_1.length : Int)) Try.underlying30 Try.type3 rfl rfl rfl rfl rfl (pos_some h45).1 (pos_some h45).2 (by decide)) ?_
 rintro _ w50 ⟨A46, c47, rfl, hl48, hc49, hC, hF, hN⟩
 have hBf51 := Beside.new hM hN
 have hUf51 := Beside.new (hM.wide (H := ([] : List Fact))) hN
 replace hM := hM.none hF
 replace hD := hM.wide (H := ([] : List Fact))
 refine ⟨hM, ?_⟩
 clear hF hN
 refine mp (.agg #[.slice A23 (((List.replicate (d_0_0.length : Int).toNat (0 : Int))).length) c24, .slice A46 (((List.replicate (d_0_1.length : Int).toNat (0 : Int))).length) c47, .int .i64 d_0_2]) (pu_builds (places := [(0, 1), (1, 1), (2, 1)]) (pv := [(0, .slice A23 (((List.replicate (d_0_0.length : Int).toNat (0 : Int))).length) c24), (1, .slice A46 (((List.replicate (d_0_1.length : Int).toNat (0 : Int))).length) c47), (2, .int .i64 d_0_2)]) Try.type32 Try.underlying32 rfl (mp_cons Try.type30 (mp_cons Try.type30 (mp_cons Try.type3 mp_nil rfl rfl) rfl rfl) rfl rfl) rfl (by simp [Instr.fill, Value.cells])) ?_
 refine mixE.sk hD (hC.seta (i := 1) (ds := [.slice A23 (((List.replicate (d_0_0.length : Int).toNat (0 : Int))).length) c24, .slice A46 (((List.replicate (d_0_1.length : Int).toNat (0 : Int))).length) c47, .int .i64 d_0_2]) rfl Try.type32 rfl rfl rfl rfl rfl) ?_
 rintro w52 ⟨hC, hF⟩
 replace hD := hD.besideG hUf43 hF
 clear hF
 refine ⟨hD, ?_⟩
 refine mixE.nil ?_
 clear hS hM
 clear hD
 exact hK18 _ _ ⟨g41, (List.replicate (d_0_0.length : Int).toNat (0 : Int)), (List.replicate (d_0_1.length : Int).toNat (0 : Int)), A23, ((List.replicate (d_0_0.length : Int).toNat (0 : Int))).length, c24, A46, ((List.replicate (d_0_1.length : Int).toNat (0 : Int))).length, c47, rfl, rfl, rfl, rfl, rfl, hC.sel [10, 5, 9, 8, 3, 4, 11, 7, 6, 1, 2, 0] (by decide), hb⟩
 replace hb := (gcomm0 _ _ _).symm.trans hb
 refine mixPE_alt ?_ ?_
 refine mixPE_chain ?_
 obtain ⟨u29, h54, hb⟩ := bd hb
 refine mixE.op hM (hC.make (s := (.int .i64)) (n := (d_0_1.length : Int)) Try.underlying30 Try.type3 rfl rfl rfl rfl rfl (pos_some h54).1 (pos_some h54).2 (by decide)) ?_
 rintro _ w59 ⟨A55, c56, rfl, hl57, hc58, hC, hF, hN⟩
 have hBf60 := Beside.new hM hN
 have hUf60 := Beside.new (hM.wide (H := ([] : List Fact))) hN
 replace hM := hM.none hF
 replace hD := hM.wide (H := ([] : List Fact))
 refine ⟨hM, ?_⟩
 clear hF hN
 refine mixE.nil ?_
 refine mixPE_alt ?_ ?_
 refine mixPE_chain ?_
 obtain ⟨u21, h62, hb⟩ := bd hb
 refine mixE.op hM (hC.make (s := (.int .i64)) (n := (d_0_0.length : Int)) Try.underlying30 Try.type3 rfl rfl rfl rfl rfl (pos_some h62).1 (pos_some h62).2 (by decide)) ?_
 rintro _ w67 ⟨A63, c64, rfl, hl65, hc66, hC, hF, hN⟩
 have hBf68 := Beside.new hM hN
 have hUf68 := Beside.new (hM.wide (H := ([] : List Fact))) hN
 replace hM := hM.none hF
 replace hD := hM.wide (H := ([] : List Fact))
 refine ⟨hM, ?_⟩
 clear hF hN
 refine mixE.nil ?_
 refine mixPE_chain ?_
 refine mp (.agg #[.slice A63 (((List.replicate (d_0_0.length : Int).toNat (0 : Int))).length) c64, .slice A55 (((List.replicate (d_0_1.length : Int).toNat (0 : Int))).length) c56, .int .i64 d_0_2]) (pu_builds (places := [(0, 1), (1, 1), (2, 1)]) (pv := [(0, .slice A63 (((List.replicate (d_0_0.length : Int).toNat (0 : Int))).length) c64), (1, .slice A55 (((List.replicate (d_0_1.length : Int).toNat (0 : Int))).length) c56), (2, .int .i64 d_0_2)]) Try.type32 Try.underlying32 rfl (mp_cons Try.type30 (mp_cons Try.type30 (mp_cons Try.type3 mp_nil rfl rfl) rfl rfl) rfl rfl) rfl (by simp [Instr.fill, Value.cells])) ?_
 refine mixE.op hM (hC.alloc (cs := [.slice none 0 0, .slice none 0 0, .int .i64 0]) Try.zeroValue32 rfl) ?_
 rintro _ w70 ⟨g69, rfl, hC, hF, hG⟩
 have hUf71 : g69 < w20.heap.size → g69 ∈ blocks (([] : List Fact) ++ ([] : List Fact)) := fun h => absurd (Nat.lt_of_lt_of_le h (Nat.le_trans hM.size hG)) (Nat.lt_irrefl _)
 clear hG
 replace hM := hM.none hF
 replace hD := hM.wide (H := ([] : List Fact))
 refine ⟨hM, ?_⟩
 refine mixE.sk hD (hC.seta (i := 0) (ds := [.slice A63 (((List.replicate (d_0_0.length : Int).toNat (0 : Int))).length) c64, .slice A55 (((List.replicate (d_0_1.length : Int).toNat (0 : Int))).length) c56, .int .i64 d_0_2]) rfl Try.type32 rfl rfl rfl rfl rfl) ?_
 rintro w72 ⟨hC, hF⟩
 replace hD := hD.besideG hUf71 hF
 clear hF
 refine ⟨hD, ?_⟩
 refine mixE.nil ?_
 clear hS hM
 clear hD
 exact hK18 _ _ ⟨g69, (List.replicate (d_0_0.length : Int).toNat (0 : Int)), (List.replicate (d_0_1.length : Int).toNat (0 : Int)), A63, ((List.replicate (d_0_0.length : Int).toNat (0 : Int))).length, c64, A55, ((List.replicate (d_0_1.length : Int).toNat (0 : Int))).length, c56, rfl, rfl, rfl, rfl, rfl, hC.sel [10, 5, 9, 8, 3, 4, 11, 7, 6, 0, 1, 2] (by decide), hb⟩
 refine mixPE_chain ?_
 refine mixE.op hM (hC.alloc (cs := [.slice none 0 0, .slice none 0 0, .int .i64 0]) Try.zeroValue32 rfl) ?_
 rintro _ w74 ⟨g73, rfl, hC, hF, hG⟩
 have hUf75 : g73 < w20.heap.size → g73 ∈ blocks (([] : List Fact) ++ ([] : List Fact)) := fun h => absurd (Nat.lt_of_lt_of_le h (Nat.le_trans hM.size hG)) (Nat.lt_irrefl _)
 clear hG
 replace hM := hM.none hF
 replace hD := hM.wide (H := ([] : List Fact))
 refine ⟨hM, ?_⟩
 refine mixE.nil ?_
 refine mixPE_chain ?_
 obtain ⟨u21, h77, hb⟩ := bd hb
 refine mixE.op hM (hC.make (s := (.int .i64)) (n := (d_0_0.length : Int)) Try.underlying30 Try.type3 rfl rfl rfl rfl rfl (pos_some h77).1 (pos_some h77).2 (by decide)) ?_
 rintro _ w82 ⟨A78, c79, rfl, hl80, hc81, hC, hF, hN⟩
 have hBf83 := Beside.new hM hN
 have hUf83 := Beside.new (hM.wide (H := ([] : List Fact))) hN
 replace hM := hM.none hF
 replace hD := hM.wide (H := ([] : List Fact))
 refine ⟨hM, ?_⟩
 clear hF hN
 refine mp (.agg #[.slice A78 (((List.replicate (d_0_0.length : Int).toNat (0 : Int))).length) c79, .slice A55 (((List.replicate (d_0_1.length : Int).toNat (0 : Int))).length) c56, .int .i64 d_0_2]) (pu_builds (places := [(0, 1), (1, 1), (2, 1)]) (pv := [(0, .slice A78 (((List.replicate (d_0_0.length : Int).toNat (0 : Int))).length) c79), (1, .slice A55 (((List.replicate (d_0_1.length : Int).toNat (0 : Int))).length) c56), (2, .int .i64 d_0_2)]) Try.type32 Try.underlying32 rfl (mp_cons Try.type30 (mp_cons Try.type30 (mp_cons Try.type3 mp_nil rfl rfl) rfl rfl) rfl rfl) rfl (by simp [Instr.fill, Value.cells])) ?_
 refine mixE.sk hD (hC.seta (i := 1) (ds := [.slice A78 (((List.replicate (d_0_0.length : Int).toNat (0 : Int))).length) c79, .slice A55 (((List.replicate (d_0_1.length : Int).toNat (0 : Int))).length) c56, .int .i64 d_0_2]) rfl Try.type32 rfl rfl rfl rfl rfl) ?_
 rintro w84 ⟨hC, hF⟩
 replace hD := hD.besideG hUf75 hF
 clear hF
 refine ⟨hD, ?_⟩
 refine mixE.nil ?_
 clear hS hM
 clear hD
 exact hK18 _ _ ⟨g73, (List.replicate (d_0_0.length : Int).toNat (0 : Int)), (List.replicate (d_0_1.length : Int).toNat (0 : Int)), A78, ((List.replicate (d_0_0.length : Int).toNat (0 : Int))).length, c79, A55, ((List.replicate (d_0_1.length : Int).toNat (0 : Int))).length, c56, rfl, rfl, rfl, rfl, rfl, hC.sel [10, 5, 9, 8, 3, 4, 11, 7, 6, 1, 0, 2] (by decide), hb⟩
 replace hb := (gcomm0 _ _ _).symm.trans hb
 refine mixPE_chain ?_
 refine mixE.op hM (hC.alloc (cs := [.slice none 0 0, .slice none 0 0, .int .i64 0]) Try.zeroValue32 rfl) ?_
 rintro _ w86 ⟨g85, rfl, hC, hF, hG⟩
 have hUf87 : g85 < w20.heap.size → g85 ∈ blocks (([] : List Fact) ++ ([] : List Fact)) := fun h => absurd (Nat.lt_of_lt_of_le h (Nat.le_trans hM.size hG)) (Nat.lt_irrefl _)
 clear hG
 replace hM := hM.none hF
 replace hD := hM.wide (H := ([] : List Fact))
 refine ⟨hM, ?_⟩
 refine mixE.nil ?_
 refine mixPE_alt ?_ ?_
 refine mixPE_chain ?_
 obtain ⟨u21, h89, hb⟩ := bd hb
 refine mixE.op hM (hC.make (s := (.int .i64)) (n := (d_0_0.length : Int)) Try.underlying30 Try.type3 rfl rfl rfl rfl rfl (pos_some h89).1 (pos_some h89).2 (by decide)) ?_
 rintro _ w94 ⟨A90, c91, rfl, hl92, hc93, hC, hF, hN⟩
 have hBf95 := Beside.new hM hN
 have hUf95 := Beside.new (hM.wide (H := ([] : List Fact))) hN
 replace hM := hM.none hF
 replace hD := hM.wide (H := ([] : List Fact))
 refine ⟨hM, ?_⟩
 clear hF hN
 refine mixE.nil ?_
 refine mixPE_chain ?_
 obtain ⟨u29, h97, hb⟩ := bd hb
 refine mixE.op hM (hC.make (s := (.int .i64)) (n := (d_0_1.length : Int)) Try.underlying30 Try.type3 rfl rfl rfl rfl rfl (pos_some h97).1 (pos_some h97).2 (by decide)) ?_
 rintro _ w102 ⟨A98, c99, rfl, hl100, hc101, hC, hF, hN⟩
 have hBf103 := Beside.new hM hN
 have hUf103 := Beside.new (hM.wide (H := ([] : List Fact))) hN
 replace hM := hM.none hF
 replace hD := hM.wide (H := ([] : List Fact))
 refine ⟨hM, ?_⟩
 clear hF hN
 refine mp (.agg #[.slice A90 (((List.replicate (d_0_0.length : Int).toNat (0 : Int))).length) c91, .slice A98 (((List.replicate (d_0_1.length : Int).toNat (0 : Int))).length) c99, .int .i64 d_0_2]) (pu_builds (places := [(0, 1), (1, 1), (2, 1)]) (pv := [(0, .slice A90 (((List.replicate (d_0_0.length : Int).toNat (0 : Int))).length) c91), (1, .slice A98 (((List.replicate (d_0_1.length : Int).toNat (0 : Int))).length) c99), (2, .int .i64 d_0_2)]) Try.type32 Try.underlying32 rfl (mp_cons Try.type30 (mp_cons Try.type30 (mp_cons Try.type3 mp_nil rfl rfl) rfl rfl) rfl rfl) rfl (by simp [Instr.fill, Value.cells])) ?_
 refine mixE.sk hD (hC.seta (i := 2) (ds := [.slice A90 (((List.replicate (d_0_0.length : Int).toNat (0 : Int))).length) c91, .slice A98 (((List.replicate (d_0_1.length : Int).toNat (0 : Int))).length) c99, .int .i64 d_0_2]) rfl Try.type32 rfl rfl rfl rfl rfl) ?_
 rintro w104 ⟨hC, hF⟩
 replace hD := hD.besideG hUf87 hF
 clear hF
 refine ⟨hD, ?_⟩
 refine mixE.nil ?_
 clear hS hM
 clear hD
 exact hK18 _ _ ⟨g85, (List.replicate (d_0_0.length : Int).toNat (0 : Int)), (List.replicate (d_0_1.length : Int).toNat (0 : Int)), A90, ((List.replicate (d_0_0.length : Int).toNat (0 : Int))).length, c91, A98, ((List.replicate (d_0_1.length : Int).toNat (0 : Int))).length, c99, rfl, rfl, rfl, rfl, rfl, hC.sel [10, 5, 9, 8, 3, 4, 11, 7, 6, 2, 1, 0] (by decide), hb⟩
 replace hb := (gcomm0 _ _ _).symm.trans hb
 refine mixPE_chain ?_
 obtain ⟨u29, h106, hb⟩ := bd hb
 refine mixE.op hM (hC.make (s := (.int .i64)) (n := (d_0_1.length : Int)) Try.underlying30 Try.type3 rfl rfl rfl rfl rfl (pos_some h106).1 (pos_some h106).2 (by decide)) ?_
 rintro _ w111 ⟨A107, c108, rfl, hl109, hc110, hC, hF, hN⟩
 have hBf112 := Beside.new hM hN
 have hUf112 := Beside.new (hM.wide (H := ([] : List Fact))) hN
 replace hM := hM.none hF
 replace hD := hM.wide (H := ([] : List Fact))
 refine ⟨hM, ?_⟩
 clear hF hN
 refine mixE.nil ?_
 refine mixPE_chain ?_
 obtain ⟨u21, h114, hb⟩ := bd hb
 refine mixE.op hM (hC.make (s := (.int .i64)) (n := (d_0_0.length : Int)) Try.underlying30 Try.type3 rfl rfl rfl rfl rfl (pos_some h114).1 (pos_some h114).2 (by decide)) ?_
 rintro _ w119 ⟨A115, c116, rfl, hl117, hc118, hC, hF, hN⟩
 have hBf120 := Beside.new hM hN
 have hUf120 := Beside.new (hM.wide (H := ([] : List Fact))) hN
 replace hM := hM.none hF
 replace hD := hM.wide (H := ([] : List Fact))
 refine ⟨hM, ?_⟩
 clear hF hN
 refine mp (.agg #[.slice A115 (((List.replicate (d_0_0.length : Int).toNat (0 : Int))).length) c116, .slice A107 (((List.replicate (d_0_1.length : Int).toNat (0 : Int))).length) c108, .int .i64 d_0_2]) (pu_builds (places := [(0, 1), (1, 1), (2, 1)]) (pv := [(0, .slice A115 (((List.replicate (d_0_0.length : Int).toNat (0 : Int))).length) c116), (1, .slice A107 (((List.replicate (d_0_1.length : Int).toNat (0 : Int))).length) c108), (2, .int .i64 d_0_2)]) Try.type32 Try.underlying32 rfl (mp_cons Try.type30 (mp_cons Try.type30 (mp_cons Try.type3 mp_nil rfl rfl) rfl rfl) rfl rfl) rfl (by simp [Instr.fill, Value.cells])) ?_
 refine mixE.sk hD (hC.seta (i := 2) (ds := [.slice A115 (((List.replicate (d_0_0.length : Int).toNat (0 : Int))).length) c116, .slice A107 (((List.replicate (d_0_1.length : Int).toNat (0 : Int))).length) c108, .int .i64 d_0_2]) rfl Try.type32 rfl rfl rfl rfl rfl) ?_
 rintro w121 ⟨hC, hF⟩
 replace hD := hD.besideG hUf87 hF
 clear hF
 refine ⟨hD, ?_⟩
 refine mixE.nil ?_
 clear hS hM
 clear hD
 exact hK18 _ _ ⟨g85, (List.replicate (d_0_0.length : Int).toNat (0 : Int)), (List.replicate (d_0_1.length : Int).toNat (0 : Int)), A115, ((List.replicate (d_0_0.length : Int).toNat (0 : Int))).length, c116, A107, ((List.replicate (d_0_1.length : Int).toNat (0 : Int))).length, c108, rfl, rfl, rfl, rfl, rfl, hC.sel [10, 5, 9, 8, 3, 4, 11, 7, 6, 2, 0, 1] (by decide), hb⟩
 clear hb hC
 rintro E123 w122 ⟨gP8, kP8_0_0, kP8_1_0, AkP8_0_0, mkP8_0_0, ckP8_0_0, AkP8_1_0, mkP8_1_0, ckP8_1_0, e2, e3, e6, e7, e8, hC, hb⟩
 unfold F.mirror_move_mirror_exchange_c1_mirror_exchange_c2_j0 at hb
 obtain ⟨rfl, hlkP8_0_0, hckP8_0_0⟩ := (hC.ow (i := 10) rfl).sl_len
 obtain ⟨rfl, hlkP8_1_0, hckP8_1_0⟩ := (hC.ow (i := 11) rfl).sl_len
 refine Wc.seq fun K124 hK124 => ?_
 refine Wc.seq fun K125 hK125 => ?_
 refine rg ?_
 refine lp (.pointer (some ((⟨g8, 0, none⟩ : Addr).add 0))) (pu_field (sz := 1) Try.underlying32 rfl Try.sizeOf30 (by decide) rfl e3) ?_
 refine lv (.slice Ad_0_0 d_0_0.length cd_0_0) (ld_fld (hC.bx (i := 1) rfl) Try.isAgg30 rfl rfl) ?_
 refine lp (.int .i64 (d_0_0.length : Int)) (pu_len (A := Ad_0_0) (n := d_0_0.length) (m := cd_0_0) Try.underlying30 rfl) ?_
 refine lp (.int .i64 0) (pu_move rfl) ?_
 refine ln ?_
 refine hK125 _ _ ?_
 obtain ⟨o126, hl1, hb⟩ := bd hb
 refine Wc.cut (fun E wv => ∃ (v28_1 : Int) (qFP8_0_0_1 : List Int), E 3 = .pointer (some ⟨g8, 0, none⟩) ∧ E 6 = .pointer (some ⟨g14, 0, none⟩) ∧ E 7 = .func (.func 96) #[] #[.pointer (some ⟨g11, 0, none⟩)] ∧ E 8 = .pointer (some ⟨gP8, 0, none⟩) ∧ I64 v28_1 ∧ Cx I O0 w wv [.box g8 32 [.slice Ad_0_0 d_0_0.length cd_0_0, .slice Ad_0_1 d_0_1.length cd_0_1, .int .i64 d_0_2], .ro (.sl (.int .i64)) [.slice Ad_0_0 d_0_0.length cd_0_0] d_0_0, .ro (.sl (.int .i64)) [.slice Ad_0_1 d_0_1.length cd_0_1] d_0_1, .box g14 32 [.slice none 0 0, .slice none 0 0, .int .i64 0], .box g11 97 [.func (.func 94) #[] #[.pointer (some ⟨gby_1_0, 0, none⟩), .pointer (some ⟨gby_1_1, 0, none⟩)]], .box gby_1_0 96 [.func (.func 69) #[] #[]], .box gby_1_1 32 [.slice Aby_1_1_0 by_1_1_0.length cby_1_1_0, .slice Aby_1_1_1 by_1_1_1.length cby_1_1_1, .int .i64 by_1_1_2], .ro (.sl (.int .i64)) [.slice Aby_1_1_0 by_1_1_0.length cby_1_1_0] by_1_1_0, .ro (.sl (.int .i64)) [.slice Aby_1_1_1 by_1_1_1.length cby_1_1_1] by_1_1_1, .box gP8 32 [.slice AkP8_0_0 kP8_0_0.length ckP8_0_0, .slice AkP8_1_0 kP8_1_0.length ckP8_1_0, .int .i64 d_0_2], .own 3 (.int .i64) (.slice AkP8_0_0 kP8_0_0.length ckP8_0_0) qFP8_0_0_1, .own 3 (.int .i64) (.slice AkP8_1_0 kP8_1_0.length ckP8_1_0) kP8_1_0] ∧ (((loopN n (F.mirror_move_mirror_exchange_c1_mirror_exchange_c2_b2 n d_0_1 by_1_1_0 by_1_1_1 by_1_1_2) (0, kP8_1_0)).bind fun o167 => match o167 with     | (v46_2, qFP8_1_0_2) => some (qFP8_0_0_1, qFP8_1_0_2, d_0_2)) : Option ((List Int) × (List Int) × Int)) = some r) (fun K127 hK127 => ?_) ?_
 refine Wc.block ?_
 refine Wc.loop (fun m E wv => ∃ (v28_1 : Int) (qFP8_0_0_1 : List Int), E 2 = .func (.func 95) #[] #[.pointer (some ⟨gby_1_0, 0, none⟩)] ∧ E 3 = .pointer (some ⟨g8, 0, none⟩) ∧ E 6 = .pointer (some ⟨g14, 0, none⟩) ∧ E 7 = .func (.func 96) #[] #[.pointer (some ⟨g11, 0, none⟩)] ∧ E 8 = .pointer (some ⟨gP8, 0, none⟩) ∧ E 26 = .slice Ad_0_0 d_0_0.length cd_0_0 ∧ E 27 = .int .i64 (d_0_0.length : Int) ∧ E 28 = .int .i64 v28_1 ∧ I64 v28_1 ∧ Cx I O0 w wv [.box gby_1_0 96 [.func (.func 69) #[] #[]], .box g8 32 [.slice Ad_0_0 d_0_0.length cd_0_0, .slice Ad_0_1 d_0_1.length cd_0_1, .int .i64 d_0_2], .ro (.sl (.int .i64)) [.slice Ad_0_0 d_0_0.length cd_0_0] d_0_0, .ro (.sl (.int .i64)) [.slice Ad_0_1 d_0_1.length cd_0_1] d_0_1, .box g14 32 [.slice none 0 0, .slice none 0 0, .int .i64 0], .box g11 97 [.func (.func 94) #[] #[.pointer (some ⟨gby_1_0, 0, none⟩), .pointer (some ⟨gby_1_1, 0, none⟩)]], .box gby_1_1 32 [.slice Aby_1_1_0 by_1_1_0.length cby_1_1_0, .slice Aby_1_1_1 by_1_1_1.length cby_1_1_1, .int .i64 by_1_1_2], .ro (.sl (.int .i64)) [.slice Aby_1_1_0 by_1_1_0.length cby_1_1_0] by_1_1_0, .ro (.sl (.int .i64)) [.slice Aby_1_1_1 by_1_1_1.length cby_1_1_1] by_1_1_1, .box gP8 32 [.slice AkP8_0_0 kP8_0_0.length ckP8_0_0, .slice AkP8_1_0 kP8_1_0.length ckP8_1_0, .int .i64 d_0_2], .own 3 (.int .i64) (.slice AkP8_0_0 kP8_0_0.length ckP8_0_0) qFP8_0_0_1, .own 3 (.int .i64) (.slice AkP8_1_0 kP8_1_0.length ckP8_1_0) kP8_1_0] ∧ loopN m (F.mirror_move_mirror_exchange_c1_mirror_exchange_c2_b1 n d_0_0) (v28_1, qFP8_0_0_1) = some o126) n ⟨0, kP8_0_0, e2, e3, e6, e7, e8, rfl, rfl, rfl, (show I64 0 from by unfold I64; omega), hC.sel [0, 1, 2, 3, 4, 5, 6, 7, 8, 9, 10, 11] (by decide), hl1⟩ ?_
 have hbK1 := hb
 clear hb hC hl1
 rintro m129 E131 w130 ⟨v28_1, qFP8_0_0_1, e2, e3, e6, e7, e8, e26, e27, e28, hrv28_1, hC, hl1⟩ K128 hK128
 obtain ⟨m129', o132, rfl, hb, hl1⟩ := loopN_some hl1
 unfold F.mirror_move_mirror_exchange_c1_mirror_exchange_c2_b1 at hb
 refine Wc.seq fun K133 hK133 => ?_
 refine rg ?_
 refine lp (.bool (decide (v28_1 < (d_0_0.length : Int)))) (pu_lss (k := .i64) (a := v28_1) (b := (d_0_0.length : Int)) e28 e27) ?_
 refine ln ?_
 refine hK133 _ _ ?_
 refine Wc.seq fun K134 hK134 => ?_
 refine Wc.cond (t := (decide (v28_1 < (d_0_0.length : Int)))) (rfl) (fun hq135 => ?_) (fun hq135 => ?_)
 replace hb := tt hq135 hb
 refine Wc.skip ?_
 refine hK134 _ _ ?_
 refine Wc.seq fun K136 hK136 => ?_
 refine Wc.block ?_
 refine Wc.seq fun K137 hK137 => ?_
 refine rg ?_
 refine lp (.int .i64 v28_1) (pu_move e28) ?_
 obtain ⟨x138, h139, hb⟩ := bd hb
 obtain ⟨ad140, cs141, hA, hc142, hr143⟩ := hC.elr (i := 2) rfl (get_some h139).2
 subst hA
 refine lp (.pointer (some (ad140.add (v28_1.toNat * 1)))) (pu_index (a := v28_1) Try.underlying30 Try.sizeOf3 e26 e28 (get_some h139).1) ?_
 obtain ⟨rfl, hr143'⟩ := hr143
 refine lv (.int .i64 x138) (ld_one Try.isAgg3 rfl (hc142 0 _ rfl)) ?_
 refine lp (.int .i64 v28_1) (pu_assign rfl) ?_
 refine lp (.int .i64 x138) (pu_assign rfl) ?_
 refine ln ?_
 refine hK137 _ _ ?_
 refine Wc.regionMix [34] (frm [34] [.box gby_1_0 96 [.func (.func 69) #[] #[]]] [.own 3 (.int .i64) (.slice AkP8_0_0 kP8_0_0.length ckP8_0_0) qFP8_0_0_1]) (fun _ => rfl) mixed (by decide +kernel) (by decide +kernel) fun w145 hw144 => ?_
 replace hC := hC.step (Fr.of_drew hw144)
 have hM := Fr.refl (fun k => k ∈ blocks [.box gby_1_0 96 [.func (.func 69) #[] #[]]]) w145
 clear hw144
 have hS := hC
 have hBf3 : ∀ g, g < w145.heap.size → some gby_1_0 = some g → g ∈ blocks [.box gby_1_0 96 [.func (.func 69) #[] #[]]] := fun g _ hg => Option.some.inj hg ▸ box_in (i := 0) rfl
 have hD : Fr (fun k => k ∈ blocks ([.box gby_1_0 96 [.func (.func 69) #[] #[]]] ++ [.own 3 (.int .i64) (.slice AkP8_0_0 kP8_0_0.length ckP8_0_0) qFP8_0_0_1])) w145 w145 := hM.wide
 have hUf3 : gby_1_0 < w145.heap.size → gby_1_0 ∈ blocks ([.box gby_1_0 96 [.func (.func 69) #[] #[]]] ++ [.own 3 (.int .i64) (.slice AkP8_0_0 kP8_0_0.length ckP8_0_0) qFP8_0_0_1]) := fun _ => box_in (i := 0) rfl
 have hUFP8_0_0 : Beside ([.box gby_1_0 96 [.func (.func 69) #[] #[]]] ++ [.own 3 (.int .i64) (.slice AkP8_0_0 kP8_0_0.length ckP8_0_0) qFP8_0_0_1]) w145 (.slice AkP8_0_0 kP8_0_0.length ckP8_0_0) := Beside.of (i := 1) rfl
 refine mp (.pointer (some ((⟨gP8, 0, none⟩ : Addr).add 0))) (pu_field (sz := 1) Try.underlying32 rfl Try.sizeOf30 (by decide) rfl e8) ?_
 refine mixE.steady hD (v := .slice AkP8_0_0 kP8_0_0.length ckP8_0_0) (fun _ hF => ld_fld (hS.bx2 (i := 9) rfl [0, 10] (by decide) hF) Try.isAgg30 rfl rfl) ?_
 refine mp (.int .i64 v28_1) (pu_move rfl) ?_
 refine mp (.int .i64 x138) (pu_move rfl) ?_
 refine mp (.func (.func 95) #[] #[.pointer (some ⟨gby_1_0, 0, none⟩)]) (pu_move e2) ?_
 refine mp (.int .i64 v28_1) (pu_move rfl) ?_
 replace hC : Cx I O0 w w145 ([.box gby_1_0 96 [.func (.func 69) #[] #[]]] ++ [.box g8 32 [.slice (some ad140) d_0_0.length cd_0_0, .slice Ad_0_1 d_0_1.length cd_0_1, .int .i64 d_0_2], .ro (.sl (.int .i64)) [.slice (some ad140) d_0_0.length cd_0_0] d_0_0, .ro (.sl (.int .i64)) [.slice Ad_0_1 d_0_1.length cd_0_1] d_0_1, .box g14 32 [.slice none 0 0, .slice none 0 0, .int .i64 0], .box g11 97 [.func (.func 94) #[] #[.pointer (some ⟨gby_1_0, 0, none⟩), .pointer (some ⟨gby_1_1, 0, none⟩)]], .box gby_1_1 32 [.slice Aby_1_1_0 by_1_1_0.length cby_1_1_0, .slice Aby_1_1_1 by_1_1_1.length cby_1_1_1, .int .i64 by_1_1_2], .ro (.sl (.int .i64)) [.slice Aby_1_1_0 by_1_1_0.length cby_1_1_0] by_1_1_0, .ro (.sl (.int .i64)) [.slice Aby_1_1_1 by_1_1_1.length cby_1_1_1] by_1_1_1, .box gP8 32 [.slice AkP8_0_0 kP8_0_0.length ckP8_0_0, .slice AkP8_1_0 kP8_1_0.length ckP8_1_0, .int .i64 d_0_2], .own 3 (.int .i64) (.slice AkP8_0_0 kP8_0_0.length ckP8_0_0) qFP8_0_0_1, .own 3 (.int .i64) (.slice AkP8_1_0 kP8_1_0.length ckP8_1_0) kP8_1_0]) := hC.sel [0, 1, 2, 3, 4, 5, 6, 7, 8, 9, 10, 11] (by decide)
 obtain ⟨y146, h147, hb⟩ := bd hb
 refine mixE.cl hM (⟨_, _, op_callv (vs := [.int .i64 v28_1, .pointer (some ⟨gby_1_0, 0, none⟩)]) (ca := #[.pointer (some ⟨gby_1_0, 0, none⟩)]) Try.call95 rfl rfl rfl, mirror_exchange_c2_ok n hC.lt hrv28_1 hC.give h147⟩) ?_
 rintro _ w149 ⟨rfl, hr148, hK⟩
 have hL150 : ∀ f ∈ ([.box gby_1_0 96 [.func (.func 69) #[] #[]]] : List Fact), ∀ g, g < w145.heap.size → f.blk = some g → g ∈ blocks [.box gby_1_0 96 [.func (.func 69) #[] #[]]] := List.forall_mem_cons.2 ⟨hBf3, fun _ h => absurd h List.not_mem_nil⟩
 replace hM := hM.besideL hL150 hK.fr
 replace hD := hM.wide (H := [.own 3 (.int .i64) (.slice AkP8_0_0 kP8_0_0.length ckP8_0_0) qFP8_0_0_1])
 refine ⟨hM, ?_⟩
 replace hC := hC.back hK
 clear hK
 obtain ⟨z151, h152, hb⟩ := bd hb
 refine mp (.int .i64 z151) (pu_mulc (a := x138) (b := y146) rfl rfl h152) ?_
 obtain ⟨x153, h154, hb⟩ := bd hb
 obtain ⟨ad155, cs156, hA, ho159, hc157, hr158⟩ := hS.elo2 (i := 10) rfl (get_some h154).2 [0] (by decide)
 subst hA
 refine mp (.pointer (some (ad155.add (v28_1.toNat * 1)))) (pu_index (a := v28_1) Try.underlying30 Try.sizeOf3 rfl rfl (by rw [(hC.ow (i := 10) rfl).sl_len.1]; exact (get_some h154).1)) ?_
 refine mixE.sk hD (hC.put (i := 10) rfl rfl Try.sizeOf3 (k := v28_1.toNat) (a := z151) (by have := (get_some h154).1; simp at this ⊢; omega) (⟨rfl, I64.wr (chk_rng h152)⟩) rfl rfl rfl) ?_
 rintro w160 ⟨hC, hF⟩
 replace hD := hD.beside hUFP8_0_0 hF
 clear hF
 refine ⟨hD, ?_⟩
 refine mixE.nil ?_
 clear hS hM
 clear hD
 refine hK136 _ _ ?_
 refine rg ?_
 obtain ⟨z161, h162, hb⟩ := bd hb
 refine lp (.int .i64 z161) (pu_addc (a := v28_1) (b := 1) e28 rfl h162) ?_
 refine lp (.int .i64 z161) (pu_move rfl) ?_
 refine ln ?_
 obtain rfl := os hb
 exact hK128 m129' _ _ (Nat.lt_succ_self _) ⟨z161, (qFP8_0_0_1.set v28_1.toNat z151), e2, e3, e6, e7, e8, e26, e27, rfl, (chk_rng h162), hC.sel [0, 1, 2, 3, 4, 5, 6, 7, 8, 9, 10, 11] (by decide), lN hl1⟩
 replace hb := tf hq135 hb
 refine Wc.exit rfl ?_
 obtain rfl := os hb
 obtain rfl := (lX hl1).symm
 exact hK127 _ _ ⟨v28_1, qFP8_0_0_1, e3, e6, e7, e8, hrv28_1, hC.sel [1, 2, 3, 4, 5, 0, 6, 7, 8, 9, 10, 11] (by decide), hbK1⟩
 clear hb hC hl1
 rintro E164 w163 ⟨v28_1, qFP8_0_0_1, e3, e6, e7, e8, hrv28_1, hC, hb⟩
 refine hK124 _ _ ?_
 refine Wc.seq fun K165 hK165 => ?_
 refine Wc.seq fun K166 hK166 => ?_
 refine rg ?_
 refine lp (.pointer (some ((⟨g8, 0, none⟩ : Addr).add 1))) (pu_field (sz := 1) Try.underlying32 rfl Try.sizeOf30 (by decide) rfl e3) ?_
 refine lv (.slice Ad_0_1 d_0_1.length cd_0_1) (ld_fld (hC.bx (i := 0) rfl) Try.isAgg30 rfl rfl) ?_
 refine lp (.int .i64 (d_0_1.length : Int)) (pu_len (A := Ad_0_1) (n := d_0_1.length) (m := cd_0_1) Try.underlying30 rfl) ?_
 refine lp (.int .i64 0) (pu_move rfl) ?_
 refine ln ?_
 refine hK166 _ _ ?_
 obtain ⟨o167, hl2, hb⟩ := bd hb
 refine Wc.cut (fun E wv => ∃ (v46_2 : Int) (qFP8_1_0_2 : List Int), E 6 = .pointer (some ⟨g14, 0, none⟩) ∧ E 8 = .pointer (some ⟨gP8, 0, none⟩) ∧ I64 v46_2 ∧ Cx I O0 w wv [.box g14 32 [.slice none 0 0, .slice none 0 0, .int .i64 0], .box gP8 32 [.slice AkP8_0_0 kP8_0_0.length ckP8_0_0, .slice AkP8_1_0 kP8_1_0.length ckP8_1_0, .int .i64 d_0_2], .own 3 (.int .i64) (.slice AkP8_0_0 kP8_0_0.length ckP8_0_0) qFP8_0_0_1, .own 3 (.int .i64) (.slice AkP8_1_0 kP8_1_0.length ckP8_1_0) qFP8_1_0_2, .box gby_1_0 96 [.func (.func 69) #[] #[]], .box gby_1_1 32 [.slice Aby_1_1_0 by_1_1_0.length cby_1_1_0, .slice Aby_1_1_1 by_1_1_1.length cby_1_1_1, .int .i64 by_1_1_2], .ro (.sl (.int .i64)) [.slice Aby_1_1_0 by_1_1_0.length cby_1_1_0] by_1_1_0, .ro (.sl (.int .i64)) [.slice Aby_1_1_1 by_1_1_1.length cby_1_1_1] by_1_1_1] ∧ (some (qFP8_0_0_1, qFP8_1_0_2, d_0_2) : Option ((List Int) × (List Int) × Int)) = some r) (fun K168 hK168 => ?_) ?_
 refine Wc.block ?_
 refine Wc.loop (fun m E wv => ∃ (v46_2 : Int) (qFP8_1_0_2 : List Int), E 6 = .pointer (some ⟨g14, 0, none⟩) ∧ E 7 = .func (.func 96) #[] #[.pointer (some ⟨g11, 0, none⟩)] ∧ E 8 = .pointer (some ⟨gP8, 0, none⟩) ∧ E 44 = .slice Ad_0_1 d_0_1.length cd_0_1 ∧ E 45 = .int .i64 (d_0_1.length : Int) ∧ E 46 = .int .i64 v46_2 ∧ I64 v46_2 ∧ Cx I O0 w wv [.box g14 32 [.slice none 0 0, .slice none 0 0, .int .i64 0], .box g11 97 [.func (.func 94) #[] #[.pointer (some ⟨gby_1_0, 0, none⟩), .pointer (some ⟨gby_1_1, 0, none⟩)]], .box gby_1_0 96 [.func (.func 69) #[] #[]], .box gby_1_1 32 [.slice Aby_1_1_0 by_1_1_0.length cby_1_1_0, .slice Aby_1_1_1 by_1_1_1.length cby_1_1_1, .int .i64 by_1_1_2], .ro (.sl (.int .i64)) [.slice Aby_1_1_0 by_1_1_0.length cby_1_1_0] by_1_1_0, .ro (.sl (.int .i64)) [.slice Aby_1_1_1 by_1_1_1.length cby_1_1_1] by_1_1_1, .box gP8 32 [.slice AkP8_0_0 kP8_0_0.length ckP8_0_0, .slice AkP8_1_0 kP8_1_0.length ckP8_1_0, .int .i64 d_0_2], .own 3 (.int .i64) (.slice AkP8_0_0 kP8_0_0.length ckP8_0_0) qFP8_0_0_1, .own 3 (.int .i64) (.slice AkP8_1_0 kP8_1_0.length ckP8_1_0) qFP8_1_0_2, .ro (.sl (.int .i64)) [.slice Ad_0_1 d_0_1.length cd_0_1] d_0_1] ∧ loopN m (F.mirror_move_mirror_exchange_c1_mirror_exchange_c2_b2 n d_0_1 by_1_1_0 by_1_1_1 by_1_1_2) (v46_2, qFP8_1_0_2) = some o167) n ⟨0, kP8_1_0, e6, e7, e8, rfl, rfl, rfl, (show I64 0 from by unfold I64; omega), hC.sel [3, 4, 5, 6, 7, 8, 9, 10, 11, 2] (by decide), hl2⟩ ?_
 have hbK2 := hb
 clear hb hC hl2
 rintro m170 E172 w171 ⟨v46_2, qFP8_1_0_2, e6, e7, e8, e44, e45, e46, hrv46_2, hC, hl2⟩ K169 hK169
 obtain ⟨m170', o173, rfl, hb, hl2⟩ := loopN_some hl2
 unfold F.mirror_move_mirror_exchange_c1_mirror_exchange_c2_b2 at hb
 refine Wc.seq fun K174 hK174 => ?_
 refine rg ?_
 refine lp (.bool (decide (v46_2 < (d_0_1.length : Int)))) (pu_lss (k := .i64) (a := v46_2) (b := (d_0_1.length : Int)) e46 e45) ?_
 refine ln ?_
 refine hK174 _ _ ?_
 refine Wc.seq fun K175 hK175 => ?_
 refine Wc.cond (t := (decide (v46_2 < (d_0_1.length : Int)))) (rfl) (fun hq176 => ?_) (fun hq176 => ?_)
 replace hb := tt hq176 hb
 refine Wc.skip ?_
 refine hK175 _ _ ?_
 refine Wc.seq fun K177 hK177 => ?_
 refine Wc.block ?_
 refine Wc.seq fun K178 hK178 => ?_
 refine rg ?_
 refine lp (.int .i64 v46_2) (pu_move e46) ?_
 obtain ⟨x179, h180, hb⟩ := bd hb
 obtain ⟨ad181, cs182, hA, hc183, hr184⟩ := hC.elr (i := 9) rfl (get_some h180).2
 subst hA
 refine lp (.pointer (some (ad181.add (v46_2.toNat * 1)))) (pu_index (a := v46_2) Try.underlying30 Try.sizeOf3 e44 e46 (get_some h180).1) ?_
 obtain ⟨rfl, hr184'⟩ := hr184
 refine lv (.int .i64 x179) (ld_one Try.isAgg3 rfl (hc183 0 _ rfl)) ?_
 refine lp (.int .i64 v46_2) (pu_assign rfl) ?_
 refine lp (.int .i64 x179) (pu_assign rfl) ?_
 refine ln ?_
 refine hK178 _ _ ?_
 refine Wc.regionMix [52] (frm [52] [.box g11 97 [.func (.func 94) #[] #[.pointer (some ⟨gby_1_0, 0, none⟩), .pointer (some ⟨gby_1_1, 0, none⟩)]], .box gby_1_0 96 [.func (.func 69) #[] #[]], .box gby_1_1 32 [.slice Aby_1_1_0 by_1_1_0.length cby_1_1_0, .slice Aby_1_1_1 by_1_1_1.length cby_1_1_1, .int .i64 by_1_1_2]] [.own 3 (.int .i64) (.slice AkP8_1_0 kP8_1_0.length ckP8_1_0) qFP8_1_0_2]) (fun _ => rfl) mixed (by decide +kernel) (by decide +kernel) fun w186 hw185 => ?_
 replace hC := hC.step (Fr.of_drew hw185)
 have hM := Fr.refl (fun k => k ∈ blocks [.box g11 97 [.func (.func 94) #[] #[.pointer (some ⟨gby_1_0, 0, none⟩), .pointer (some ⟨gby_1_1, 0, none⟩)]], .box gby_1_0 96 [.func (.func 69) #[] #[]], .box gby_1_1 32 [.slice Aby_1_1_0 by_1_1_0.length cby_1_1_0, .slice Aby_1_1_1 by_1_1_1.length cby_1_1_1, .int .i64 by_1_1_2]]) w186
 clear hw185
 have hS := hC
 have hBf13 : ∀ g, g < w186.heap.size → some g11 = some g → g ∈ blocks [.box g11 97 [.func (.func 94) #[] #[.pointer (some ⟨gby_1_0, 0, none⟩), .pointer (some ⟨gby_1_1, 0, none⟩)]], .box gby_1_0 96 [.func (.func 69) #[] #[]], .box gby_1_1 32 [.slice Aby_1_1_0 by_1_1_0.length cby_1_1_0, .slice Aby_1_1_1 by_1_1_1.length cby_1_1_1, .int .i64 by_1_1_2]] := fun g _ hg => Option.some.inj hg ▸ box_in (i := 0) rfl
 have hBf3 : ∀ g, g < w186.heap.size → some gby_1_0 = some g → g ∈ blocks [.box g11 97 [.func (.func 94) #[] #[.pointer (some ⟨gby_1_0, 0, none⟩), .pointer (some ⟨gby_1_1, 0, none⟩)]], .box gby_1_0 96 [.func (.func 69) #[] #[]], .box gby_1_1 32 [.slice Aby_1_1_0 by_1_1_0.length cby_1_1_0, .slice Aby_1_1_1 by_1_1_1.length cby_1_1_1, .int .i64 by_1_1_2]] := fun g _ hg => Option.some.inj hg ▸ box_in (i := 1) rfl
 have hBf4 : ∀ g, g < w186.heap.size → some gby_1_1 = some g → g ∈ blocks [.box g11 97 [.func (.func 94) #[] #[.pointer (some ⟨gby_1_0, 0, none⟩), .pointer (some ⟨gby_1_1, 0, none⟩)]], .box gby_1_0 96 [.func (.func 69) #[] #[]], .box gby_1_1 32 [.slice Aby_1_1_0 by_1_1_0.length cby_1_1_0, .slice Aby_1_1_1 by_1_1_1.length cby_1_1_1, .int .i64 by_1_1_2]] := fun g _ hg => Option.some.inj hg ▸ box_in (i := 2) rfl
 have hD : Fr (fun k => k ∈ blocks ([.box g11 97 [.func (.func 94) #[] #[.pointer (some ⟨gby_1_0, 0, none⟩), .pointer (some ⟨gby_1_1, 0, none⟩)]], .box gby_1_0 96 [.func (.func 69) #[] #[]], .box gby_1_1 32 [.slice Aby_1_1_0 by_1_1_0.length cby_1_1_0, .slice Aby_1_1_1 by_1_1_1.length cby_1_1_1, .int .i64 by_1_1_2]] ++ [.own 3 (.int .i64) (.slice AkP8_1_0 kP8_1_0.length ckP8_1_0) qFP8_1_0_2])) w186 w186 := hM.wide
 have hUf13 : g11 < w186.heap.size → g11 ∈ blocks ([.box g11 97 [.func (.func 94) #[] #[.pointer (some ⟨gby_1_0, 0, none⟩), .pointer (some ⟨gby_1_1, 0, none⟩)]], .box gby_1_0 96 [.func (.func 69) #[] #[]], .box gby_1_1 32 [.slice Aby_1_1_0 by_1_1_0.length cby_1_1_0, .slice Aby_1_1_1 by_1_1_1.length cby_1_1_1, .int .i64 by_1_1_2]] ++ [.own 3 (.int .i64) (.slice AkP8_1_0 kP8_1_0.length ckP8_1_0) qFP8_1_0_2]) := fun _ => box_in (i := 0) rfl
 have hUf3 : gby_1_0 < w186.heap.size → gby_1_0 ∈ blocks ([.box g11 97 [.func (.func 94) #[] #[.pointer (some ⟨gby_1_0, 0, none⟩), .pointer (some ⟨gby_1_1, 0, none⟩)]], .box gby_1_0 96 [.func (.func 69) #[] #[]], .box gby_1_1 32 [.slice Aby_1_1_0 by_1_1_0.length cby_1_1_0, .slice Aby_1_1_1 by_1_1_1.length cby_1_1_1, .int .i64 by_1_1_2]] ++ [.own 3 (.int .i64) (.slice AkP8_1_0 kP8_1_0.length ckP8_1_0) qFP8_1_0_2]) := fun _ => box_in (i := 1) rfl
 have hUf4 : gby_1_1 < w186.heap.size → gby_1_1 ∈ blocks ([.box g11 97 [.func (.func 94) #[] #[.pointer (some ⟨gby_1_0, 0, none⟩), .pointer (some ⟨gby_1_1, 0, none⟩)]], .box gby_1_0 96 [.func (.func 69) #[] #[]], .box gby_1_1 32 [.slice Aby_1_1_0 by_1_1_0.length cby_1_1_0, .slice Aby_1_1_1 by_1_1_1.length cby_1_1_1, .int .i64 by_1_1_2]] ++ [.own 3 (.int .i64) (.slice AkP8_1_0 kP8_1_0.length ckP8_1_0) qFP8_1_0_2]) := fun _ => box_in (i := 2) rfl
 have hUFP8_1_0 : Beside ([.box g11 97 [.func (.func 94) #[] #[.pointer (some ⟨gby_1_0, 0, none⟩), .pointer (some ⟨gby_1_1, 0, none⟩)]], .box gby_1_0 96 [.func (.func 69) #[] #[]], .box gby_1_1 32 [.slice Aby_1_1_0 by_1_1_0.length cby_1_1_0, .slice Aby_1_1_1 by_1_1_1.length cby_1_1_1, .int .i64 by_1_1_2]] ++ [.own 3 (.int .i64) (.slice AkP8_1_0 kP8_1_0.length ckP8_1_0) qFP8_1_0_2]) w186 (.slice AkP8_1_0 kP8_1_0.length ckP8_1_0) := Beside.of (i := 3) rfl
 refine mp (.pointer (some ((⟨gP8, 0, none⟩ : Addr).add 1))) (pu_field (sz := 1) Try.underlying32 rfl Try.sizeOf30 (by decide) rfl e8) ?_
 refine mixE.steady hD (v := .slice AkP8_1_0 kP8_1_0.length ckP8_1_0) (fun _ hF => ld_fld (hS.bx2 (i := 6) rfl [1, 2, 3, 8] (by decide) hF) Try.isAgg30 rfl rfl) ?_
 refine mp (.func (.func 96) #[] #[.pointer (some ⟨g11, 0, none⟩)]) (pu_move e7) ?_
 refine mp (.int .i64 v46_2) (pu_move rfl) ?_
 replace hC : Cx I O0 w w186 ([.box g11 97 [.func (.func 94) #[] #[.pointer (some ⟨gby_1_0, 0, none⟩), .pointer (some ⟨gby_1_1, 0, none⟩)]], .box gby_1_0 96 [.func (.func 69) #[] #[]], .box gby_1_1 32 [.slice Aby_1_1_0 by_1_1_0.length cby_1_1_0, .slice Aby_1_1_1 by_1_1_1.length cby_1_1_1, .int .i64 by_1_1_2]] ++ [.box g14 32 [.slice none 0 0, .slice none 0 0, .int .i64 0], .ro (.sl (.int .i64)) [.slice Aby_1_1_0 by_1_1_0.length cby_1_1_0] by_1_1_0, .ro (.sl (.int .i64)) [.slice Aby_1_1_1 by_1_1_1.length cby_1_1_1] by_1_1_1, .box gP8 32 [.slice AkP8_0_0 kP8_0_0.length ckP8_0_0, .slice AkP8_1_0 kP8_1_0.length ckP8_1_0, .int .i64 d_0_2], .own 3 (.int .i64) (.slice AkP8_0_0 kP8_0_0.length ckP8_0_0) qFP8_0_0_1, .own 3 (.int .i64) (.slice AkP8_1_0 kP8_1_0.length ckP8_1_0) qFP8_1_0_2, .ro (.sl (.int .i64)) [.slice (some ad181) d_0_1.length cd_0_1] d_0_1]) := hC.sel [1, 2, 3, 0, 4, 5, 6, 7, 8, 9] (by decide)
 obtain ⟨y187, h188, hb⟩ := bd hb
 refine mixE.cl hM (⟨_, _, op_callv (vs := [.int .i64 v46_2, .pointer (some ⟨g11, 0, none⟩)]) (ca := #[.pointer (some ⟨g11, 0, none⟩)]) Try.call96 rfl rfl rfl, mirror_move_c1_ok n hC.lt hrv46_2 (hC.rd (i := 4) rfl) (hC.rd (i := 5) rfl) hby_1_1_2 hC.give h188⟩) ?_
 rintro _ w190 ⟨rfl, hr189, hK⟩
 have hL191 : ∀ f ∈ ([.box g11 97 [.func (.func 94) #[] #[.pointer (some ⟨gby_1_0, 0, none⟩), .pointer (some ⟨gby_1_1, 0, none⟩)]], .box gby_1_0 96 [.func (.func 69) #[] #[]], .box gby_1_1 32 [.slice Aby_1_1_0 by_1_1_0.length cby_1_1_0, .slice Aby_1_1_1 by_1_1_1.length cby_1_1_1, .int .i64 by_1_1_2]] : List Fact), ∀ g, g < w186.heap.size → f.blk = some g → g ∈ blocks [.box g11 97 [.func (.func 94) #[] #[.pointer (some ⟨gby_1_0, 0, none⟩), .pointer (some ⟨gby_1_1, 0, none⟩)]], .box gby_1_0 96 [.func (.func 69) #[] #[]], .box gby_1_1 32 [.slice Aby_1_1_0 by_1_1_0.length cby_1_1_0, .slice Aby_1_1_1 by_1_1_1.length cby_1_1_1, .int .i64 by_1_1_2]] := List.forall_mem_cons.2 ⟨hBf13, List.forall_mem_cons.2 ⟨hBf3, List.forall_mem_cons.2 ⟨hBf4, fun _ h => absurd h List.not_mem_nil⟩⟩⟩
 replace hM := hM.besideL hL191 hK.fr
 replace hD := hM.wide (H := [.own 3 (.int .i64) (.slice AkP8_1_0 kP8_1_0.length ckP8_1_0) qFP8_1_0_2])
 refine ⟨hM, ?_⟩
 replace hC := hC.back hK
 clear hK
 refine mp (.func (.func 96) #[] #[.pointer (some ⟨g11, 0, none⟩)]) (pu_move e7) ?_
 refine mp (.int .i64 x179) (pu_move rfl) ?_
 replace hC : Cx I O0 w w190 ([.box g11 97 [.func (.func 94) #[] #[.pointer (some ⟨gby_1_0, 0, none⟩), .pointer (some ⟨gby_1_1, 0, none⟩)]], .box gby_1_0 96 [.func (.func 69) #[] #[]], .box gby_1_1 32 [.slice Aby_1_1_0 by_1_1_0.length cby_1_1_0, .slice Aby_1_1_1 by_1_1_1.length cby_1_1_1, .int .i64 by_1_1_2]] ++ [.box g14 32 [.slice none 0 0, .slice none 0 0, .int .i64 0], .ro (.sl (.int .i64)) [.slice Aby_1_1_0 by_1_1_0.length cby_1_1_0] by_1_1_0, .ro (.sl (.int .i64)) [.slice Aby_1_1_1 by_1_1_1.length cby_1_1_1] by_1_1_1, .box gP8 32 [.slice AkP8_0_0 kP8_0_0.length ckP8_0_0, .slice AkP8_1_0 kP8_1_0.length ckP8_1_0, .int .i64 d_0_2], .own 3 (.int .i64) (.slice AkP8_0_0 kP8_0_0.length ckP8_0_0) qFP8_0_0_1, .own 3 (.int .i64) (.slice AkP8_1_0 kP8_1_0.length ckP8_1_0) qFP8_1_0_2, .ro (.sl (.int .i64)) [.slice (some ad181) d_0_1.length cd_0_1] d_0_1]) := hC.sel [0, 1, 2, 3, 4, 5, 6, 7, 8, 9] (by decide)
 obtain ⟨y192, h193, hb⟩ := bd hb
 refine mixE.cl hM (⟨_, _, op_callv (vs := [.int .i64 x179, .pointer (some ⟨g11, 0, none⟩)]) (ca := #[.pointer (some ⟨g11, 0, none⟩)]) Try.call96 rfl rfl rfl, mirror_move_c1_ok n hC.lt (wrap_I64 hr184') (hC.rd (i := 4) rfl) (hC.rd (i := 5) rfl) hby_1_1_2 hC.give h193⟩) ?_
 rintro _ w195 ⟨rfl, hr194, hK⟩
 have hL196 : ∀ f ∈ ([.box g11 97 [.func (.func 94) #[] #[.pointer (some ⟨gby_1_0, 0, none⟩), .pointer (some ⟨gby_1_1, 0, none⟩)]], .box gby_1_0 96 [.func (.func 69) #[] #[]], .box gby_1_1 32 [.slice Aby_1_1_0 by_1_1_0.length cby_1_1_0, .slice Aby_1_1_1 by_1_1_1.length cby_1_1_1, .int .i64 by_1_1_2]] : List Fact), ∀ g, g < w186.heap.size → f.blk = some g → g ∈ blocks [.box g11 97 [.func (.func 94) #[] #[.pointer (some ⟨gby_1_0, 0, none⟩), .pointer (some ⟨gby_1_1, 0, none⟩)]], .box gby_1_0 96 [.func (.func 69) #[] #[]], .box gby_1_1 32 [.slice Aby_1_1_0 by_1_1_0.length cby_1_1_0, .slice Aby_1_1_1 by_1_1_1.length cby_1_1_1, .int .i64 by_1_1_2]] := List.forall_mem_cons.2 ⟨hBf13, List.forall_mem_cons.2 ⟨hBf3, List.forall_mem_cons.2 ⟨hBf4, fun _ h => absurd h List.not_mem_nil⟩⟩⟩
 replace hM := hM.besideL hL196 hK.fr
 replace hD := hM.wide (H := [.own 3 (.int .i64) (.slice AkP8_1_0 kP8_1_0.length ckP8_1_0) qFP8_1_0_2])
 refine ⟨hM, ?_⟩
 replace hC := hC.back hK
 clear hK
 obtain ⟨x197, h198, hb⟩ := bd hb
 obtain ⟨ad199, cs200, hA, ho203, hc201, hr202⟩ := hS.elo2 (i := 8) rfl (get_some h198).2 [1, 2, 3] (by decide)
 subst hA
 refine mp (.pointer (some (ad199.add (y187.toNat * 1)))) (pu_index (a := y187) Try.underlying30 Try.sizeOf3 rfl rfl (by rw [(hC.ow (i := 8) rfl).sl_len.1]; exact (get_some h198).1)) ?_
 refine mixE.sk hD (hC.put (i := 8) rfl rfl Try.sizeOf3 (k := y187.toNat) (a := y192) (by have := (get_some h198).1; simp at this ⊢; omega) (⟨rfl, I64.wr hr194⟩) rfl rfl rfl) ?_
 rintro w204 ⟨hC, hF⟩
 replace hD := hD.beside hUFP8_1_0 hF
 clear hF
 refine ⟨hD, ?_⟩
 refine mixE.nil ?_
 clear hS hM
 clear hD
 refine hK177 _ _ ?_
 refine rg ?_
 obtain ⟨z205, h206, hb⟩ := bd hb
 refine lp (.int .i64 z205) (pu_addc (a := v46_2) (b := 1) e46 rfl h206) ?_
 refine lp (.int .i64 z205) (pu_move rfl) ?_
 refine ln ?_
 obtain rfl := os hb
 exact hK169 m170' _ _ (Nat.lt_succ_self _) ⟨z205, (qFP8_1_0_2.set y187.toNat y192), e6, e7, e8, e44, e45, rfl, (chk_rng h206), hC.sel [3, 0, 1, 2, 4, 5, 6, 7, 8, 9] (by decide), lN hl2⟩
 replace hb := tf hq176 hb
 refine Wc.exit rfl ?_
 obtain rfl := os hb
 obtain rfl := (lX hl2).symm
 exact hK168 _ _ ⟨v46_2, qFP8_1_0_2, e6, e8, hrv46_2, hC.sel [0, 6, 7, 8, 2, 3, 4, 5] (by decide), hbK2⟩
 clear hb hC hl2
 rintro E208 w207 ⟨v46_2, qFP8_1_0_2, e6, e8, hrv46_2, hC, hb⟩
 refine hK165 _ _ ?_
 refine Wc.seq fun K209 hK209 => ?_
 refine rg ?_
 refine lv (.agg #[.slice AkP8_0_0 kP8_0_0.length ckP8_0_0, .slice AkP8_1_0 kP8_1_0.length ckP8_1_0, .int .i64 d_0_2]) (ld_blk (hC.bx (i := 1) rfl) Try.isAgg32 Try.sizeOf32 e8) ?_
 refine lex.sk (hC.seta (i := 0) (ds := [.slice AkP8_0_0 kP8_0_0.length ckP8_0_0, .slice AkP8_1_0 kP8_1_0.length ckP8_1_0, .int .i64 d_0_2]) rfl Try.type32 rfl rfl rfl e6 rfl) ?_
 rintro w210 ⟨hC, hF⟩
 refine ln ?_
 refine hK209 _ _ ?_
 obtain rfl := os hb
 subst hI
 refine Wc.ret ?_
 refine hKR _ _ ?_
 refine ⟨_, res1 Try.results71 ⟨_, e6, loadVar_blk (hC.bx (i := 0) rfl) Try.isAgg32 Try.sizeOf32⟩, _, rfl, AkP8_0_0, kP8_0_0.length, ckP8_0_0, AkP8_1_0, kP8_1_0.length, ckP8_1_0, rfl, hd_0_2, hC.sel [2, 3, 4, 5] (by decide)⟩
end Go.Proofs.Yteajmbanlohncaa
