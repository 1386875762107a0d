/- The walks: part 2. -/
import Derived.Test.YtmlkiafidahnbaaS
import Derived.Test.YtmlkiafidahnbaaG0
import Derived.Test.YtmlkiafidahnbaaG1
set_option linter.unusedVariables false
set_option linter.unusedSimpArgs false
namespace Go.Proofs.Ytmlkiafidahnbaa
open Ev
set_option maxRecDepth 100000 in
set_option maxHeartbeats 4000000 in
theorem slices_Equal_Perm_int_ok (n : Nat) {w : World} {O0 : List Nat} (hO : ∀ k ∈ O0, k < w.heap.size) {As1_0 : Option Addr} {ms1_0 cs1_0 : Nat} {s1_0 : List Int} (hs1_0 : Rep O0 w (.sl (.int .i64)) [.slice As1_0 ms1_0 cs1_0] s1_0) {As2_1 : Option Addr} {ms2_1 cs2_1 : Nat} {s2_1 : List Int} (hs2_1 : Rep O0 w (.sl (.int .i64)) [.slice As2_1 ms2_1 cs2_1] s2_1) {r : Bool} (hb : F.slices_Equal_Perm_int n s1_0 s2_1 = some r) :
    Calls Try.prog 21 #[.slice As1_0 ms1_0 cs1_0, .slice As2_1 ms2_1 cs2_1] w fun e w' => ∃ v, e = .returned v ∧ v = .bool r ∧ Cx (fun _ => False) O0 w w' [] := by
 unfold F.slices_Equal_Perm_int at hb
 have hC := Cx.start hO
 replace hC := hC.arg rfl hs1_0
 replace hC := hC.arg rfl hs2_1
 clear hO
 obtain ⟨rfl, hls1_0, hcs1_0⟩ := hs1_0.sl_len
 obtain ⟨rfl, hls2_1, hcs2_1⟩ := hs2_1.sl_len
 refine calls_of_Wc Try.func21 rfl (by rw [Try.ntmps21]; exact Nat.le_of_ble_eq_true rfl) fun KR hKR => ?_
 refine Wc.seq fun K3 hK3 => ?_
 refine rg ?_
 refine lp (.bool false) (pu_assign rfl) ?_
 refine ln ?_
 refine hK3 _ _ ?_
 refine Wc.seq fun K4 hK4 => ?_
 refine Wc.seq fun K5 hK5 => ?_
 refine rg ?_
 refine lp (.slice As1_0 s1_0.length cs1_0) (pu_move rfl) ?_
 refine lp (.int .i64 (s1_0.length : Int)) (pu_len (A := As1_0) (n := s1_0.length) (m := cs1_0) Try.underlying29 rfl) ?_
 refine lp (.slice As2_1 s2_1.length cs2_1) (pu_move rfl) ?_
 refine lp (.int .i64 (s2_1.length : Int)) (pu_len (A := As2_1) (n := s2_1.length) (m := cs2_1) Try.underlying29 rfl) ?_
 refine lp (.bool (!(decide ((s1_0.length : Int) = (s2_1.length : Int))))) (pu_neq (k := .i64) (a := (s1_0.length : Int)) (b := (s2_1.length : Int)) rfl rfl) ?_
 refine ln ?_
 refine hK5 _ _ ?_
 refine Wc.cond (t := (!(decide ((s1_0.length : Int) = (s2_1.length : Int))))) (rfl) (fun hq6 => ?_) (fun hq6 => ?_)
 replace hb := tt hq6 hb
 refine Wc.seq fun K7 hK7 => ?_
 refine rg ?_
 refine lp (.bool false) (pu_assign rfl) ?_
 refine ln ?_
 refine hK7 _ _ ?_
 obtain rfl := os hb
 refine Wc.ret ?_
 refine hKR _ _ ?_
 refine ⟨_, res1 Try.results21 (show RV _ _ _ (.tmp _) (.bool false) from rfl), _, rfl, rfl, hC.sel [] (by decide)⟩
 replace hb := tf hq6 hb
 refine Wc.skip ?_
 refine hK4 _ _ ?_
 refine Wc.seq fun K8 hK8 => ?_
 refine Wc.seq fun K9 hK9 => ?_
 refine rg ?_
 refine lp (.slice As1_0 s1_0.length cs1_0) (pu_move rfl) ?_
 refine lp (.int .i64 (s1_0.length : Int)) (pu_len (A := As1_0) (n := s1_0.length) (m := cs1_0) Try.underlying29 rfl) ?_
 refine lp (.int .i64 0) (pu_move rfl) ?_
 refine ln ?_
 refine hK9 _ _ ?_
 obtain ⟨o10, hl0, hb⟩ := bd hb
 refine Wc.cut (fun E wv => ∃ (v13_0 : Int), E 4 = .bool false ∧ I64 v13_0 ∧ Cx (fun _ => False) O0 w wv [] ∧ (some true : Option (Bool)) = some r) (fun K11 hK11 => ?_) ?_
 refine Wc.block ?_
 refine Wc.loop (fun m E wv => ∃ (v13_0 : Int), E 0 = .slice As1_0 s1_0.length cs1_0 ∧ E 1 = .slice As2_1 s2_1.length cs2_1 ∧ E 4 = .bool false ∧ E 12 = .int .i64 (s1_0.length : Int) ∧ E 13 = .int .i64 v13_0 ∧ I64 v13_0 ∧ Cx (fun _ => False) O0 w wv [.ro (.sl (.int .i64)) [.slice As1_0 s1_0.length cs1_0] s1_0, .ro (.sl (.int .i64)) [.slice As2_1 s2_1.length cs2_1] s2_1] ∧ loopN m (F.slices_Equal_Perm_int_b0 n s1_0 s2_1) v13_0 = some o10) n ⟨0, rfl, rfl, rfl, rfl, rfl, (show I64 0 from by unfold I64; omega), hC.sel [1, 0] (by decide), hl0⟩ ?_
 have hbK0 := hb
 clear hb hC hl0
 rintro m13 E15 w14 ⟨v13_0, e0, e1, e4, e12, e13, hrv13_0, hC, hl0⟩ K12 hK12
 obtain ⟨m13', o16, rfl, hb, hl0⟩ := loopN_some hl0
 unfold F.slices_Equal_Perm_int_b0 at hb
 refine Wc.seq fun K17 hK17 => ?_
 refine rg ?_
 refine lp (.bool (decide (v13_0 < (s1_0.length : Int)))) (pu_lss (k := .i64) (a := v13_0) (b := (s1_0.length : Int)) e13 e12) ?_
 refine ln ?_
 refine hK17 _ _ ?_
 refine Wc.seq fun K18 hK18 => ?_
 refine Wc.cond (t := (decide (v13_0 < (s1_0.length : Int)))) (rfl) (fun hq19 => ?_) (fun hq19 => ?_)
 replace hb := tt hq19 hb
 refine Wc.skip ?_
 refine hK18 _ _ ?_
 refine Wc.seq fun K20 hK20 => ?_
 refine Wc.block ?_
 refine Wc.seq fun K21 hK21 => ?_
 refine rg ?_
 refine lp (.int .i64 v13_0) (pu_move e13) ?_
 refine lp (.int .i64 v13_0) (pu_assign rfl) ?_
 refine ln ?_
 refine hK21 _ _ ?_
 refine Wc.seq fun K22 hK22 => ?_
 refine Wc.regionMix [] (frm [] ([] : List Fact) ([] : List Fact)) (fun _ => rfl) mixed (by decide +kernel) (by decide +kernel) fun w24 hw23 => ?_
 replace hC := hC.step (Fr.of_drew hw23)
 have hM := Fr.refl (fun k => k ∈ blocks ([] : List Fact)) w24
 clear hw23
 have hS := hC
 refine mp (.slice As1_0 s1_0.length cs1_0) (pu_move e0) ?_
 refine mp (.int .i64 v13_0) (pu_move rfl) ?_
 obtain ⟨x25, h26, hb⟩ := bd hb
 obtain ⟨ad27, cs28, hA, ho31, hc29, hr30⟩ := hS.elr2 (i := 0) rfl (get_some h26).2 []
 subst hA
 refine mp (.pointer (some (ad27.add (v13_0.toNat * 1)))) (pu_index (a := v13_0) Try.underlying29 Try.sizeOf3 rfl rfl (get_some h26).1) ?_
 obtain ⟨rfl, hr30'⟩ := hr30
 refine mixE.load hM (v := .int .i64 x25) (fun _ hF => ld_one Try.isAgg3 rfl (hF.cell (hc29 0 _ rfl) (off1 ho31))) ?_
 refine mp (.slice As2_1 s2_1.length cs2_1) (pu_move e1) ?_
 refine mp (.int .i64 v13_0) (pu_move rfl) ?_
 obtain ⟨x32, h33, hb⟩ := bd hb
 obtain ⟨ad34, cs35, hA, ho38, hc36, hr37⟩ := hS.elr2 (i := 1) rfl (get_some h33).2 []
 subst hA
 refine mp (.pointer (some (ad34.add (v13_0.toNat * 1)))) (pu_index (a := v13_0) Try.underlying29 Try.sizeOf3 rfl rfl (get_some h33).1) ?_
 obtain ⟨rfl, hr37'⟩ := hr37
 refine mixE.load hM (v := .int .i64 x32) (fun _ hF => ld_one Try.isAgg3 rfl (hF.cell (hc36 0 _ rfl) (off1 ho38))) ?_
 refine mp (.bool (!(decide (x25 = x32)))) (pu_neq (k := .i64) (a := x25) (b := x32) rfl rfl) ?_
 refine mixE.nil ?_
 clear hS hM
 refine hK22 _ _ ?_
 refine Wc.cond (t := (!(decide (x25 = x32)))) (rfl) (fun hq39 => ?_) (fun hq39 => ?_)
 replace hb := tt hq39 hb
 refine Wc.seq fun K40 hK40 => ?_
 refine rg ?_
 refine lp (.bool false) (pu_assign rfl) ?_
 refine ln ?_
 refine hK40 _ _ ?_
 obtain rfl := os hb
 obtain rfl := (lX hl0).symm
 replace hb := hbK0
 obtain rfl := os hb
 refine Wc.ret ?_
 refine hKR _ _ ?_
 refine ⟨_, res1 Try.results21 (show RV _ _ _ (.tmp _) (.bool false) from rfl), _, rfl, rfl, hC.sel [] (by decide)⟩
 replace hb := tf hq39 hb
 refine Wc.skip ?_
 refine hK20 _ _ ?_
 refine rg ?_
 obtain ⟨z41, h42, hb⟩ := bd hb
 refine lp (.int .i64 z41) (pu_addc (a := v13_0) (b := 1) e13 rfl h42) ?_
 refine lp (.int .i64 z41) (pu_move rfl) ?_
 refine ln ?_
 obtain rfl := os hb
 exact hK12 m13' _ _ (Nat.lt_succ_self _) ⟨z41, e0, e1, e4, e12, rfl, (chk_rng h42), hC.sel [0, 1] (by decide), lN hl0⟩
 replace hb := tf hq19 hb
 refine Wc.exit rfl ?_
 obtain rfl := os hb
 obtain rfl := (lX hl0).symm
 exact hK11 _ _ ⟨v13_0, e4, hrv13_0, hC.sel [] (by decide), hbK0⟩
 clear hb hC hl0
 rintro E44 w43 ⟨v13_0, e4, hrv13_0, hC, hb⟩
 refine hK8 _ _ ?_
 refine Wc.seq fun K45 hK45 => ?_
 refine rg ?_
 refine lp (.bool true) (pu_assign rfl) ?_
 refine ln ?_
 refine hK45 _ _ ?_
 obtain rfl := os hb
 refine Wc.ret ?_
 refine hKR _ _ ?_
 refine ⟨_, res1 Try.results21 (show RV _ _ _ (.tmp _) (.bool true) from rfl), _, rfl, rfl, hC.sel [] (by decide)⟩

set_option maxRecDepth 100000 in
set_option maxHeartbeats 4000000 in
theorem law30_awake_ok (n : Nat) {w : World} {O0 : List Nat} (hO : ∀ k ∈ O0, k < w.heap.size)  {r : Bool} (hb : F.law30_awake n = some r) :
    Calls Try.prog 10 #[] w fun e w' => ∃ v, e = .returned v ∧ v = .bool r ∧ Cx (fun _ => False) O0 w w' [] := by
 unfold F.law30_awake at hb
 have hC := Cx.start hO
 clear hO
 refine calls_of_Wc Try.func10 rfl (by rw [Try.ntmps10]; exact Nat.le_of_ble_eq_true rfl) fun KR hKR => ?_
 refine Wc.seq fun K1 hK1 => ?_
 refine rg ?_
 refine lp (.bool false) (pu_assign rfl) ?_
 refine ln ?_
 refine hK1 _ _ ?_
 refine Wc.seq fun K2 hK2 => ?_
 refine rg ?_
 refine lex.op (hC.lit (s := (.int .i64)) (vs := [.int .i64 1, .int .i64 2, .int .i64 0]) (xs := [1, 2, 0]) Try.underlying29 Try.type3 rfl rfl (Nat.le_of_ble_eq_true rfl) rfl rfl (by simp [Value.cells, Sh.n]) rfl (show Elems _ _ (.int .i64) ([.int .i64 1] ++ ([.int .i64 2] ++ ([.int .i64 0] ++ ([])))) ([1, 2, 0] : List Int) from Elems.cons (⟨rfl, I64.wr (show I64 1 from by unfold I64; omega)⟩) (Elems.cons (⟨rfl, I64.wr (show I64 2 from by unfold I64; omega)⟩) (Elems.cons (⟨rfl, I64.wr (show I64 0 from by unfold I64; omega)⟩) (Elems.nil _ _ _))))) ?_
 rintro _ w7 ⟨A3, c4, rfl, hl5, hc6, hC, hF, hN⟩
 clear hF hN
 refine lex.op (hC.lit (s := (.int .i64)) (vs := [.int .i64 1, .int .i64 0, .int .i64 2]) (xs := [1, 0, 2]) Try.underlying29 Try.type3 rfl rfl (Nat.le_of_ble_eq_true rfl) rfl rfl (by simp [Value.cells, Sh.n]) rfl (show Elems _ _ (.int .i64) ([.int .i64 1] ++ ([.int .i64 0] ++ ([.int .i64 2] ++ ([])))) ([1, 0, 2] : List Int) from Elems.cons (⟨rfl, I64.wr (show I64 1 from by unfold I64; omega)⟩) (Elems.cons (⟨rfl, I64.wr (show I64 0 from by unfold I64; omega)⟩) (Elems.cons (⟨rfl, I64.wr (show I64 2 from by unfold I64; omega)⟩) (Elems.nil _ _ _))))) ?_
 rintro _ w13 ⟨A9, c10, rfl, hl11, hc12, hC, hF, hN⟩
 clear hF hN
 obtain ⟨y15, h16, hb⟩ := bd hb
 refine lex.cl (⟨_, _, op_call (vs := [.slice A3 ((([1, 2, 0] : List Int)).length) c4, .slice A9 ((([1, 0, 2] : List Int)).length) c10]) Try.call20 rfl rfl rfl, perm_Mul_ok n (hC.lentLt [.slice A9 ((([1, 0, 2] : List Int)).length) c10, .slice A3 ((([1, 2, 0] : List Int)).length) c4]) ((hC.ow (i := 1) rfl).lend (vs := [.slice A9 ((([1, 0, 2] : List Int)).length) c10, .slice A3 ((([1, 2, 0] : List Int)).length) c4]) (by simp)) ((hC.ow (i := 0) rfl).lend (vs := [.slice A9 ((([1, 0, 2] : List Int)).length) c10, .slice A3 ((([1, 2, 0] : List Int)).length) c4]) (by simp)) h16⟩) ?_
 rintro _ w22 ⟨A17, m18, c19, rfl, hr21, hK⟩
 replace hC := hC.mergeF hK rfl
 clear hK
 obtain ⟨rfl, hl23, hc24⟩ := (hC.ow (i := 0) rfl).sl_len
 refine lp (.tuple #[.slice A17 y15.1.length c19, .int .i64 y15.2]) (pu_move rfl) ?_
 refine lp (.slice A17 y15.1.length c19) (pu_extract rfl rfl) ?_
 refine lp (.int .i64 y15.2) (pu_extract rfl rfl) ?_
 refine lp (.slice A17 y15.1.length c19) (pu_assign rfl) ?_
 refine lp (.int .i64 y15.2) (pu_assign rfl) ?_
 refine ln ?_
 refine hK2 _ _ ?_
 refine Wc.seq fun K25 hK25 => ?_
 refine rg ?_
 refine lex.op (hC.lit (s := (.int .i64)) (vs := [.int .i64 2, .int .i64 1]) (xs := [2, 1]) Try.underlying28 Try.type3 rfl rfl (Nat.le_of_ble_eq_true rfl) rfl rfl (by simp [Value.cells, Sh.n]) rfl (show Elems _ _ (.int .i64) ([.int .i64 2] ++ ([.int .i64 1] ++ ([]))) ([2, 1] : List Int) from Elems.cons (⟨rfl, I64.wr (show I64 2 from by unfold I64; omega)⟩) (Elems.cons (⟨rfl, I64.wr (show I64 1 from by unfold I64; omega)⟩) (Elems.nil _ _ _)))) ?_
 rintro _ w30 ⟨A26, c27, rfl, hl28, hc29, hC, hF, hN⟩
 clear hF hN
 replace hC := hC.freeze (i := 0) rfl (hC.own_new (i := 0) rfl)
 obtain ⟨y32, h33, hb⟩ := bd hb
 refine lex.cl (⟨_, _, op_call (vs := [.int .i64 3, .slice A26 ((([2, 1] : List Int)).length) c27]) Try.call14 rfl rfl rfl, perm_Class_ok n hC.lt (show I64 3 from by unfold I64; omega) (hC.rd (i := 0) rfl) h33⟩) ?_
 rintro _ w39 ⟨A34, m35, c36, rfl, hr38, hK⟩
 replace hC := hC.merge hK
 clear hK
 obtain ⟨rfl, hl40, hc41⟩ := (hC.ow (i := 0) rfl).sl_len
 refine lp (.tuple #[.slice A34 y32.1.length c36, .int .i64 y32.2]) (pu_move rfl) ?_
 refine lp (.slice A34 y32.1.length c36) (pu_extract rfl rfl) ?_
 refine lp (.int .i64 y32.2) (pu_extract rfl rfl) ?_
 refine lp (.slice A34 y32.1.length c36) (pu_assign rfl) ?_
 refine lp (.int .i64 y32.2) (pu_assign rfl) ?_
 refine ln ?_
 refine hK25 _ _ ?_
 refine Wc.fresh fun E42 hE => ?_
 have e0 : E42 0 = .bool false := (congrFun hE 0).trans rfl
 have e1 : E42 1 = .slice A17 y15.1.length c19 := (congrFun hE 1).trans rfl
 have e2 : E42 2 = .int .i64 y15.2 := (congrFun hE 2).trans rfl
 have e3 : E42 3 = .slice A34 y32.1.length c36 := (congrFun hE 3).trans rfl
 have e4 : E42 4 = .int .i64 y32.2 := (congrFun hE 4).trans rfl
 clear hE
 refine Wc.seq fun K43 hK43 => ?_
 refine rg ?_
 refine lp (.int .i64 y15.2) (pu_move e2) ?_
 refine lp (.bool (decide (y15.2 = 0))) (pu_eql (k := .i64) (a := y15.2) (b := 0) rfl rfl) ?_
 refine lp (.bool (decide (y15.2 = 0))) (pu_move rfl) ?_
 rcases bS (decide (y15.2 = 0)) with hq44 | hq44
 replace hb := tt hq44 hb
 refine gp rfl rfl (decide (y15.2 = 0)) rfl hq44 (.slice A17 y15.1.length c19) (pu_move e1) ?_
 refine lex.gop (want_t rfl rfl (show _ = Value.bool (decide (y15.2 = 0)) from rfl) hq44) (hC.lit (s := (.int .i64)) (vs := [.int .i64 0, .int .i64 2, .int .i64 1]) (xs := [0, 2, 1]) Try.underlying29 Try.type3 rfl rfl (Nat.le_of_ble_eq_true rfl) rfl rfl (by simp [Value.cells, Sh.n]) rfl (show Elems _ _ (.int .i64) ([.int .i64 0] ++ ([.int .i64 2] ++ ([.int .i64 1] ++ ([])))) ([0, 2, 1] : List Int) from Elems.cons (⟨rfl, I64.wr (show I64 0 from by unfold I64; omega)⟩) (Elems.cons (⟨rfl, I64.wr (show I64 2 from by unfold I64; omega)⟩) (Elems.cons (⟨rfl, I64.wr (show I64 1 from by unfold I64; omega)⟩) (Elems.nil _ _ _))))) ?_
 rintro _ w49 ⟨A45, c46, rfl, hl47, hc48, hC, hF, hN⟩
 clear hF hN
 obtain ⟨y51, h52, hb⟩ := bd hb
 refine lex.gcl (want_t rfl rfl (show _ = Value.bool (decide (y15.2 = 0)) from rfl) hq44) (⟨_, _, op_call (vs := [.slice A17 y15.1.length c19, .slice A45 ((([0, 2, 1] : List Int)).length) c46]) Try.call21 rfl rfl rfl, slices_Equal_Perm_int_ok n (hC.lentLt [.slice A17 y15.1.length c19, .slice A45 ((([0, 2, 1] : List Int)).length) c46]) ((hC.ow (i := 3) rfl).lend (vs := [.slice A17 y15.1.length c19, .slice A45 ((([0, 2, 1] : List Int)).length) c46]) (by simp)) ((hC.ow (i := 0) rfl).lend (vs := [.slice A17 y15.1.length c19, .slice A45 ((([0, 2, 1] : List Int)).length) c46]) (by simp)) h52⟩) ?_
 rintro _ w53 ⟨rfl, hK⟩
 replace hC := hC.mergeF hK rfl
 clear hK
 refine lp (.bool y51) (pu_pickT (q := (decide (y15.2 = 0))) rfl hq44 rfl) ?_
 refine lp (.bool y51) (pu_move rfl) ?_
 rcases bS y51 with hq54 | hq54
 replace hb := tt hq54 hb
 refine lex.gop (want_t rfl rfl (show _ = Value.bool y51 from rfl) hq54) (hC.lit (s := (.int .i64)) (vs := [.int .i64 2, .int .i64 1, .int .i64 0, .int .i64 4, .int .i64 3]) (xs := [2, 1, 0, 4, 3]) Try.underlying29 Try.type3 rfl rfl (Nat.le_of_ble_eq_true rfl) rfl rfl (by simp [Value.cells, Sh.n]) rfl (show Elems _ _ (.int .i64) ([.int .i64 2] ++ ([.int .i64 1] ++ ([.int .i64 0] ++ ([.int .i64 4] ++ ([.int .i64 3] ++ ([])))))) ([2, 1, 0, 4, 3] : List Int) from Elems.cons (⟨rfl, I64.wr (show I64 2 from by unfold I64; omega)⟩) (Elems.cons (⟨rfl, I64.wr (show I64 1 from by unfold I64; omega)⟩) (Elems.cons (⟨rfl, I64.wr (show I64 0 from by unfold I64; omega)⟩) (Elems.cons (⟨rfl, I64.wr (show I64 4 from by unfold I64; omega)⟩) (Elems.cons (⟨rfl, I64.wr (show I64 3 from by unfold I64; omega)⟩) (Elems.nil _ _ _))))))) ?_
 rintro _ w59 ⟨A55, c56, rfl, hl57, hc58, hC, hF, hN⟩
 clear hF hN
 obtain ⟨y61, h62, hb⟩ := bd hb
 refine lex.gcl (want_t rfl rfl (show _ = Value.bool y51 from rfl) hq54) (⟨_, _, op_call (vs := [.slice A55 ((([2, 1, 0, 4, 3] : List Int)).length) c56]) Try.call25 rfl rfl rfl, perm_Type_ok n (hC.lentLt [.slice A55 ((([2, 1, 0, 4, 3] : List Int)).length) c56]) ((hC.ow (i := 0) rfl).lend (vs := [.slice A55 ((([2, 1, 0, 4, 3] : List Int)).length) c56]) (by simp)) h62⟩) ?_
 rintro _ w67 ⟨A63, m64, c65, rfl, hK⟩
 replace hC := hC.mergeF hK rfl
 clear hK
 obtain ⟨rfl, hl68, hc69⟩ := (hC.ow (i := 0) rfl).sl_len
 refine lex.gop (want_t rfl rfl (show _ = Value.bool y51 from rfl) hq54) (hC.lit (s := (.int .i64)) (vs := [.int .i64 2, .int .i64 2, .int .i64 1]) (xs := [2, 2, 1]) Try.underlying28 Try.type3 rfl rfl (Nat.le_of_ble_eq_true rfl) rfl rfl (by simp [Value.cells, Sh.n]) rfl (show Elems _ _ (.int .i64) ([.int .i64 2] ++ ([.int .i64 2] ++ ([.int .i64 1] ++ ([])))) ([2, 2, 1] : List Int) from Elems.cons (⟨rfl, I64.wr (show I64 2 from by unfold I64; omega)⟩) (Elems.cons (⟨rfl, I64.wr (show I64 2 from by unfold I64; omega)⟩) (Elems.cons (⟨rfl, I64.wr (show I64 1 from by unfold I64; omega)⟩) (Elems.nil _ _ _))))) ?_
 rintro _ w74 ⟨A70, c71, rfl, hl72, hc73, hC, hF, hN⟩
 clear hF hN
 obtain ⟨y76, h77, hb⟩ := bd hb
 refine lex.gcl (want_t rfl rfl (show _ = Value.bool y51 from rfl) hq54) (⟨_, _, op_call (vs := [.slice A63 y61.length c65, .slice A70 ((([2, 2, 1] : List Int)).length) c71]) Try.call29 rfl rfl rfl, slices_Equal_Lint_int_ok n (hC.lentLt [.slice A63 y61.length c65, .slice A70 ((([2, 2, 1] : List Int)).length) c71]) ((hC.ow (i := 1) rfl).lend (vs := [.slice A63 y61.length c65, .slice A70 ((([2, 2, 1] : List Int)).length) c71]) (by simp)) ((hC.ow (i := 0) rfl).lend (vs := [.slice A63 y61.length c65, .slice A70 ((([2, 2, 1] : List Int)).length) c71]) (by simp)) h77⟩) ?_
 rintro _ w78 ⟨rfl, hK⟩
 replace hC := hC.mergeF hK rfl
 clear hK
 refine lp (.bool y76) (pu_pickT (q := y51) rfl hq54 rfl) ?_
 refine lp (.bool y76) (pu_move rfl) ?_
 rcases bS y76 with hq79 | hq79
 replace hb := tt hq79 hb
 refine gp rfl rfl y76 rfl hq79 (.int .i64 y32.2) (pu_move e4) ?_
 refine gp rfl rfl y76 rfl hq79 (.bool (decide (y32.2 = 0))) (pu_eql (k := .i64) (a := y32.2) (b := 0) rfl rfl) ?_
 refine lp (.bool (decide (y32.2 = 0))) (pu_pickT (q := y76) rfl hq79 rfl) ?_
 refine lp (.bool (decide (y32.2 = 0))) (pu_move rfl) ?_
 rcases bS (decide (y32.2 = 0)) with hq80 | hq80
 replace hb := tt hq80 hb
 refine gp rfl rfl (decide (y32.2 = 0)) rfl hq80 (.slice A34 y32.1.length c36) (pu_move e3) ?_
 refine gp rfl rfl (decide (y32.2 = 0)) rfl hq80 (.int .i64 (y32.1.length : Int)) (pu_len (A := A34) (n := y32.1.length) (m := c36) Try.underlying32 rfl) ?_
 refine gp rfl rfl (decide (y32.2 = 0)) rfl hq80 (.bool (decide ((y32.1.length : Int) = 3))) (pu_eql (k := .i64) (a := (y32.1.length : Int)) (b := 3) rfl rfl) ?_
 refine lp (.bool (decide ((y32.1.length : Int) = 3))) (pu_pickT (q := (decide (y32.2 = 0))) rfl hq80 rfl) ?_
 refine lp (.bool (decide ((y32.1.length : Int) = 3))) (pu_move rfl) ?_
 rcases bS (decide ((y32.1.length : Int) = 3)) with hq81 | hq81
 replace hb := tt hq81 hb
 refine gp rfl rfl (decide ((y32.1.length : Int) = 3)) rfl hq81 (.slice A34 y32.1.length c36) (pu_move e3) ?_
 obtain ⟨x82, h83, hb⟩ := bd hb
 obtain ⟨ad84, cs85, hA, hc86, hr87⟩ := hC.elo (i := 4) rfl (get_some h83).2
 subst hA
 refine gp rfl rfl (decide ((y32.1.length : Int) = 3)) rfl hq81 (.pointer (some (ad84.add ((2 : Int).toNat * 1)))) (pu_index (a := 2) Try.underlying32 Try.sizeOf29 rfl rfl (get_some h83).1) ?_
 have hR := hr87
 obtain ⟨A88, c89, rfl, hl90, hc91, _⟩ := hr87
 replace hC := hC.ro hR
 clear hR
 refine gv rfl rfl (decide ((y32.1.length : Int) = 3)) rfl hq81 (.slice A88 x82.length c89) (ld_one Try.isAgg29 rfl (hc86 0 _ rfl)) ?_
 refine lex.gop (want_t rfl rfl (show _ = Value.bool (decide ((y32.1.length : Int) = 3)) from rfl) hq81) (hC.lit (s := (.int .i64)) (vs := [.int .i64 2, .int .i64 1, .int .i64 0]) (xs := [2, 1, 0]) Try.underlying29 Try.type3 rfl rfl (Nat.le_of_ble_eq_true rfl) rfl rfl (by simp [Value.cells, Sh.n]) rfl (show Elems _ _ (.int .i64) ([.int .i64 2] ++ ([.int .i64 1] ++ ([.int .i64 0] ++ ([])))) ([2, 1, 0] : List Int) from Elems.cons (⟨rfl, I64.wr (show I64 2 from by unfold I64; omega)⟩) (Elems.cons (⟨rfl, I64.wr (show I64 1 from by unfold I64; omega)⟩) (Elems.cons (⟨rfl, I64.wr (show I64 0 from by unfold I64; omega)⟩) (Elems.nil _ _ _))))) ?_
 rintro _ w97 ⟨A93, c94, rfl, hl95, hc96, hC, hF, hN⟩
 clear hF hN
 obtain ⟨y99, h100, hb⟩ := bd hb
 refine lex.gcl (want_t rfl rfl (show _ = Value.bool (decide ((y32.1.length : Int) = 3)) from rfl) hq81) (⟨_, _, op_call (vs := [.slice A88 x82.length c89, .slice A93 ((([2, 1, 0] : List Int)).length) c94]) Try.call21 rfl rfl rfl, slices_Equal_Perm_int_ok n (hC.lentLt [.slice A93 ((([2, 1, 0] : List Int)).length) c94]) ((hC.rd (i := 1) rfl).lent [.slice A93 ((([2, 1, 0] : List Int)).length) c94]) ((hC.ow (i := 0) rfl).lend (vs := [.slice A93 ((([2, 1, 0] : List Int)).length) c94]) (by simp)) h100⟩) ?_
 rintro _ w101 ⟨rfl, hK⟩
 replace hC := hC.mergeF hK rfl
 clear hK
 refine lp (.bool y99) (pu_pickT (q := (decide ((y32.1.length : Int) = 3))) rfl hq81 rfl) ?_
 refine lp (.bool y99) (pu_assign rfl) ?_
 refine ln ?_
 refine hK43 _ _ ?_
 obtain rfl := os hb
 refine Wc.ret ?_
 refine hKR _ _ ?_
 refine ⟨_, res1 Try.results10 (show RV _ _ _ (.tmp _) (.bool y99) from rfl), _, rfl, rfl, hC.sel [] (by decide)⟩
 replace hb := tf hq81 hb
 refine gs rfl rfl (decide ((y32.1.length : Int) = 3)) rfl hq81 ?_
 refine gs rfl rfl (decide ((y32.1.length : Int) = 3)) rfl hq81 ?_
 refine gs rfl rfl (decide ((y32.1.length : Int) = 3)) rfl hq81 ?_
 refine gs rfl rfl (decide ((y32.1.length : Int) = 3)) rfl hq81 ?_
 refine gs rfl rfl (decide ((y32.1.length : Int) = 3)) rfl hq81 ?_
 refine lp (.bool false) (pu_pickF (q := (decide ((y32.1.length : Int) = 3))) rfl hq81 rfl) ?_
 refine lp (.bool false) (pu_assign rfl) ?_
 refine ln ?_
 refine hK43 _ _ ?_
 obtain rfl := os hb
 refine Wc.ret ?_
 refine hKR _ _ ?_
 refine ⟨_, res1 Try.results10 (show RV _ _ _ (.tmp _) (.bool false) from rfl), _, rfl, rfl, hC.sel [] (by decide)⟩
 replace hb := tf hq80 hb
 refine gs rfl rfl (decide (y32.2 = 0)) rfl hq80 ?_
 refine gs rfl rfl (decide (y32.2 = 0)) rfl hq80 ?_
 refine gs rfl rfl (decide (y32.2 = 0)) rfl hq80 ?_
 refine lp (.bool false) (pu_pickF (q := (decide (y32.2 = 0))) rfl hq80 rfl) ?_
 refine lp (.bool false) (pu_move rfl) ?_
 refine gs rfl rfl false rfl rfl ?_
 refine gs rfl rfl false rfl rfl ?_
 refine gs rfl rfl false rfl rfl ?_
 refine gs rfl rfl false rfl rfl ?_
 refine gs rfl rfl false rfl rfl ?_
 refine lp (.bool false) (pu_pickF (q := false) rfl rfl rfl) ?_
 refine lp (.bool false) (pu_assign rfl) ?_
 refine ln ?_
 refine hK43 _ _ ?_
 obtain rfl := os hb
 refine Wc.ret ?_
 refine hKR _ _ ?_
 refine ⟨_, res1 Try.results10 (show RV _ _ _ (.tmp _) (.bool false) from rfl), _, rfl, rfl, hC.sel [] (by decide)⟩
 replace hb := tf hq79 hb
 refine gs rfl rfl y76 rfl hq79 ?_
 refine gs rfl rfl y76 rfl hq79 ?_
 refine lp (.bool false) (pu_pickF (q := y76) rfl hq79 rfl) ?_
 refine lp (.bool false) (pu_move rfl) ?_
 refine gs rfl rfl false rfl rfl ?_
 refine gs rfl rfl false rfl rfl ?_
 refine gs rfl rfl false rfl rfl ?_
 refine lp (.bool false) (pu_pickF (q := false) rfl rfl rfl) ?_
 refine lp (.bool false) (pu_move rfl) ?_
 refine gs rfl rfl false rfl rfl ?_
 refine gs rfl rfl false rfl rfl ?_
 refine gs rfl rfl false rfl rfl ?_
 refine gs rfl rfl false rfl rfl ?_
 refine gs rfl rfl false rfl rfl ?_
 refine lp (.bool false) (pu_pickF (q := false) rfl rfl rfl) ?_
 refine lp (.bool false) (pu_assign rfl) ?_
 refine ln ?_
 refine hK43 _ _ ?_
 obtain rfl := os hb
 refine Wc.ret ?_
 refine hKR _ _ ?_
 refine ⟨_, res1 Try.results10 (show RV _ _ _ (.tmp _) (.bool false) from rfl), _, rfl, rfl, hC.sel [] (by decide)⟩
 replace hb := tf hq54 hb
 refine gs rfl rfl y51 rfl hq54 ?_
 refine gs rfl rfl y51 rfl hq54 ?_
 refine gs rfl rfl y51 rfl hq54 ?_
 refine gs rfl rfl y51 rfl hq54 ?_
 refine lp (.bool false) (pu_pickF (q := y51) rfl hq54 rfl) ?_
 refine lp (.bool false) (pu_move rfl) ?_
 refine gs rfl rfl false rfl rfl ?_
 refine gs rfl rfl false rfl rfl ?_
 refine lp (.bool false) (pu_pickF (q := false) rfl rfl rfl) ?_
 refine lp (.bool false) (pu_move rfl) ?_
 refine gs rfl rfl false rfl rfl ?_
 refine gs rfl rfl false rfl rfl ?_
 refine gs rfl rfl false rfl rfl ?_
 refine lp (.bool false) (pu_pickF (q := false) rfl rfl rfl) ?_
 refine lp (.bool false) (pu_move rfl) ?_
 refine gs rfl rfl false rfl rfl ?_
 refine gs rfl rfl false rfl rfl ?_
 refine gs rfl rfl false rfl rfl ?_
 refine gs rfl rfl false rfl rfl ?_
 refine gs rfl rfl false rfl rfl ?_
 refine lp (.bool false) (pu_pickF (q := false) rfl rfl rfl) ?_
 refine lp (.bool false) (pu_assign rfl) ?_
 refine ln ?_
 refine hK43 _ _ ?_
 obtain rfl := os hb
 refine Wc.ret ?_
 refine hKR _ _ ?_
 refine ⟨_, res1 Try.results10 (show RV _ _ _ (.tmp _) (.bool false) from rfl), _, rfl, rfl, hC.sel [] (by decide)⟩
 replace hb := tf hq44 hb
 refine gs rfl rfl (decide (y15.2 = 0)) rfl hq44 ?_
 refine gs rfl rfl (decide (y15.2 = 0)) rfl hq44 ?_
 refine gs rfl rfl (decide (y15.2 = 0)) rfl hq44 ?_
 refine lp (.bool false) (pu_pickF (q := (decide (y15.2 = 0))) rfl hq44 rfl) ?_
 refine lp (.bool false) (pu_move rfl) ?_
 refine gs rfl rfl false rfl rfl ?_
 refine gs rfl rfl false rfl rfl ?_
 refine gs rfl rfl false rfl rfl ?_
 refine gs rfl rfl false rfl rfl ?_
 refine lp (.bool false) (pu_pickF (q := false) rfl rfl rfl) ?_
 refine lp (.bool false) (pu_move rfl) ?_
 refine gs rfl rfl false rfl rfl ?_
 refine gs rfl rfl false rfl rfl ?_
 refine lp (.bool false) (pu_pickF (q := false) rfl rfl rfl) ?_
 refine lp (.bool false) (pu_move rfl) ?_
 refine gs rfl rfl false rfl rfl ?_
 refine gs rfl rfl false rfl rfl ?_
 refine gs rfl rfl false rfl rfl ?_
 refine lp (.bool false) (pu_pickF (q := false) rfl rfl rfl) ?_
 refine lp (.bool false) (pu_move rfl) ?_
 refine gs rfl rfl false rfl rfl ?_
 refine gs rfl rfl false rfl rfl ?_
 refine gs rfl rfl false rfl rfl ?_
 refine gs rfl rfl false rfl rfl ?_
 refine gs rfl rfl false rfl rfl ?_
 refine lp (.bool false) (pu_pickF (q := false) rfl rfl rfl) ?_
 refine lp (.bool false) (pu_assign rfl) ?_
 refine ln ?_
 refine hK43 _ _ ?_
 obtain rfl := os hb
 refine Wc.ret ?_
 refine hKR _ _ ?_
 refine ⟨_, res1 Try.results10 (show RV _ _ _ (.tmp _) (.bool false) from rfl), _, rfl, rfl, hC.sel [] (by decide)⟩
end Go.Proofs.Ytmlkiafidahnbaa
