/- The walks: part 21. -/
import Derived.Test.YtmlkiafidahnbaaS
import Derived.Test.YtmlkiafidahnbaaG0
import Derived.Test.YtmlkiafidahnbaaG13
import Derived.Test.YtmlkiafidahnbaaG20
set_option linter.unusedVariables false
set_option linter.unusedSimpArgs false
namespace Go.Proofs.Ytmlkiafidahnbaa
open Ev
set_option maxRecDepth 100000 in
set_option maxHeartbeats 4000000 in
theorem perm_Conjugation_ok (n : Nat) {w : World} {O0 : List Nat} (hO : ∀ k ∈ O0, k < w.heap.size) {Al_0 : Option Addr} {ml_0 cl_0 : Nat} {l_0 : List (List Int)} (hl_0 : Rep O0 w (.sl (.sl (.int .i64))) [.slice Al_0 ml_0 cl_0] l_0) {r : (List (List Int)) × Int} (hb : F.perm_Conjugation n l_0 = some r) :
    Calls Try.prog 35 #[.slice Al_0 ml_0 cl_0] w fun e w' => ∃ v, e = .returned v ∧ ∃ (A0 : Option Addr) (m0 c0 : Nat), v = .tuple #[.agg #[.slice A0 m0 c0], .int .i64 r.2] ∧ I64 r.2 ∧ Cx (fun _ => False) O0 w w' [.own 28 (.sl (.int .i64)) (.slice A0 m0 c0) r.1] := by
 unfold F.perm_Conjugation at hb
 have hC := Cx.start hO
 replace hC := hC.arg rfl hl_0
 clear hO
 obtain ⟨rfl, hll_0, hcl_0⟩ := hl_0.sl_len
 refine calls_of_Wc Try.func35 rfl (by rw [Try.ntmps35]; exact Nat.le_of_ble_eq_true rfl) fun KR hKR => ?_
 refine Wc.seq fun K2 hK2 => ?_
 refine rg ?_
 refine lex.op (hC.alloc (cs := [.slice none 0 0]) Try.zeroValue58 rfl) ?_
 rintro _ w4 ⟨g3, rfl, hC, hF, hG⟩
 clear hG
 refine lp (.int .i64 0) (pu_assign rfl) ?_
 refine ln ?_
 refine hK2 _ _ ?_
 refine Wc.seq fun K6 hK6 => ?_
 refine Wc.seq fun K7 hK7 => ?_
 refine rg ?_
 refine lp (.slice Al_0 l_0.length cl_0) (pu_move rfl) ?_
 refine lp (.int .i64 (l_0.length : Int)) (pu_len (A := Al_0) (n := l_0.length) (m := cl_0) Try.underlying32 rfl) ?_
 refine lp (.bool (decide ((l_0.length : Int) = 0))) (pu_eql (k := .i64) (a := (l_0.length : Int)) (b := 0) rfl rfl) ?_
 refine ln ?_
 refine hK7 _ _ ?_
 refine Wc.cond (t := (decide ((l_0.length : Int) = 0))) (rfl) (fun hq8 => ?_) (fun hq8 => ?_)
 replace hb := tt hq8 hb
 refine Wc.seq fun K9 hK9 => ?_
 refine rg ?_
 refine lp (.agg #[.slice none 0 0]) (pu_builds (places := [(0, 1)]) (pv := []) Try.type58 Try.underlying58 rfl (mp_cons Try.type23 mp_nil rfl rfl) rfl (by simp [Instr.fill, Value.cells])) ?_
 refine lex.sk (hC.seta (i := 0) (ds := [.slice none 0 0]) rfl Try.type58 rfl rfl rfl rfl rfl) ?_
 rintro w10 ⟨hC, hF⟩
 refine lp (.int .i64 1) (pu_assign rfl) ?_
 refine ln ?_
 refine hK9 _ _ ?_
 replace hC := hC.nil 28 (.sl (.int .i64))
 obtain rfl := os hb
 refine Wc.ret ?_
 refine hKR _ _ ?_
 refine ⟨_, res2 Try.results35 ⟨_, rfl, loadVar_blk (hC.bx (i := 1) rfl) Try.isAgg58 Try.sizeOf58⟩ (show RV _ _ _ (.tmp _) (.int .i64 1) from rfl), _, rfl, none, 0, 0, rfl, (show I64 1 from by unfold I64; omega), hC.sel [0] (by decide)⟩
 replace hb := tf hq8 hb
 refine Wc.skip ?_
 refine hK6 _ _ ?_
 refine Wc.seq fun K12 hK12 => ?_
 refine Wc.seq fun K13 hK13 => ?_
 refine rg ?_
 refine lp (.slice Al_0 l_0.length cl_0) (pu_move rfl) ?_
 refine lp (.int .i64 (l_0.length : Int)) (pu_len (A := Al_0) (n := l_0.length) (m := cl_0) Try.underlying32 rfl) ?_
 refine lp (.int .i64 0) (pu_move rfl) ?_
 refine ln ?_
 refine hK13 _ _ ?_
 obtain ⟨o14, hl0, hb⟩ := bd hb
 refine Wc.cut (fun E wv => ∃ (v32_0 : Int), E 0 = .slice Al_0 l_0.length cl_0 ∧ E 2 = .pointer (some ⟨g3, 0, none⟩) ∧ E 3 = .int .i64 0 ∧ I64 v32_0 ∧ Cx (fun _ => False) O0 w wv [.ro (.sl (.sl (.int .i64))) [.slice Al_0 l_0.length cl_0] l_0, .box g3 58 [.slice none 0 0]] ∧ (((loopN n (F.perm_Conjugation_b1 n l_0) (0, ([] : List (List Int × Int)))).bind fun o71 => match o71 with     | (.inl (v55_1, qf68_1)) => (pos (l_0.length : Int)).bind fun u116 => ((loopN n (F.perm_Conjugation_b2 n l_0) (0, (List.replicate (l_0.length : Int).toNat ([] : List Int)))).bind fun o126 => match o126 with     | (v79_2, qf123_2) => (get l_0 0).bind fun x170 => (pos (x170.length : Int)).bind fun u181 => ((loopN n (F.perm_Conjugation_b3 n l_0 qf68_1 qf123_2) (([] : List (List Int)), 0, (List.replicate (x170.length : Int).toNat (0 : Int)))).bind fun o194 => match o194 with     | (.inl (l16_3, v97_3, qf188_3)) => some (l16_3, 0)     | (.inr q) => some q))     | (.inr q) => some q) : Option ((List (List Int)) × Int)) = some r) (fun K15 hK15 => ?_) ?_
 refine Wc.block ?_
 refine Wc.loop (fun m E wv => ∃ (v32_0 : Int), E 0 = .slice Al_0 l_0.length cl_0 ∧ E 2 = .pointer (some ⟨g3, 0, none⟩) ∧ E 3 = .int .i64 0 ∧ E 30 = .slice Al_0 l_0.length cl_0 ∧ E 31 = .int .i64 (l_0.length : Int) ∧ E 32 = .int .i64 v32_0 ∧ I64 v32_0 ∧ Cx (fun _ => False) O0 w wv [.ro (.sl (.sl (.int .i64))) [.slice Al_0 l_0.length cl_0] l_0, .box g3 58 [.slice none 0 0]] ∧ loopN m (F.perm_Conjugation_b0 n l_0) v32_0 = some o14) n ⟨0, rfl, rfl, rfl, rfl, rfl, rfl, (show I64 0 from by unfold I64; omega), hC.sel [1, 0] (by decide), hl0⟩ ?_
 have hbK0 := hb
 clear hb hC hl0
 rintro m17 E19 w18 ⟨v32_0, e0, e2, e3, e30, e31, e32, hrv32_0, hC, hl0⟩ K16 hK16
 obtain ⟨m17', o20, rfl, hb, hl0⟩ := loopN_some hl0
 unfold F.perm_Conjugation_b0 at hb
 refine Wc.seq fun K21 hK21 => ?_
 refine rg ?_
 refine lp (.bool (decide (v32_0 < (l_0.length : Int)))) (pu_lss (k := .i64) (a := v32_0) (b := (l_0.length : Int)) e32 e31) ?_
 refine ln ?_
 refine hK21 _ _ ?_
 refine Wc.seq fun K22 hK22 => ?_
 refine Wc.cond (t := (decide (v32_0 < (l_0.length : Int)))) (rfl) (fun hq23 => ?_) (fun hq23 => ?_)
 replace hb := tt hq23 hb
 refine Wc.skip ?_
 refine hK22 _ _ ?_
 refine Wc.seq fun K24 hK24 => ?_
 refine Wc.block ?_
 refine Wc.seq fun K25 hK25 => ?_
 refine rg ?_
 obtain ⟨x26, h27, hb⟩ := bd hb
 obtain ⟨ad28, cs29, hA, hc30, hr31⟩ := hC.elr (i := 0) rfl (get_some h27).2
 subst hA
 refine lp (.pointer (some (ad28.add (v32_0.toNat * 1)))) (pu_index (a := v32_0) Try.underlying32 Try.sizeOf29 e30 e32 (get_some h27).1) ?_
 have hR := hr31
 obtain ⟨A32, c33, rfl, hl34, hc35, _⟩ := hr31
 replace hC := hC.ro hR
 clear hR
 refine lv (.slice A32 x26.length c33) (ld_one Try.isAgg29 rfl (hc30 0 _ rfl)) ?_
 refine lp (.slice A32 x26.length c33) (pu_assign rfl) ?_
 refine ln ?_
 refine hK25 _ _ ?_
 refine Wc.seq fun K37 hK37 => ?_
 refine rg ?_
 refine lp (.slice A32 x26.length c33) (pu_move rfl) ?_
 obtain ⟨y38, h39, hb⟩ := bd hb
 refine lex.cl (⟨_, _, op_call (vs := [.slice A32 x26.length c33]) Try.call19 rfl rfl rfl, perm_Valid_ok n hC.lt (hC.rd (i := 0) rfl) h39⟩) ?_
 rintro _ w40 ⟨rfl, hK⟩
 replace hC := hC.merge hK
 clear hK
 refine lp (.bool (!y38)) (pu_not (q := y38) rfl) ?_
 refine lp (.bool (!y38)) (pu_move rfl) ?_
 rcases bS (!y38) with hq41 | hq41
 replace hb := tt hq41 hb
 refine gs rfl rfl (!y38) rfl hq41 ?_
 refine gs rfl rfl (!y38) rfl hq41 ?_
 refine gs rfl rfl (!y38) rfl hq41 ?_
 refine gs rfl rfl (!y38) rfl hq41 ?_
 refine gs rfl rfl (!y38) rfl hq41 ?_
 refine gs rfl rfl (!y38) rfl hq41 ?_
 refine gs rfl rfl (!y38) rfl hq41 ?_
 refine lp (.bool true) (pu_pickT (q := (!y38)) rfl hq41 rfl) ?_
 refine ln ?_
 refine hK37 _ _ ?_
 refine Wc.cond_true (rfl) ?_
 refine Wc.seq fun K42 hK42 => ?_
 refine rg ?_
 refine lp (.agg #[.slice none 0 0]) (pu_builds (places := [(0, 1)]) (pv := []) Try.type58 Try.underlying58 rfl (mp_cons Try.type23 mp_nil rfl rfl) rfl (by simp [Instr.fill, Value.cells])) ?_
 refine lex.sk (hC.seta (i := 2) (ds := [.slice none 0 0]) rfl Try.type58 rfl rfl rfl e2 rfl) ?_
 rintro w43 ⟨hC, hF⟩
 refine lp (.int .i64 1) (pu_assign rfl) ?_
 refine ln ?_
 refine hK42 _ _ ?_
 obtain rfl := os hb
 obtain rfl := (lX hl0).symm
 replace hb := hbK0
 replace hC := hC.nil 28 (.sl (.int .i64))
 obtain rfl := os hb
 refine Wc.ret ?_
 refine hKR _ _ ?_
 refine ⟨_, res2 Try.results35 ⟨_, e2, loadVar_blk (hC.bx (i := 3) rfl) Try.isAgg58 Try.sizeOf58⟩ (show RV _ _ _ (.tmp _) (.int .i64 1) from rfl), _, rfl, none, 0, 0, rfl, (show I64 1 from by unfold I64; omega), hC.sel [0] (by decide)⟩
 replace hb := tf hq41 hb
 refine gp rfl rfl (!y38) rfl hq41 (.slice A32 x26.length c33) (pu_move rfl) ?_
 refine gp rfl rfl (!y38) rfl hq41 (.int .i64 (x26.length : Int)) (pu_len (A := A32) (n := x26.length) (m := c33) Try.underlying29 rfl) ?_
 refine gp rfl rfl (!y38) rfl hq41 (.slice (some ad28) l_0.length cl_0) (pu_move e0) ?_
 obtain ⟨x45, h46, hb⟩ := bd hb
 obtain ⟨ad47, cs48, hA, hc49, hr50⟩ := hC.elr (i := 1) rfl (get_some h46).2
 obtain rfl := Option.some.inj hA
 refine gp rfl rfl (!y38) rfl hq41 (.pointer (some (ad28.add ((0 : Int).toNat * 1)))) (pu_index (a := 0) Try.underlying32 Try.sizeOf29 rfl rfl (get_some h46).1) ?_
 have hR := hr50
 obtain ⟨A51, c52, rfl, hl53, hc54, _⟩ := hr50
 replace hC := hC.ro hR
 clear hR
 refine gv rfl rfl (!y38) rfl hq41 (.slice A51 x45.length c52) (ld_one Try.isAgg29 rfl (hc49 0 _ rfl)) ?_
 refine gp rfl rfl (!y38) rfl hq41 (.int .i64 (x45.length : Int)) (pu_len (A := A51) (n := x45.length) (m := c52) Try.underlying29 rfl) ?_
 refine gp rfl rfl (!y38) rfl hq41 (.bool (!(decide ((x26.length : Int) = (x45.length : Int))))) (pu_neq (k := .i64) (a := (x26.length : Int)) (b := (x45.length : Int)) rfl rfl) ?_
 refine lp (.bool (!(decide ((x26.length : Int) = (x45.length : Int))))) (pu_pickF (q := (!y38)) rfl hq41 rfl) ?_
 refine ln ?_
 refine hK37 _ _ ?_
 refine Wc.fresh fun E56 hE => ?_
 have e0 := (congrFun hE 0).trans e0
 have e2 := (congrFun hE 2).trans e2
 have e3 := (congrFun hE 3).trans e3
 have e5 : E56 5 = .slice A32 x26.length c33 := (congrFun hE 5).trans rfl
 have e30 := (congrFun hE 30).trans e30
 have e31 := (congrFun hE 31).trans e31
 have e32 := (congrFun hE 32).trans e32
 have e33 : E56 33 = .bool (decide (v32_0 < (l_0.length : Int))) := (congrFun hE 33).trans rfl
 have e47 : E56 47 = .bool (!(decide ((x26.length : Int) = (x45.length : Int)))) := (congrFun hE 47).trans rfl
 clear hE
 refine Wc.cond (t := (!(decide ((x26.length : Int) = (x45.length : Int))))) (e47) (fun hq57 => ?_) (fun hq57 => ?_)
 replace hb := tt hq57 hb
 refine Wc.seq fun K58 hK58 => ?_
 refine rg ?_
 refine lp (.agg #[.slice none 0 0]) (pu_builds (places := [(0, 1)]) (pv := []) Try.type58 Try.underlying58 rfl (mp_cons Try.type23 mp_nil rfl rfl) rfl (by simp [Instr.fill, Value.cells])) ?_
 refine lex.sk (hC.seta (i := 3) (ds := [.slice none 0 0]) rfl Try.type58 rfl rfl rfl e2 rfl) ?_
 rintro w59 ⟨hC, hF⟩
 refine lp (.int .i64 1) (pu_assign rfl) ?_
 refine ln ?_
 refine hK58 _ _ ?_
 obtain rfl := os hb
 obtain rfl := (lX hl0).symm
 replace hb := hbK0
 replace hC := hC.nil 28 (.sl (.int .i64))
 obtain rfl := os hb
 refine Wc.ret ?_
 refine hKR _ _ ?_
 refine ⟨_, res2 Try.results35 ⟨_, e2, loadVar_blk (hC.bx (i := 4) rfl) Try.isAgg58 Try.sizeOf58⟩ (show RV _ _ _ (.tmp _) (.int .i64 1) from rfl), _, rfl, none, 0, 0, rfl, (show I64 1 from by unfold I64; omega), hC.sel [0] (by decide)⟩
 replace hb := tf hq57 hb
 refine Wc.skip ?_
 refine hK24 _ _ ?_
 refine rg ?_
 obtain ⟨z61, h62, hb⟩ := bd hb
 refine lp (.int .i64 z61) (pu_addc (a := v32_0) (b := 1) e32 rfl h62) ?_
 refine lp (.int .i64 z61) (pu_move rfl) ?_
 refine ln ?_
 obtain rfl := os hb
 exact hK16 m17' _ _ (Nat.lt_succ_self _) ⟨z61, e0, e2, e3, e30, e31, rfl, (chk_rng h62), hC.sel [2, 3] (by decide), lN hl0⟩
 replace hb := tf hq23 hb
 refine Wc.exit rfl ?_
 obtain rfl := os hb
 obtain rfl := (lX hl0).symm
 exact hK15 _ _ ⟨v32_0, e0, e2, e3, hrv32_0, hC.sel [0, 1] (by decide), hbK0⟩
 clear hb hC hl0
 rintro E64 w63 ⟨v32_0, e0, e2, e3, hrv32_0, hC, hb⟩
 refine hK12 _ _ ?_
 refine Wc.seq fun K65 hK65 => ?_
 refine rg ?_
 refine lp (.slice Al_0 l_0.length cl_0) (pu_move e0) ?_
 refine lp (.int .i64 (l_0.length : Int)) (pu_len (A := Al_0) (n := l_0.length) (m := cl_0) Try.underlying32 rfl) ?_
 refine lex.op (hC.mksmap Try.underlying66 rfl) ?_
 rintro _ w67 ⟨g66, rfl, hC, hF⟩
 clear hF
 refine lp (.map (some g66)) (pu_assign rfl) ?_
 refine ln ?_
 refine hK65 _ _ ?_
 refine Wc.seq fun K69 hK69 => ?_
 refine Wc.seq fun K70 hK70 => ?_
 refine rg ?_
 refine lp (.slice Al_0 l_0.length cl_0) (pu_move e0) ?_
 refine lp (.int .i64 (l_0.length : Int)) (pu_len (A := Al_0) (n := l_0.length) (m := cl_0) Try.underlying32 rfl) ?_
 refine lp (.int .i64 0) (pu_move rfl) ?_
 refine ln ?_
 refine hK70 _ _ ?_
 obtain ⟨o71, hl1, hb⟩ := bd hb
 refine Wc.cut (fun E wv => ∃ (v55_1 : Int) (qf68_1 : List ((List Int) × Int)), E 0 = .slice Al_0 l_0.length cl_0 ∧ E 2 = .pointer (some ⟨g3, 0, none⟩) ∧ E 3 = .int .i64 0 ∧ E 6 = .map (some g66) ∧ I64 v55_1 ∧ Cx (fun _ => False) O0 w wv [.ro (.sl (.sl (.int .i64))) [.slice Al_0 l_0.length cl_0] l_0, .box g3 58 [.slice none 0 0], .obj g66 (smobj qf68_1)] ∧ ((pos (l_0.length : Int)).bind fun u116 => ((loopN n (F.perm_Conjugation_b2 n l_0) (0, (List.replicate (l_0.length : Int).toNat ([] : List Int)))).bind fun o126 => match o126 with     | (v79_2, qf123_2) => (get l_0 0).bind fun x170 => (pos (x170.length : Int)).bind fun u181 => ((loopN n (F.perm_Conjugation_b3 n l_0 qf68_1 qf123_2) (([] : List (List Int)), 0, (List.replicate (x170.length : Int).toNat (0 : Int)))).bind fun o194 => match o194 with     | (.inl (l16_3, v97_3, qf188_3)) => some (l16_3, 0)     | (.inr q) => some q)) : Option ((List (List Int)) × Int)) = some r) (fun K72 hK72 => ?_) ?_
 refine Wc.block ?_
 refine Wc.loop (fun m E wv => ∃ (v55_1 : Int) (qf68_1 : List ((List Int) × Int)), E 0 = .slice Al_0 l_0.length cl_0 ∧ E 2 = .pointer (some ⟨g3, 0, none⟩) ∧ E 3 = .int .i64 0 ∧ E 6 = .map (some g66) ∧ E 53 = .slice Al_0 l_0.length cl_0 ∧ E 54 = .int .i64 (l_0.length : Int) ∧ E 55 = .int .i64 v55_1 ∧ I64 v55_1 ∧ Cx (fun _ => False) O0 w wv [.ro (.sl (.sl (.int .i64))) [.slice Al_0 l_0.length cl_0] l_0, .box g3 58 [.slice none 0 0], .obj g66 (smobj qf68_1)] ∧ loopN m (F.perm_Conjugation_b1 n l_0) (v55_1, qf68_1) = some o71) n ⟨0, ([] : List (List Int × Int)), e0, e2, e3, rfl, rfl, rfl, rfl, (show I64 0 from by unfold I64; omega), hC.sel [1, 2, 0] (by decide), hl1⟩ ?_
 have hbK1 := hb
 clear hb hC hl1
 rintro m74 E76 w75 ⟨v55_1, qf68_1, e0, e2, e3, e6, e53, e54, e55, hrv55_1, hC, hl1⟩ K73 hK73
 obtain ⟨m74', o77, rfl, hb, hl1⟩ := loopN_some hl1
 unfold F.perm_Conjugation_b1 at hb
 refine Wc.seq fun K78 hK78 => ?_
 refine rg ?_
 refine lp (.bool (decide (v55_1 < (l_0.length : Int)))) (pu_lss (k := .i64) (a := v55_1) (b := (l_0.length : Int)) e55 e54) ?_
 refine ln ?_
 refine hK78 _ _ ?_
 refine Wc.seq fun K79 hK79 => ?_
 refine Wc.cond (t := (decide (v55_1 < (l_0.length : Int)))) (rfl) (fun hq80 => ?_) (fun hq80 => ?_)
 replace hb := tt hq80 hb
 refine Wc.skip ?_
 refine hK79 _ _ ?_
 refine Wc.seq fun K81 hK81 => ?_
 refine Wc.block ?_
 refine Wc.seq fun K82 hK82 => ?_
 refine rg ?_
 refine lp (.int .i64 v55_1) (pu_move e55) ?_
 obtain ⟨x83, h84, hb⟩ := bd hb
 obtain ⟨ad85, cs86, hA, hc87, hr88⟩ := hC.elr (i := 0) rfl (get_some h84).2
 subst hA
 refine lp (.pointer (some (ad85.add (v55_1.toNat * 1)))) (pu_index (a := v55_1) Try.underlying32 Try.sizeOf29 e53 e55 (get_some h84).1) ?_
 have hR := hr88
 obtain ⟨A89, c90, rfl, hl91, hc92, _⟩ := hr88
 replace hC := hC.ro hR
 clear hR
 refine lv (.slice A89 x83.length c90) (ld_one Try.isAgg29 rfl (hc87 0 _ rfl)) ?_
 refine lp (.int .i64 v55_1) (pu_assign rfl) ?_
 refine lp (.slice A89 x83.length c90) (pu_assign rfl) ?_
 refine ln ?_
 refine hK82 _ _ ?_
 refine Wc.seq fun K94 hK94 => ?_
 refine rg ?_
 refine lp (.slice A89 x83.length c90) (pu_move rfl) ?_
 obtain ⟨y95, h96, hb⟩ := bd hb
 refine lex.cl (⟨_, _, op_call (vs := [.slice A89 x83.length c90]) Try.call47 rfl rfl rfl, perm_key_ok n hC.lt (hC.rd (i := 0) rfl) h96⟩) ?_
 rintro _ w97 ⟨rfl, hK⟩
 replace hC := hC.merge hK
 clear hK
 refine lp (.string (bA y95)) (pu_assign rfl) ?_
 refine ln ?_
 refine hK94 _ _ ?_
 refine Wc.seq fun K98 hK98 => ?_
 refine Wc.seq fun K99 hK99 => ?_
 refine rg ?_
 refine lp (.map (some g66)) (pu_move e6) ?_
 refine lp (.string (bA y95)) (pu_move rfl) ?_
 obtain ⟨z100, h101, hb⟩ := bd hb
 refine lv (.tuple #[.int .i64 z100, .bool ((smget qf68_1 y95).isSome)]) (by have h9 := (chk_some h101).1; first | (rw [h9]; exact slk (k := y95) (hC.ob (i := 3) rfl) Try.underlying66 Try.zeroValue3 Try.underlying9 rfl rfl) | (rw [← h9]; exact slk (k := y95) (hC.ob (i := 3) rfl) Try.underlying66 Try.zeroValue3 Try.underlying9 rfl rfl)) ?_
 refine lp (.tuple #[.int .i64 z100, .bool ((smget qf68_1 y95).isSome)]) (pu_move rfl) ?_
 refine lp (.int .i64 z100) (pu_extract rfl rfl) ?_
 refine lp (.bool ((smget qf68_1 y95).isSome)) (pu_extract rfl rfl) ?_
 refine lp (.int .i64 z100) (pu_assign rfl) ?_
 refine lp (.bool ((smget qf68_1 y95).isSome)) (pu_assign rfl) ?_
 refine ln ?_
 refine hK99 _ _ ?_
 refine Wc.fresh fun E102 hE => ?_
 have e0 := (congrFun hE 0).trans e0
 have e2 := (congrFun hE 2).trans e2
 have e3 := (congrFun hE 3).trans e3
 have e6 := (congrFun hE 6).trans e6
 have e7 : E102 7 = .int .i64 v55_1 := (congrFun hE 7).trans rfl
 have e8 : E102 8 = .slice A89 x83.length c90 := (congrFun hE 8).trans rfl
 have e9 : E102 9 = .string (bA y95) := (congrFun hE 9).trans rfl
 have e11 : E102 11 = .bool ((smget qf68_1 y95).isSome) := (congrFun hE 11).trans rfl
 have e53 := (congrFun hE 53).trans e53
 have e54 := (congrFun hE 54).trans e54
 have e55 := (congrFun hE 55).trans e55
 have e56 : E102 56 = .bool (decide (v55_1 < (l_0.length : Int))) := (congrFun hE 56).trans rfl
 clear hE
 refine Wc.seq fun K103 hK103 => ?_
 refine rg ?_
 refine lp (.bool ((smget qf68_1 y95).isSome)) (pu_move e11) ?_
 refine ln ?_
 refine hK103 _ _ ?_
 refine Wc.cond (t := (smget qf68_1 y95).isSome) (rfl) (fun hq104 => ?_) (fun hq104 => ?_)
 replace hb := tt hq104 hb
 refine Wc.seq fun K105 hK105 => ?_
 refine rg ?_
 refine lp (.agg #[.slice none 0 0]) (pu_builds (places := [(0, 1)]) (pv := []) Try.type58 Try.underlying58 rfl (mp_cons Try.type23 mp_nil rfl rfl) rfl (by simp [Instr.fill, Value.cells])) ?_
 refine lex.sk (hC.seta (i := 2) (ds := [.slice none 0 0]) rfl Try.type58 rfl rfl rfl e2 rfl) ?_
 rintro w106 ⟨hC, hF⟩
 refine lp (.int .i64 14) (pu_assign rfl) ?_
 refine ln ?_
 refine hK105 _ _ ?_
 obtain rfl := os hb
 obtain rfl := (lX hl1).symm
 replace hb := hbK1
 replace hC := hC.nil 28 (.sl (.int .i64))
 obtain rfl := os hb
 refine Wc.ret ?_
 refine hKR _ _ ?_
 refine ⟨_, res2 Try.results35 ⟨_, e2, loadVar_blk (hC.bx (i := 3) rfl) Try.isAgg58 Try.sizeOf58⟩ (show RV _ _ _ (.tmp _) (.int .i64 14) from rfl), _, rfl, none, 0, 0, rfl, (show I64 14 from by unfold I64; omega), hC.sel [0] (by decide)⟩
 replace hb := tf hq104 hb
 refine Wc.skip ?_
 refine hK98 _ _ ?_
 refine rg ?_
 refine lp (.map (some g66)) (pu_move e6) ?_
 refine lp (.string (bA y95)) (pu_move e9) ?_
 refine lp (.int .i64 v55_1) (pu_move e7) ?_
 obtain ⟨u108, h109, hb⟩ := bd hb
 refine lex.sk (hC.sput (i := 3) (k := y95) (v := v55_1) rfl (nok_some h109) Try.underlying66 Try.underlying9 rfl rfl rfl) ?_
 rintro w110 ⟨hC, hF⟩
 clear hF
 refine ln ?_
 refine hK81 _ _ ?_
 refine rg ?_
 obtain ⟨z111, h112, hb⟩ := bd hb
 refine lp (.int .i64 z111) (pu_addc (a := v55_1) (b := 1) e55 rfl h112) ?_
 refine lp (.int .i64 z111) (pu_move rfl) ?_
 refine ln ?_
 obtain rfl := os hb
 exact hK73 m74' _ _ (Nat.lt_succ_self _) ⟨z111, (qf68_1 ++ [(y95, v55_1)]), e0, e2, e3, e6, e53, e54, rfl, (chk_rng h112), hC.sel [1, 2, 3] (by decide), lN hl1⟩
 replace hb := tf hq80 hb
 refine Wc.exit rfl ?_
 obtain rfl := os hb
 obtain rfl := (lX hl1).symm
 exact hK72 _ _ ⟨v55_1, qf68_1, e0, e2, e3, e6, hrv55_1, hC.sel [0, 1, 2] (by decide), hbK1⟩
 clear hb hC hl1
 rintro E114 w113 ⟨v55_1, qf68_1, e0, e2, e3, e6, hrv55_1, hC, hb⟩
 refine hK69 _ _ ?_
 refine Wc.seq fun K115 hK115 => ?_
 refine rg ?_
 refine lp (.slice Al_0 l_0.length cl_0) (pu_move e0) ?_
 refine lp (.int .i64 (l_0.length : Int)) (pu_len (A := Al_0) (n := l_0.length) (m := cl_0) Try.underlying32 rfl) ?_
 obtain ⟨u116, h117, hb⟩ := bd hb
 refine lex.op (hC.make (s := (.sl (.int .i64))) (n := (l_0.length : Int)) Try.underlying32 Try.type29 rfl rfl rfl rfl rfl (pos_some h117).1 (pos_some h117).2 (by decide)) ?_
 rintro _ w122 ⟨A118, c119, rfl, hl120, hc121, hC, hF, hN⟩
 clear hF hN
 refine lp (.slice A118 (((List.replicate (l_0.length : Int).toNat ([] : List Int))).length) c119) (pu_assign rfl) ?_
 refine ln ?_
 refine hK115 _ _ ?_
 refine Wc.seq fun K124 hK124 => ?_
 refine Wc.seq fun K125 hK125 => ?_
 refine rg ?_
 refine lp (.slice Al_0 l_0.length cl_0) (pu_move e0) ?_
 refine lp (.int .i64 (l_0.length : Int)) (pu_len (A := Al_0) (n := l_0.length) (m := cl_0) Try.underlying32 rfl) ?_
 refine lp (.int .i64 0) (pu_move rfl) ?_
 refine ln ?_
 refine hK125 _ _ ?_
 obtain ⟨o126, hl2, hb⟩ := bd hb
 refine Wc.cut (fun E wv => ∃ (v79_2 : Int) (qf123_2 : List (List Int)), E 0 = .slice Al_0 l_0.length cl_0 ∧ E 2 = .pointer (some ⟨g3, 0, none⟩) ∧ E 3 = .int .i64 0 ∧ E 6 = .map (some g66) ∧ E 12 = .slice A118 (((List.replicate (l_0.length : Int).toNat ([] : List Int))).length) c119 ∧ I64 v79_2 ∧ Cx (fun _ => False) O0 w wv [.ro (.sl (.sl (.int .i64))) [.slice Al_0 l_0.length cl_0] l_0, .box g3 58 [.slice none 0 0], .obj g66 (smobj qf68_1), .own 29 (.sl (.int .i64)) (.slice A118 (((List.replicate (l_0.length : Int).toNat ([] : List Int))).length) c119) qf123_2] ∧ ((get l_0 0).bind fun x170 => (pos (x170.length : Int)).bind fun u181 => ((loopN n (F.perm_Conjugation_b3 n l_0 qf68_1 qf123_2) (([] : List (List Int)), 0, (List.replicate (x170.length : Int).toNat (0 : Int)))).bind fun o194 => match o194 with     | (.inl (l16_3, v97_3, qf188_3)) => some (l16_3, 0)     | (.inr q) => some q) : Option ((List (List Int)) × Int)) = some r) (fun K127 hK127 => ?_) ?_
 refine Wc.block ?_
 refine Wc.loop (fun m E wv => ∃ (v79_2 : Int) (qf123_2 : List (List Int)), E 0 = .slice Al_0 l_0.length cl_0 ∧ E 2 = .pointer (some ⟨g3, 0, none⟩) ∧ E 3 = .int .i64 0 ∧ E 6 = .map (some g66) ∧ E 12 = .slice A118 (((List.replicate (l_0.length : Int).toNat ([] : List Int))).length) c119 ∧ E 77 = .slice Al_0 l_0.length cl_0 ∧ E 78 = .int .i64 (l_0.length : Int) ∧ E 79 = .int .i64 v79_2 ∧ I64 v79_2 ∧ Cx (fun _ => False) O0 w wv [.ro (.sl (.sl (.int .i64))) [.slice Al_0 l_0.length cl_0] l_0, .box g3 58 [.slice none 0 0], .obj g66 (smobj qf68_1), .own 29 (.sl (.int .i64)) (.slice A118 (((List.replicate (l_0.length : Int).toNat ([] : List Int))).length) c119) qf123_2] ∧ loopN m (F.perm_Conjugation_b2 n l_0) (v79_2, qf123_2) = some o126) n ⟨0, (List.replicate (l_0.length : Int).toNat ([] : List Int)), e0, e2, e3, e6, rfl, rfl, rfl, rfl, (show I64 0 from by unfold I64; omega), hC.sel [1, 2, 3, 0] (by decide), hl2⟩ ?_
 have hbK2 := hb
 clear hb hC hl2
 rintro m129 E131 w130 ⟨v79_2, qf123_2, e0, e2, e3, e6, e12, e77, e78, e79, hrv79_2, hC, hl2⟩ K128 hK128
 obtain ⟨m129', o132, rfl, hb, hl2⟩ := loopN_some hl2
 unfold F.perm_Conjugation_b2 at hb
 refine Wc.seq fun K133 hK133 => ?_
 refine rg ?_
 refine lp (.bool (decide (v79_2 < (l_0.length : Int)))) (pu_lss (k := .i64) (a := v79_2) (b := (l_0.length : Int)) e79 e78) ?_
 refine ln ?_
 refine hK133 _ _ ?_
 refine Wc.seq fun K134 hK134 => ?_
 refine Wc.cond (t := (decide (v79_2 < (l_0.length : Int)))) (rfl) (fun hq135 => ?_) (fun hq135 => ?_)
 replace hb := tt hq135 hb
 refine Wc.skip ?_
 refine hK134 _ _ ?_
 refine Wc.seq fun K136 hK136 => ?_
 refine Wc.block ?_
 refine Wc.seq fun K137 hK137 => ?_
 refine rg ?_
 refine lp (.int .i64 v79_2) (pu_move e79) ?_
 obtain ⟨x138, h139, hb⟩ := bd hb
 obtain ⟨ad140, cs141, hA, hc142, hr143⟩ := hC.elr (i := 0) rfl (get_some h139).2
 subst hA
 refine lp (.pointer (some (ad140.add (v79_2.toNat * 1)))) (pu_index (a := v79_2) Try.underlying32 Try.sizeOf29 e77 e79 (get_some h139).1) ?_
 have hR := hr143
 obtain ⟨A144, c145, rfl, hl146, hc147, _⟩ := hr143
 replace hC := hC.ro hR
 clear hR
 refine lv (.slice A144 x138.length c145) (ld_one Try.isAgg29 rfl (hc142 0 _ rfl)) ?_
 refine lp (.int .i64 v79_2) (pu_assign rfl) ?_
 refine lp (.slice A144 x138.length c145) (pu_assign rfl) ?_
 refine ln ?_
 refine hK137 _ _ ?_
 refine rg ?_
 refine lp (.slice A118 (((List.replicate (l_0.length : Int).toNat ([] : List Int))).length) c119) (pu_move e12) ?_
 refine lp (.int .i64 v79_2) (pu_move rfl) ?_
 refine lp (.slice A144 x138.length c145) (pu_move rfl) ?_
 obtain ⟨y149, h150, hb⟩ := bd hb
 refine lex.cl (⟨_, _, op_call (vs := [.slice A144 x138.length c145]) Try.call23 rfl rfl rfl, perm_Inverse_ok n hC.lt (hC.rd (i := 0) rfl) h150⟩) ?_
 rintro _ w155 ⟨A151, m152, c153, rfl, hK⟩
 replace hC := hC.merge hK
 clear hK
 obtain ⟨rfl, hl156, hc157⟩ := (hC.ow (i := 0) rfl).sl_len
 obtain ⟨x158, h159, hb⟩ := bd hb
 obtain ⟨ad160, cs161, hA, hc162, hr163⟩ := hC.elo (i := 5) rfl (get_some h159).2
 subst hA
 refine lp (.pointer (some (ad160.add (v79_2.toNat * 1)))) (pu_index (a := v79_2) Try.underlying32 Try.sizeOf29 rfl rfl (by rw [(hC.ow (i := 5) rfl).sl_len.1]; exact (get_some h159).1)) ?_
 replace hC := hC.freeze (i := 0) rfl (hC.own_new (i := 0) rfl)
 refine lex.sk (hC.put (i := 5) rfl rfl Try.sizeOf29 (k := v79_2.toNat) (a := y149) (by have := (get_some h159).1; simp at this ⊢; omega) (hC.rd (i := 0) rfl) rfl rfl rfl) ?_
 rintro w164 ⟨hC, hF⟩
 refine ln ?_
 refine hK136 _ _ ?_
 refine rg ?_
 obtain ⟨z165, h166, hb⟩ := bd hb
 refine lp (.int .i64 z165) (pu_addc (a := v79_2) (b := 1) e79 rfl h166) ?_
 refine lp (.int .i64 z165) (pu_move rfl) ?_
 refine ln ?_
 obtain rfl := os hb
 exact hK128 m129' _ _ (Nat.lt_succ_self _) ⟨z165, (qf123_2.set v79_2.toNat y149), e0, e2, e3, e6, e12, e77, e78, rfl, (chk_rng h166), hC.sel [2, 3, 4, 5] (by decide), lN hl2⟩
 replace hb := tf hq135 hb
 refine Wc.exit rfl ?_
 obtain rfl := os hb
 obtain rfl := (lX hl2).symm
 exact hK127 _ _ ⟨v79_2, qf123_2, e0, e2, e3, e6, e12, hrv79_2, hC.sel [0, 1, 2, 3] (by decide), hbK2⟩
 clear hb hC hl2
 rintro E168 w167 ⟨v79_2, qf123_2, e0, e2, e3, e6, e12, hrv79_2, hC, hb⟩
 refine hK124 _ _ ?_
 refine Wc.seq fun K169 hK169 => ?_
 refine rg ?_
 refine lp (.slice Al_0 l_0.length cl_0) (pu_move e0) ?_
 obtain ⟨x170, h171, hb⟩ := bd hb
 obtain ⟨ad172, cs173, hA, hc174, hr175⟩ := hC.elr (i := 0) rfl (get_some h171).2
 subst hA
 refine lp (.pointer (some (ad172.add ((0 : Int).toNat * 1)))) (pu_index (a := 0) Try.underlying32 Try.sizeOf29 rfl rfl (get_some h171).1) ?_
 have hR := hr175
 obtain ⟨A176, c177, rfl, hl178, hc179, _⟩ := hr175
 replace hC := hC.ro hR
 clear hR
 refine lv (.slice A176 x170.length c177) (ld_one Try.isAgg29 rfl (hc174 0 _ rfl)) ?_
 refine lp (.int .i64 (x170.length : Int)) (pu_len (A := A176) (n := x170.length) (m := c177) Try.underlying29 rfl) ?_
 obtain ⟨u181, h182, hb⟩ := bd hb
 refine lex.op (hC.make (s := (.int .i64)) (n := (x170.length : Int)) Try.underlying29 Try.type3 rfl rfl rfl rfl rfl (pos_some h182).1 (pos_some h182).2 (by decide)) ?_
 rintro _ w187 ⟨A183, c184, rfl, hl185, hc186, hC, hF, hN⟩
 clear hF hN
 refine lp (.slice A183 (((List.replicate (x170.length : Int).toNat (0 : Int))).length) c184) (pu_assign rfl) ?_
 refine ln ?_
 refine hK169 _ _ ?_
 refine Wc.seq fun K189 hK189 => ?_
 refine rg ?_
 refine lp (.slice none 0 0) (pu_assign rfl) ?_
 refine ln ?_
 refine hK189 _ _ ?_
 refine Wc.seq fun K190 hK190 => ?_
 refine Wc.seq fun K191 hK191 => ?_
 refine rg ?_
 refine lp (.slice (some ad172) l_0.length cl_0) (pu_move e0) ?_
 refine lp (.int .i64 (l_0.length : Int)) (pu_len (A := (some ad172)) (n := l_0.length) (m := cl_0) Try.underlying32 rfl) ?_
 refine lp (.int .i64 0) (pu_move rfl) ?_
 refine ln ?_
 refine hK191 _ _ ?_
 refine Wc.fresh fun E192 hE => ?_
 have e0 := (congrFun hE 0).trans e0
 have e2 := (congrFun hE 2).trans e2
 have e3 := (congrFun hE 3).trans e3
 have e6 := (congrFun hE 6).trans e6
 have e12 := (congrFun hE 12).trans e12
 have e15 : E192 15 = .slice A183 (((List.replicate (x170.length : Int).toNat (0 : Int))).length) c184 := (congrFun hE 15).trans rfl
 have e16 : E192 16 = .slice none 0 0 := (congrFun hE 16).trans rfl
 have e95 : E192 95 = .slice (some ad172) l_0.length cl_0 := (congrFun hE 95).trans rfl
 have e96 : E192 96 = .int .i64 (l_0.length : Int) := (congrFun hE 96).trans rfl
 have e97 : E192 97 = .int .i64 0 := (congrFun hE 97).trans rfl
 clear hE
 replace hC := hC.nil 28 (.sl (.int .i64))
 obtain ⟨o194, hl3, hb⟩ := bd hb
 refine Wc.cut (fun E wv => ∃ (l16_3 : List (List Int)) (v97_3 : Int) (qf188_3 : List Int) (Al16_3 : Option Addr) (ml16_3 cl16_3 : Nat), E 2 = .pointer (some ⟨g3, 0, none⟩) ∧ E 3 = .int .i64 0 ∧ E 16 = .slice Al16_3 ml16_3 cl16_3 ∧ I64 v97_3 ∧ Cx (fun _ => False) O0 w wv [.box g3 58 [.slice none 0 0], .own 28 (.sl (.int .i64)) (.slice Al16_3 ml16_3 cl16_3) l16_3] ∧ (some (l16_3, 0) : Option ((List (List Int)) × Int)) = some r) (fun K195 hK195 => ?_) ?_
 refine Wc.block ?_
 refine Wc.loop (fun m E wv => ∃ (l16_3 : List (List Int)) (v97_3 : Int) (qf188_3 : List Int) (Al16_3 : Option Addr) (ml16_3 cl16_3 : Nat), E 0 = .slice (some ad172) l_0.length cl_0 ∧ E 2 = .pointer (some ⟨g3, 0, none⟩) ∧ E 3 = .int .i64 0 ∧ E 6 = .map (some g66) ∧ E 12 = .slice A118 (((List.replicate (l_0.length : Int).toNat ([] : List Int))).length) c119 ∧ E 15 = .slice A183 (((List.replicate (x170.length : Int).toNat (0 : Int))).length) c184 ∧ E 16 = .slice Al16_3 ml16_3 cl16_3 ∧ E 95 = .slice (some ad172) l_0.length cl_0 ∧ E 96 = .int .i64 (l_0.length : Int) ∧ E 97 = .int .i64 v97_3 ∧ I64 v97_3 ∧ Cx (fun _ => False) O0 w wv [.ro (.sl (.sl (.int .i64))) [.slice (some ad172) l_0.length cl_0] l_0, .box g3 58 [.slice none 0 0], .obj g66 (smobj qf68_1), .own 29 (.sl (.int .i64)) (.slice A118 (((List.replicate (l_0.length : Int).toNat ([] : List Int))).length) c119) qf123_2, .own 3 (.int .i64) (.slice A183 (((List.replicate (x170.length : Int).toNat (0 : Int))).length) c184) qf188_3, .own 28 (.sl (.int .i64)) (.slice Al16_3 ml16_3 cl16_3) l16_3] ∧ loopN m (F.perm_Conjugation_b3 n l_0 qf68_1 qf123_2) (l16_3, v97_3, qf188_3) = some o194) n ⟨([] : List (List Int)), 0, (List.replicate (x170.length : Int).toNat (0 : Int)), none, 0, 0, e0, e2, e3, e6, e12, e15, e16, e95, e96, e97, (show I64 0 from by unfold I64; omega), hC.sel [3, 4, 5, 6, 1, 0] (by decide), hl3⟩ ?_
 have hbK3 := hb
 clear hb hC hl3
 rintro m197 E199 w198 ⟨l16_3, v97_3, qf188_3, Al16_3, ml16_3, cl16_3, e0, e2, e3, e6, e12, e15, e16, e95, e96, e97, hrv97_3, hC, hl3⟩ K196 hK196
 obtain ⟨m197', o200, rfl, hb, hl3⟩ := loopN_some hl3
 unfold F.perm_Conjugation_b3 at hb
 obtain ⟨rfl, hll16_3, hcl16_3⟩ := (hC.ow (i := 5) rfl).sl_len
 refine Wc.seq fun K201 hK201 => ?_
 refine rg ?_
 refine lp (.bool (decide (v97_3 < (l_0.length : Int)))) (pu_lss (k := .i64) (a := v97_3) (b := (l_0.length : Int)) e97 e96) ?_
 refine ln ?_
 refine hK201 _ _ ?_
 refine Wc.seq fun K202 hK202 => ?_
 refine Wc.cond (t := (decide (v97_3 < (l_0.length : Int)))) (rfl) (fun hq203 => ?_) (fun hq203 => ?_)
 replace hb := tt hq203 hb
 refine Wc.skip ?_
 refine hK202 _ _ ?_
 refine Wc.seq fun K204 hK204 => ?_
 refine Wc.block ?_
 refine Wc.seq fun K205 hK205 => ?_
 refine rg ?_
 obtain ⟨x206, h207, hb⟩ := bd hb
 obtain ⟨ad208, cs209, hA, hc210, hr211⟩ := hC.elr (i := 0) rfl (get_some h207).2
 obtain rfl := Option.some.inj hA
 refine lp (.pointer (some (ad172.add (v97_3.toNat * 1)))) (pu_index (a := v97_3) Try.underlying32 Try.sizeOf29 e95 e97 (get_some h207).1) ?_
 have hR := hr211
 obtain ⟨A212, c213, rfl, hl214, hc215, _⟩ := hr211
 replace hC := hC.ro hR
 clear hR
 refine lv (.slice A212 x206.length c213) (ld_one Try.isAgg29 rfl (hc210 0 _ rfl)) ?_
 refine lp (.slice A212 x206.length c213) (pu_assign rfl) ?_
 refine ln ?_
 refine hK205 _ _ ?_
 refine Wc.seq fun K217 hK217 => ?_
 refine rg ?_
 refine lp (.slice (some ad172) l_0.length cl_0) (pu_move e0) ?_
 refine lp (.int .i64 (l_0.length : Int)) (pu_len (A := (some ad172)) (n := l_0.length) (m := cl_0) Try.underlying32 rfl) ?_
 obtain ⟨u218, h219, hb⟩ := bd hb
 refine lex.op (hC.make (s := (.int .i64)) (n := (l_0.length : Int)) Try.underlying28 Try.type3 rfl rfl rfl rfl rfl (pos_some h219).1 (pos_some h219).2 (by decide)) ?_
 rintro _ w224 ⟨A220, c221, rfl, hl222, hc223, hC, hF, hN⟩
 clear hF hN
 refine lp (.slice A220 (((List.replicate (l_0.length : Int).toNat (0 : Int))).length) c221) (pu_assign rfl) ?_
 refine ln ?_
 refine hK217 _ _ ?_
 refine Wc.seq fun K226 hK226 => ?_
 refine Wc.seq fun K227 hK227 => ?_
 refine rg ?_
 refine lp (.slice (some ad172) l_0.length cl_0) (pu_move e0) ?_
 refine lp (.int .i64 (l_0.length : Int)) (pu_len (A := (some ad172)) (n := l_0.length) (m := cl_0) Try.underlying32 rfl) ?_
 refine lp (.int .i64 0) (pu_move rfl) ?_
 refine ln ?_
 refine hK227 _ _ ?_
 refine Wc.fresh fun E228 hE => ?_
 have e0 := (congrFun hE 0).trans e0
 have e2 := (congrFun hE 2).trans e2
 have e3 := (congrFun hE 3).trans e3
 have e6 := (congrFun hE 6).trans e6
 have e12 := (congrFun hE 12).trans e12
 have e15 := (congrFun hE 15).trans e15
 have e16 := (congrFun hE 16).trans e16
 have e18 : E228 18 = .slice A212 x206.length c213 := (congrFun hE 18).trans rfl
 have e19 : E228 19 = .slice A220 (((List.replicate (l_0.length : Int).toNat (0 : Int))).length) c221 := (congrFun hE 19).trans rfl
 have e95 := (congrFun hE 95).trans e95
 have e96 := (congrFun hE 96).trans e96
 have e97 := (congrFun hE 97).trans e97
 have e98 : E228 98 = .bool (decide (v97_3 < (l_0.length : Int))) := (congrFun hE 98).trans rfl
 have e104 : E228 104 = .slice (some ad172) l_0.length cl_0 := (congrFun hE 104).trans rfl
 have e105 : E228 105 = .int .i64 (l_0.length : Int) := (congrFun hE 105).trans rfl
 have e106 : E228 106 = .int .i64 0 := (congrFun hE 106).trans rfl
 clear hE
 obtain ⟨o229, hl4, hb⟩ := bd hb
 refine Wc.cut (fun E wv => ∃ (v106_4 : Int) (qf188_4 : List Int) (qf225_4 : List Int), E 0 = .slice (some ad172) l_0.length cl_0 ∧ E 2 = .pointer (some ⟨g3, 0, none⟩) ∧ E 3 = .int .i64 0 ∧ E 6 = .map (some g66) ∧ E 12 = .slice A118 (((List.replicate (l_0.length : Int).toNat ([] : List Int))).length) c119 ∧ E 15 = .slice A183 (((List.replicate (x170.length : Int).toNat (0 : Int))).length) c184 ∧ E 16 = .slice Al16_3 l16_3.length cl16_3 ∧ E 18 = .slice A212 x206.length c213 ∧ E 19 = .slice A220 (((List.replicate (l_0.length : Int).toNat (0 : Int))).length) c221 ∧ E 95 = .slice (some ad172) l_0.length cl_0 ∧ E 96 = .int .i64 (l_0.length : Int) ∧ E 97 = .int .i64 v97_3 ∧ E 98 = .bool (decide (v97_3 < (l_0.length : Int))) ∧ E 104 = .slice (some ad172) l_0.length cl_0 ∧ E 105 = .int .i64 (l_0.length : Int) ∧ E 106 = .int .i64 v106_4 ∧ I64 v106_4 ∧ Cx (fun _ => False) O0 w wv [.ro (.sl (.sl (.int .i64))) [.slice (some ad172) l_0.length cl_0] l_0, .box g3 58 [.slice none 0 0], .obj g66 (smobj qf68_1), .own 29 (.sl (.int .i64)) (.slice A118 (((List.replicate (l_0.length : Int).toNat ([] : List Int))).length) c119) qf123_2, .own 3 (.int .i64) (.slice A183 (((List.replicate (x170.length : Int).toNat (0 : Int))).length) c184) qf188_4, .own 28 (.sl (.int .i64)) (.slice Al16_3 l16_3.length cl16_3) l16_3, .ro (.sl (.int .i64)) [.slice A212 x206.length c213] x206, .own 3 (.int .i64) (.slice A220 (((List.replicate (l_0.length : Int).toNat (0 : Int))).length) c221) qf225_4] ∧ ((lim (l16_3.length + ([qf225_4] : List (List Int)).length)).bind fun u337 => (chk (v97_3 + 1)).bind fun z344 => some (.inl ((l16_3 ++ ([qf225_4] : List (List Int))), z344, qf188_4)) : Option (((List (List Int)) × Int × (List Int)) ⊕ (((List (List Int)) × Int × (List Int)) ⊕ ((List (List Int)) × Int)))) = some o200) (fun K230 hK230 => ?_) ?_
 refine Wc.block ?_
 refine Wc.loop (fun m E wv => ∃ (v106_4 : Int) (qf188_4 : List Int) (qf225_4 : List Int), E 0 = .slice (some ad172) l_0.length cl_0 ∧ E 2 = .pointer (some ⟨g3, 0, none⟩) ∧ E 3 = .int .i64 0 ∧ E 6 = .map (some g66) ∧ E 12 = .slice A118 (((List.replicate (l_0.length : Int).toNat ([] : List Int))).length) c119 ∧ E 15 = .slice A183 (((List.replicate (x170.length : Int).toNat (0 : Int))).length) c184 ∧ E 16 = .slice Al16_3 l16_3.length cl16_3 ∧ E 18 = .slice A212 x206.length c213 ∧ E 19 = .slice A220 (((List.replicate (l_0.length : Int).toNat (0 : Int))).length) c221 ∧ E 95 = .slice (some ad172) l_0.length cl_0 ∧ E 96 = .int .i64 (l_0.length : Int) ∧ E 97 = .int .i64 v97_3 ∧ E 98 = .bool (decide (v97_3 < (l_0.length : Int))) ∧ E 104 = .slice (some ad172) l_0.length cl_0 ∧ E 105 = .int .i64 (l_0.length : Int) ∧ E 106 = .int .i64 v106_4 ∧ I64 v106_4 ∧ Cx (fun _ => False) O0 w wv [.ro (.sl (.sl (.int .i64))) [.slice (some ad172) l_0.length cl_0] l_0, .box g3 58 [.slice none 0 0], .obj g66 (smobj qf68_1), .own 29 (.sl (.int .i64)) (.slice A118 (((List.replicate (l_0.length : Int).toNat ([] : List Int))).length) c119) qf123_2, .own 3 (.int .i64) (.slice A183 (((List.replicate (x170.length : Int).toNat (0 : Int))).length) c184) qf188_4, .own 28 (.sl (.int .i64)) (.slice Al16_3 l16_3.length cl16_3) l16_3, .ro (.sl (.int .i64)) [.slice A212 x206.length c213] x206, .own 3 (.int .i64) (.slice A220 (((List.replicate (l_0.length : Int).toNat (0 : Int))).length) c221) qf225_4] ∧ loopN m (F.perm_Conjugation_b4 n l_0 qf68_1 qf123_2 x206) (v106_4, qf188_4, qf225_4) = some o229) n ⟨0, qf188_3, (List.replicate (l_0.length : Int).toNat (0 : Int)), e0, e2, e3, e6, e12, e15, e16, e18, e19, e95, e96, e97, e98, e104, e105, e106, (show I64 0 from by unfold I64; omega), hC.sel [2, 3, 4, 5, 6, 7, 1, 0] (by decide), hl4⟩ ?_
 have hbK4 := hb
 clear hb hC hl4
 rintro m232 E234 w233 ⟨v106_4, qf188_4, qf225_4, e0, e2, e3, e6, e12, e15, e16, e18, e19, e95, e96, e97, e98, e104, e105, e106, hrv106_4, hC, hl4⟩ K231 hK231
 obtain ⟨m232', o235, rfl, hb, hl4⟩ := loopN_some hl4
 unfold F.perm_Conjugation_b4 at hb
 refine Wc.seq fun K236 hK236 => ?_
 refine rg ?_
 refine lp (.bool (decide (v106_4 < (l_0.length : Int)))) (pu_lss (k := .i64) (a := v106_4) (b := (l_0.length : Int)) e106 e105) ?_
 refine ln ?_
 refine hK236 _ _ ?_
 refine Wc.seq fun K237 hK237 => ?_
 refine Wc.cond (t := (decide (v106_4 < (l_0.length : Int)))) (rfl) (fun hq238 => ?_) (fun hq238 => ?_)
 replace hb := tt hq238 hb
 refine Wc.skip ?_
 refine hK237 _ _ ?_
 refine Wc.seq fun K239 hK239 => ?_
 refine Wc.block ?_
 refine Wc.seq fun K240 hK240 => ?_
 refine rg ?_
 refine lp (.int .i64 v106_4) (pu_move e106) ?_
 obtain ⟨x241, h242, hb⟩ := bd hb
 obtain ⟨ad243, cs244, hA, hc245, hr246⟩ := hC.elr (i := 0) rfl (get_some h242).2
 obtain rfl := Option.some.inj hA
 refine lp (.pointer (some (ad172.add (v106_4.toNat * 1)))) (pu_index (a := v106_4) Try.underlying32 Try.sizeOf29 e104 e106 (get_some h242).1) ?_
 have hR := hr246
 obtain ⟨A247, c248, rfl, hl249, hc250, _⟩ := hr246
 replace hC := hC.ro hR
 clear hR
 refine lv (.slice A247 x241.length c248) (ld_one Try.isAgg29 rfl (hc245 0 _ rfl)) ?_
 refine lp (.int .i64 v106_4) (pu_assign rfl) ?_
 refine lp (.slice A247 x241.length c248) (pu_assign rfl) ?_
 refine ln ?_
 refine hK240 _ _ ?_
 refine Wc.seq fun K252 hK252 => ?_
 refine Wc.seq fun K253 hK253 => ?_
 refine rg ?_
 refine lp (.slice A118 (((List.replicate (l_0.length : Int).toNat ([] : List Int))).length) c119) (pu_move e12) ?_
 refine lp (.int .i64 v106_4) (pu_move rfl) ?_
 obtain ⟨x254, h255, hb⟩ := bd hb
 obtain ⟨ad256, cs257, hA, hc258, hr259⟩ := hC.elo (i := 4) rfl (get_some h255).2
 subst hA
 refine lp (.pointer (some (ad256.add (v106_4.toNat * 1)))) (pu_index (a := v106_4) Try.underlying32 Try.sizeOf29 rfl rfl (by rw [(hC.ow (i := 4) rfl).sl_len.1]; exact (get_some h255).1)) ?_
 have hR := hr259
 obtain ⟨A260, c261, rfl, hl262, hc263, _⟩ := hr259
 replace hC := hC.ro hR
 clear hR
 refine lv (.slice A260 x254.length c261) (ld_one Try.isAgg29 rfl (hc258 0 _ rfl)) ?_
 refine lp (.int .i64 (x254.length : Int)) (pu_len (A := A260) (n := x254.length) (m := c261) Try.underlying29 rfl) ?_
 refine lp (.int .i64 0) (pu_move rfl) ?_
 refine ln ?_
 refine hK253 _ _ ?_
 refine Wc.fresh fun E265 hE => ?_
 have e0 := (congrFun hE 0).trans e0
 have e2 := (congrFun hE 2).trans e2
 have e3 := (congrFun hE 3).trans e3
 have e6 := (congrFun hE 6).trans e6
 have e12 := (congrFun hE 12).trans e12
 have e15 := (congrFun hE 15).trans e15
 have e16 := (congrFun hE 16).trans e16
 have e18 := (congrFun hE 18).trans e18
 have e19 := (congrFun hE 19).trans e19
 have e20 : E265 20 = .int .i64 v106_4 := (congrFun hE 20).trans rfl
 have e21 : E265 21 = .slice A247 x241.length c248 := (congrFun hE 21).trans rfl
 have e95 := (congrFun hE 95).trans e95
 have e96 := (congrFun hE 96).trans e96
 have e97 := (congrFun hE 97).trans e97
 have e98 := (congrFun hE 98).trans e98
 have e104 := (congrFun hE 104).trans e104
 have e105 := (congrFun hE 105).trans e105
 have e106 := (congrFun hE 106).trans e106
 have e107 : E265 107 = .bool (decide (v106_4 < (l_0.length : Int))) := (congrFun hE 107).trans rfl
 have e114 : E265 114 = .slice A260 x254.length c261 := (congrFun hE 114).trans rfl
 have e115 : E265 115 = .int .i64 (x254.length : Int) := (congrFun hE 115).trans rfl
 have e116 : E265 116 = .int .i64 0 := (congrFun hE 116).trans rfl
 clear hE
 obtain ⟨o266, hl5, hb⟩ := bd hb
 refine Wc.cut (fun E wv => ∃ (v116_5 : Int) (qf188_5 : List Int), E 0 = .slice (some ad172) l_0.length cl_0 ∧ E 2 = .pointer (some ⟨g3, 0, none⟩) ∧ E 3 = .int .i64 0 ∧ E 6 = .map (some g66) ∧ E 12 = .slice (some ad256) (((List.replicate (l_0.length : Int).toNat ([] : List Int))).length) c119 ∧ E 15 = .slice A183 (((List.replicate (x170.length : Int).toNat (0 : Int))).length) c184 ∧ E 16 = .slice Al16_3 l16_3.length cl16_3 ∧ E 18 = .slice A212 x206.length c213 ∧ E 19 = .slice A220 (((List.replicate (l_0.length : Int).toNat (0 : Int))).length) c221 ∧ E 20 = .int .i64 v106_4 ∧ E 21 = .slice A247 x241.length c248 ∧ E 95 = .slice (some ad172) l_0.length cl_0 ∧ E 96 = .int .i64 (l_0.length : Int) ∧ E 97 = .int .i64 v97_3 ∧ E 98 = .bool (decide (v97_3 < (l_0.length : Int))) ∧ E 104 = .slice (some ad172) l_0.length cl_0 ∧ E 105 = .int .i64 (l_0.length : Int) ∧ E 106 = .int .i64 v106_4 ∧ E 107 = .bool (decide (v106_4 < (l_0.length : Int))) ∧ E 114 = .slice A260 x254.length c261 ∧ E 115 = .int .i64 (x254.length : Int) ∧ E 116 = .int .i64 v116_5 ∧ I64 v116_5 ∧ Cx (fun _ => False) O0 w wv [.ro (.sl (.sl (.int .i64))) [.slice (some ad172) l_0.length cl_0] l_0, .box g3 58 [.slice none 0 0], .obj g66 (smobj qf68_1), .own 29 (.sl (.int .i64)) (.slice (some ad256) (((List.replicate (l_0.length : Int).toNat ([] : List Int))).length) c119) qf123_2, .own 3 (.int .i64) (.slice A183 (((List.replicate (x170.length : Int).toNat (0 : Int))).length) c184) qf188_5, .own 28 (.sl (.int .i64)) (.slice Al16_3 l16_3.length cl16_3) l16_3, .ro (.sl (.int .i64)) [.slice A212 x206.length c213] x206, .own 3 (.int .i64) (.slice A220 (((List.replicate (l_0.length : Int).toNat (0 : Int))).length) c221) qf225_4, .ro (.sl (.int .i64)) [.slice A247 x241.length c248] x241, .ro (.sl (.int .i64)) [.slice A260 x254.length c261] x254] ∧ ((F.perm_key n qf188_5).bind fun y308 => (chk ((smget qf68_1 y308).getD 0)).bind fun z311 => cond (!(smget qf68_1 y308).isSome) (some (.inr (.inr ([], 12)))) ((get qf225_4 v106_4).bind fun x320 => (chk (v106_4 + 1)).bind fun z327 => some (.inl (z327, qf188_5, (qf225_4.set v106_4.toNat z311)))) : Option ((Int × (List Int) × (List Int)) ⊕ ((Int × (List Int) × (List Int)) ⊕ ((List (List Int)) × Int)))) = some o235) (fun K267 hK267 => ?_) ?_
 refine Wc.block ?_
 refine Wc.loop (fun m E wv => ∃ (v116_5 : Int) (qf188_5 : List Int), E 0 = .slice (some ad172) l_0.length cl_0 ∧ E 2 = .pointer (some ⟨g3, 0, none⟩) ∧ E 3 = .int .i64 0 ∧ E 6 = .map (some g66) ∧ E 12 = .slice (some ad256) (((List.replicate (l_0.length : Int).toNat ([] : List Int))).length) c119 ∧ E 15 = .slice A183 (((List.replicate (x170.length : Int).toNat (0 : Int))).length) c184 ∧ E 16 = .slice Al16_3 l16_3.length cl16_3 ∧ E 18 = .slice A212 x206.length c213 ∧ E 19 = .slice A220 (((List.replicate (l_0.length : Int).toNat (0 : Int))).length) c221 ∧ E 20 = .int .i64 v106_4 ∧ E 21 = .slice A247 x241.length c248 ∧ E 95 = .slice (some ad172) l_0.length cl_0 ∧ E 96 = .int .i64 (l_0.length : Int) ∧ E 97 = .int .i64 v97_3 ∧ E 98 = .bool (decide (v97_3 < (l_0.length : Int))) ∧ E 104 = .slice (some ad172) l_0.length cl_0 ∧ E 105 = .int .i64 (l_0.length : Int) ∧ E 106 = .int .i64 v106_4 ∧ E 107 = .bool (decide (v106_4 < (l_0.length : Int))) ∧ E 114 = .slice A260 x254.length c261 ∧ E 115 = .int .i64 (x254.length : Int) ∧ E 116 = .int .i64 v116_5 ∧ I64 v116_5 ∧ Cx (fun _ => False) O0 w wv [.ro (.sl (.sl (.int .i64))) [.slice (some ad172) l_0.length cl_0] l_0, .box g3 58 [.slice none 0 0], .obj g66 (smobj qf68_1), .own 29 (.sl (.int .i64)) (.slice (some ad256) (((List.replicate (l_0.length : Int).toNat ([] : List Int))).length) c119) qf123_2, .own 3 (.int .i64) (.slice A183 (((List.replicate (x170.length : Int).toNat (0 : Int))).length) c184) qf188_5, .own 28 (.sl (.int .i64)) (.slice Al16_3 l16_3.length cl16_3) l16_3, .ro (.sl (.int .i64)) [.slice A212 x206.length c213] x206, .own 3 (.int .i64) (.slice A220 (((List.replicate (l_0.length : Int).toNat (0 : Int))).length) c221) qf225_4, .ro (.sl (.int .i64)) [.slice A247 x241.length c248] x241, .ro (.sl (.int .i64)) [.slice A260 x254.length c261] x254] ∧ loopN m (F.perm_Conjugation_b5 n x206 x241 x254) (v116_5, qf188_5) = some o266) n ⟨0, qf188_4, e0, e2, e3, e6, e12, e15, e16, e18, e19, e20, e21, e95, e96, e97, e98, e104, e105, e106, e107, e114, e115, e116, (show I64 0 from by unfold I64; omega), hC.sel [2, 3, 4, 5, 6, 7, 8, 9, 1, 0] (by decide), hl5⟩ ?_
 have hbK5 := hb
 clear hb hC hl5
 rintro m269 E271 w270 ⟨v116_5, qf188_5, e0, e2, e3, e6, e12, e15, e16, e18, e19, e20, e21, e95, e96, e97, e98, e104, e105, e106, e107, e114, e115, e116, hrv116_5, hC, hl5⟩ K268 hK268
 obtain ⟨m269', o272, rfl, hb, hl5⟩ := loopN_some hl5
 unfold F.perm_Conjugation_b5 at hb
 refine Wc.seq fun K273 hK273 => ?_
 refine rg ?_
 refine lp (.bool (decide (v116_5 < (x254.length : Int)))) (pu_lss (k := .i64) (a := v116_5) (b := (x254.length : Int)) e116 e115) ?_
 refine ln ?_
 refine hK273 _ _ ?_
 refine Wc.seq fun K274 hK274 => ?_
 refine Wc.cond (t := (decide (v116_5 < (x254.length : Int)))) (rfl) (fun hq275 => ?_) (fun hq275 => ?_)
 replace hb := tt hq275 hb
 refine Wc.skip ?_
 refine hK274 _ _ ?_
 refine Wc.seq fun K276 hK276 => ?_
 refine Wc.block ?_
 refine Wc.seq fun K277 hK277 => ?_
 refine rg ?_
 refine lp (.int .i64 v116_5) (pu_move e116) ?_
 obtain ⟨x278, h279, hb⟩ := bd hb
 obtain ⟨ad280, cs281, hA, hc282, hr283⟩ := hC.elr (i := 9) rfl (get_some h279).2
 subst hA
 refine lp (.pointer (some (ad280.add (v116_5.toNat * 1)))) (pu_index (a := v116_5) Try.underlying29 Try.sizeOf3 e114 e116 (get_some h279).1) ?_
 obtain ⟨rfl, hr283'⟩ := hr283
 refine lv (.int .i64 x278) (ld_one Try.isAgg3 rfl (hc282 0 _ rfl)) ?_
 refine lp (.int .i64 v116_5) (pu_assign rfl) ?_
 refine lp (.int .i64 x278) (pu_assign rfl) ?_
 refine ln ?_
 refine hK277 _ _ ?_
 refine rg ?_
 refine lp (.slice A183 (((List.replicate (x170.length : Int).toNat (0 : Int))).length) c184) (pu_move e15) ?_
 refine lp (.int .i64 v116_5) (pu_move rfl) ?_
 refine lp (.slice A247 x241.length c248) (pu_move e21) ?_
 refine lp (.slice A212 x206.length c213) (pu_move e18) ?_
 refine lp (.int .i64 x278) (pu_move rfl) ?_
 obtain ⟨x284, h285, hb⟩ := bd hb
 obtain ⟨ad286, cs287, hA, hc288, hr289⟩ := hC.elr (i := 6) rfl (get_some h285).2
 subst hA
 refine lp (.pointer (some (ad286.add (x278.toNat * 1)))) (pu_index (a := x278) Try.underlying29 Try.sizeOf3 rfl rfl (get_some h285).1) ?_
 obtain ⟨rfl, hr289'⟩ := hr289
 refine lv (.int .i64 x284) (ld_one Try.isAgg3 rfl (hc288 0 _ rfl)) ?_
 obtain ⟨x290, h291, hb⟩ := bd hb
 obtain ⟨ad292, cs293, hA, hc294, hr295⟩ := hC.elr (i := 8) rfl (get_some h291).2
 subst hA
 refine lp (.pointer (some (ad292.add (x284.toNat * 1)))) (pu_index (a := x284) Try.underlying29 Try.sizeOf3 rfl rfl (get_some h291).1) ?_
 obtain ⟨rfl, hr295'⟩ := hr295
 refine lv (.int .i64 x290) (ld_one Try.isAgg3 rfl (hc294 0 _ rfl)) ?_
 obtain ⟨x296, h297, hb⟩ := bd hb
 obtain ⟨ad298, cs299, hA, hc300, hr301⟩ := hC.elo (i := 4) rfl (get_some h297).2
 subst hA
 refine lp (.pointer (some (ad298.add (v116_5.toNat * 1)))) (pu_index (a := v116_5) Try.underlying29 Try.sizeOf3 rfl rfl (by rw [(hC.ow (i := 4) rfl).sl_len.1]; exact (get_some h297).1)) ?_
 refine lex.sk (hC.put (i := 4) rfl rfl Try.sizeOf3 (k := v116_5.toNat) (a := x290) (by have := (get_some h297).1; simp at this ⊢; omega) (⟨rfl, I64.wr (wrap_I64 hr295')⟩) rfl rfl rfl) ?_
 rintro w302 ⟨hC, hF⟩
 refine ln ?_
 refine hK276 _ _ ?_
 refine rg ?_
 obtain ⟨z303, h304, hb⟩ := bd hb
 refine lp (.int .i64 z303) (pu_addc (a := v116_5) (b := 1) e116 rfl h304) ?_
 refine lp (.int .i64 z303) (pu_move rfl) ?_
 refine ln ?_
 obtain rfl := os hb
 exact hK268 m269' _ _ (Nat.lt_succ_self _) ⟨z303, (qf188_5.set v116_5.toNat x290), e0, e2, e3, e6, e12, e15, e16, e18, e19, e20, e21, e95, e96, e97, e98, e104, e105, e106, e107, e114, e115, rfl, (chk_rng h304), hC.sel [0, 1, 2, 3, 4, 5, 6, 7, 8, 9] (by decide), lN hl5⟩
 replace hb := tf hq275 hb
 refine Wc.exit rfl ?_
 obtain rfl := os hb
 obtain rfl := (lX hl5).symm
 exact hK267 _ _ ⟨v116_5, qf188_5, e0, e2, e3, e6, e12, e15, e16, e18, e19, e20, e21, e95, e96, e97, e98, e104, e105, e106, e107, e114, e115, e116, hrv116_5, hC.sel [0, 1, 2, 3, 4, 5, 6, 7, 8, 9] (by decide), hbK5⟩
 clear hb hC hl5
 rintro E306 w305 ⟨v116_5, qf188_5, e0, e2, e3, e6, e12, e15, e16, e18, e19, e20, e21, e95, e96, e97, e98, e104, e105, e106, e107, e114, e115, e116, hrv116_5, hC, hb⟩
 refine hK252 _ _ ?_
 refine Wc.seq fun K307 hK307 => ?_
 refine rg ?_
 refine lp (.map (some g66)) (pu_move e6) ?_
 refine lp (.slice A183 (((List.replicate (x170.length : Int).toNat (0 : Int))).length) c184) (pu_move e15) ?_
 obtain ⟨y308, h309, hb⟩ := bd hb
 refine lex.cl (⟨_, _, op_call (vs := [.slice A183 (((List.replicate (x170.length : Int).toNat (0 : Int))).length) c184]) Try.call47 rfl rfl rfl, perm_key_ok n (hC.lentLt [.slice A183 (((List.replicate (x170.length : Int).toNat (0 : Int))).length) c184]) ((hC.ow (i := 4) rfl).lend (vs := [.slice A183 (((List.replicate (x170.length : Int).toNat (0 : Int))).length) c184]) (by simp)) h309⟩) ?_
 rintro _ w310 ⟨rfl, hK⟩
 replace hC := hC.mergeF hK rfl
 clear hK
 obtain ⟨z311, h312, hb⟩ := bd hb
 refine lv (.tuple #[.int .i64 z311, .bool ((smget qf68_1 y308).isSome)]) (by have h9 := (chk_some h312).1; first | (rw [h9]; exact slk (k := y308) (hC.ob (i := 2) rfl) Try.underlying66 Try.zeroValue3 Try.underlying9 rfl rfl) | (rw [← h9]; exact slk (k := y308) (hC.ob (i := 2) rfl) Try.underlying66 Try.zeroValue3 Try.underlying9 rfl rfl)) ?_
 refine lp (.tuple #[.int .i64 z311, .bool ((smget qf68_1 y308).isSome)]) (pu_move rfl) ?_
 refine lp (.int .i64 z311) (pu_extract rfl rfl) ?_
 refine lp (.bool ((smget qf68_1 y308).isSome)) (pu_extract rfl rfl) ?_
 refine lp (.int .i64 z311) (pu_assign rfl) ?_
 refine lp (.bool ((smget qf68_1 y308).isSome)) (pu_assign rfl) ?_
 refine ln ?_
 refine hK307 _ _ ?_
 refine Wc.seq fun K313 hK313 => ?_
 refine Wc.seq fun K314 hK314 => ?_
 refine rg ?_
 refine lp (.bool ((smget qf68_1 y308).isSome)) (pu_move rfl) ?_
 refine lp (.bool (!(smget qf68_1 y308).isSome)) (pu_not (q := (smget qf68_1 y308).isSome) rfl) ?_
 refine ln ?_
 refine hK314 _ _ ?_
 refine Wc.fresh fun E315 hE => ?_
 have e0 := (congrFun hE 0).trans e0
 have e2 := (congrFun hE 2).trans e2
 have e3 := (congrFun hE 3).trans e3
 have e6 := (congrFun hE 6).trans e6
 have e12 := (congrFun hE 12).trans e12
 have e15 := (congrFun hE 15).trans e15
 have e16 := (congrFun hE 16).trans e16
 have e18 := (congrFun hE 18).trans e18
 have e19 := (congrFun hE 19).trans e19
 have e20 := (congrFun hE 20).trans e20
 have e21 := (congrFun hE 21).trans e21
 have e24 : E315 24 = .int .i64 z311 := (congrFun hE 24).trans rfl
 have e25 : E315 25 = .bool ((smget qf68_1 y308).isSome) := (congrFun hE 25).trans rfl
 have e95 := (congrFun hE 95).trans e95
 have e96 := (congrFun hE 96).trans e96
 have e97 := (congrFun hE 97).trans e97
 have e98 := (congrFun hE 98).trans e98
 have e104 := (congrFun hE 104).trans e104
 have e105 := (congrFun hE 105).trans e105
 have e106 := (congrFun hE 106).trans e106
 have e107 := (congrFun hE 107).trans e107
 have e114 := (congrFun hE 114).trans e114
 have e115 := (congrFun hE 115).trans e115
 have e116 := (congrFun hE 116).trans e116
 have e140 : E315 140 = .bool (!(smget qf68_1 y308).isSome) := (congrFun hE 140).trans rfl
 clear hE
 refine Wc.cond (t := (!(smget qf68_1 y308).isSome)) (e140) (fun hq316 => ?_) (fun hq316 => ?_)
 replace hb := tt hq316 hb
 refine Wc.seq fun K317 hK317 => ?_
 refine rg ?_
 refine lp (.agg #[.slice none 0 0]) (pu_builds (places := [(0, 1)]) (pv := []) Try.type58 Try.underlying58 rfl (mp_cons Try.type23 mp_nil rfl rfl) rfl (by simp [Instr.fill, Value.cells])) ?_
 refine lex.sk (hC.seta (i := 1) (ds := [.slice none 0 0]) rfl Try.type58 rfl rfl rfl e2 rfl) ?_
 rintro w318 ⟨hC, hF⟩
 refine lp (.int .i64 12) (pu_assign rfl) ?_
 refine ln ?_
 refine hK317 _ _ ?_
 obtain rfl := os hb
 obtain rfl := (lX hl4).symm
 replace hb := hbK4
 obtain rfl := os hb
 obtain rfl := (lX hl3).symm
 replace hb := hbK3
 replace hC := hC.nil 28 (.sl (.int .i64))
 obtain rfl := os hb
 refine Wc.ret ?_
 refine hKR _ _ ?_
 refine ⟨_, res2 Try.results35 ⟨_, e2, loadVar_blk (hC.bx (i := 2) rfl) Try.isAgg58 Try.sizeOf58⟩ (show RV _ _ _ (.tmp _) (.int .i64 12) from rfl), _, rfl, none, 0, 0, rfl, (show I64 12 from by unfold I64; omega), hC.sel [0] (by decide)⟩
 replace hb := tf hq316 hb
 refine Wc.skip ?_
 refine hK313 _ _ ?_
 refine rg ?_
 refine lp (.slice A220 (((List.replicate (l_0.length : Int).toNat (0 : Int))).length) c221) (pu_move e19) ?_
 refine lp (.int .i64 v106_4) (pu_move e20) ?_
 refine lp (.int .i64 z311) (pu_move e24) ?_
 obtain ⟨x320, h321, hb⟩ := bd hb
 obtain ⟨ad322, cs323, hA, hc324, hr325⟩ := hC.elo (i := 7) rfl (get_some h321).2
 subst hA
 refine lp (.pointer (some (ad322.add (v106_4.toNat * 1)))) (pu_index (a := v106_4) Try.underlying28 Try.sizeOf3 rfl rfl (by rw [(hC.ow (i := 7) rfl).sl_len.1]; exact (get_some h321).1)) ?_
 refine lex.sk (hC.put (i := 7) rfl rfl Try.sizeOf3 (k := v106_4.toNat) (a := z311) (by have := (get_some h321).1; simp at this ⊢; omega) (⟨rfl, I64.wr (chk_rng h312)⟩) rfl rfl rfl) ?_
 rintro w326 ⟨hC, hF⟩
 refine ln ?_
 refine hK239 _ _ ?_
 refine rg ?_
 obtain ⟨z327, h328, hb⟩ := bd hb
 refine lp (.int .i64 z327) (pu_addc (a := v106_4) (b := 1) e106 rfl h328) ?_
 refine lp (.int .i64 z327) (pu_move rfl) ?_
 refine ln ?_
 obtain rfl := os hb
 exact hK231 m232' _ _ (Nat.lt_succ_self _) ⟨z327, qf188_5, (qf225_4.set v106_4.toNat z311), e0, e2, e3, e6, e12, e15, e16, e18, e19, e95, e96, e97, e98, e104, e105, rfl, (chk_rng h328), hC.sel [0, 1, 2, 3, 4, 5, 6, 7] (by decide), lN hl4⟩
 replace hb := tf hq238 hb
 refine Wc.exit rfl ?_
 obtain rfl := os hb
 obtain rfl := (lX hl4).symm
 exact hK230 _ _ ⟨v106_4, qf188_4, qf225_4, e0, e2, e3, e6, e12, e15, e16, e18, e19, e95, e96, e97, e98, e104, e105, e106, hrv106_4, hC.sel [0, 1, 2, 3, 4, 5, 6, 7] (by decide), hbK4⟩
 clear hb hC hl4
 rintro E330 w329 ⟨v106_4, qf188_4, qf225_4, e0, e2, e3, e6, e12, e15, e16, e18, e19, e95, e96, e97, e98, e104, e105, e106, hrv106_4, hC, hb⟩
 refine hK226 _ _ ?_
 refine rg ?_
 refine lp (.slice Al16_3 l16_3.length cl16_3) (pu_move e16) ?_
 refine lp (.slice A220 (((List.replicate (l_0.length : Int).toNat (0 : Int))).length) c221) (pu_move e19) ?_
 replace hC := hC.freeze (i := 7) rfl (hC.own_new (i := 7) rfl)
 refine lex.op (hC.lit (s := (.sl (.int .i64))) (vs := [.slice A220 (((List.replicate (l_0.length : Int).toNat (0 : Int))).length) c221]) (xs := [qf225_4]) Try.underlying23 Try.type28 rfl rfl (Nat.le_of_ble_eq_true rfl) rfl rfl (by simp [Value.cells, Sh.n]) rfl (show Elems _ _ (.sl (.int .i64)) ([.slice A220 (((List.replicate (l_0.length : Int).toNat (0 : Int))).length) c221] ++ ([])) ([qf225_4] : List (List Int)) from Elems.cons (hC.rd (i := 7) rfl) (Elems.nil _ _ _))) ?_
 rintro _ w335 ⟨A331, c332, rfl, hl333, hc334, hC, hF, hN⟩
 clear hF hN
 obtain ⟨u337, h338, hb⟩ := bd hb
 refine lex.op (hC.app (i := 6) (s := (.sl (.int .i64))) (xs := l16_3) (ys := ([qf225_4] : List (List Int))) (m := ((([qf225_4] : List (List Int))).length)) rfl Try.underlying23 Try.underlying23 Try.type28 rfl rfl rfl (hC.srco (i := 0) rfl) rfl rfl (by have := lim_some h338; simp at this ⊢ <;> omega) (by decide)) ?_
 rintro _ w343 ⟨A339, c340, rfl, hl341, hc342, hC, hF, hN⟩
 clear hF hN
 refine lp (.slice A339 ((l16_3 ++ ([qf225_4] : List (List Int))).length) c340) (pu_assign rfl) ?_
 refine ln ?_
 refine hK204 _ _ ?_
 refine rg ?_
 obtain ⟨z344, h345, hb⟩ := bd hb
 refine lp (.int .i64 z344) (pu_addc (a := v97_3) (b := 1) e97 rfl h345) ?_
 refine lp (.int .i64 z344) (pu_move rfl) ?_
 refine ln ?_
 obtain rfl := os hb
 exact hK196 m197' _ _ (Nat.lt_succ_self _) ⟨(l16_3 ++ ([qf225_4] : List (List Int))), z344, qf188_4, A339, (l16_3 ++ ([qf225_4] : List (List Int))).length, c340, e0, e2, e3, e6, e12, e15, rfl, e95, e96, rfl, (chk_rng h345), hC.sel [1, 2, 3, 4, 5, 6] (by decide), lN hl3⟩
 replace hb := tf hq203 hb
 refine Wc.exit rfl ?_
 obtain rfl := os hb
 obtain rfl := (lX hl3).symm
 exact hK195 _ _ ⟨l16_3, v97_3, qf188_3, Al16_3, l16_3.length, cl16_3, e2, e3, e16, hrv97_3, hC.sel [1, 5] (by decide), hbK3⟩
 clear hb hC hl3
 rintro E347 w346 ⟨l16_3, v97_3, qf188_3, Al16_3, ml16_3, cl16_3, e2, e3, e16, hrv97_3, hC, hb⟩
 obtain ⟨rfl, hll16_3, hcl16_3⟩ := (hC.ow (i := 1) rfl).sl_len
 refine hK190 _ _ ?_
 refine Wc.seq fun K348 hK348 => ?_
 refine rg ?_
 refine lp (.slice Al16_3 l16_3.length cl16_3) (pu_move e16) ?_
 refine lp (.agg #[.slice Al16_3 l16_3.length cl16_3]) (pu_builds (places := [(0, 1)]) (pv := [(0, .slice Al16_3 l16_3.length cl16_3)]) Try.type58 Try.underlying58 rfl (mp_cons Try.type23 mp_nil rfl rfl) rfl (by simp [Instr.fill, Value.cells])) ?_
 refine lex.sk (hC.seta (i := 0) (ds := [.slice Al16_3 l16_3.length cl16_3]) rfl Try.type58 rfl rfl rfl e2 rfl) ?_
 rintro w349 ⟨hC, hF⟩
 refine lp (.int .i64 0) (pu_assign rfl) ?_
 refine ln ?_
 refine hK348 _ _ ?_
 obtain rfl := os hb
 refine Wc.ret ?_
 refine hKR _ _ ?_
 refine ⟨_, res2 Try.results35 ⟨_, e2, loadVar_blk (hC.bx (i := 0) rfl) Try.isAgg58 Try.sizeOf58⟩ (show RV _ _ _ (.tmp _) (.int .i64 0) from rfl), _, rfl, Al16_3, l16_3.length, cl16_3, rfl, (show I64 0 from by unfold I64; omega), hC.sel [1] (by decide)⟩
end Go.Proofs.Ytmlkiafidahnbaa
