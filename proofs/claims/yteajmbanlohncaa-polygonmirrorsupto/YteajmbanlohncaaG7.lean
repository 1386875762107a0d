/- The walks: part 7. -/
import Derived.Test.YteajmbanlohncaaS
import Derived.Test.YteajmbanlohncaaG6
set_option linter.unusedVariables false
set_option linter.unusedSimpArgs false
namespace Go.Proofs.Yteajmbanlohncaa
open Ev
set_option maxRecDepth 100000 in
set_option maxHeartbeats 4000000 in
theorem law46_generic_ok (n : Nat) {w : World} {O0 : List Nat} (hO : ∀ k ∈ O0, k < w.heap.size) {Al_0 : Option Addr} {ml_0 cl_0 : Nat} {l_0 : List (List (Int × (Int × Int)))} (hl_0 : Rep O0 w (.sl (.sl (.pr (.int .i64) (.pr (.int .i64) (.int .i64))))) [.slice Al_0 ml_0 cl_0] l_0) {r : (List Int) × (List Int) × Int × Bool} (hb : F.law46_generic n l_0 = some r) :
    Calls Try.prog 23 #[.slice Al_0 ml_0 cl_0] w fun e w' => ∃ v, e = .returned v ∧ ∃ (A0 : Option Addr) (m0 c0 : Nat) (A1 : Option Addr) (m1 c1 : Nat), v = .tuple #[.agg #[.slice A0 m0 c0, .slice A1 m1 c1, .int .i64 r.2.2.1], .bool r.2.2.2] ∧ I64 r.2.2.1 ∧ Cx (fun _ => False) O0 w w' [.own 3 (.int .i64) (.slice A0 m0 c0) r.1, .own 3 (.int .i64) (.slice A1 m1 c1) r.2.1] := by
 unfold F.law46_generic at hb
 have hC := Cx.start hO
 replace hC := hC.arg rfl hl_0
 clear hO
 obtain ⟨rfl, hll_0, hcl_0⟩ := hl_0.sl_len
 refine calls_of_Wc Try.func23 rfl (by rw [Try.ntmps23]; exact Nat.le_of_ble_eq_true rfl) fun KR hKR => ?_
 refine Wc.seq fun K2 hK2 => ?_
 refine rg ?_
 refine lex.op (hC.alloc (cs := [.slice none 0 0, .slice none 0 0, .int .i64 0]) Try.zeroValue32 rfl) ?_
 rintro _ w4 ⟨g3, rfl, hC, hF, hG⟩
 clear hG
 refine lp (.bool false) (pu_assign rfl) ?_
 refine ln ?_
 refine hK2 _ _ ?_
 refine Wc.seq fun K6 hK6 => ?_
 refine Wc.seq fun K7 hK7 => ?_
 refine rg ?_
 refine lp (.slice Al_0 l_0.length cl_0) (pu_move rfl) ?_
 obtain ⟨y8, h9, hb⟩ := bd hb
 refine lex.cl (⟨_, _, op_call (vs := [.slice Al_0 l_0.length cl_0]) Try.call14 rfl rfl rfl, law46_few_ok n hC.lt (hC.rd (i := 1) rfl) h9⟩) ?_
 rintro _ w10 ⟨rfl, hK⟩
 replace hC := hC.merge hK
 clear hK
 refine lp (.bool (!y8)) (pu_not (q := y8) rfl) ?_
 refine ln ?_
 refine hK7 _ _ ?_
 refine Wc.cond (t := (!y8)) (rfl) (fun hq11 => ?_) (fun hq11 => ?_)
 replace hb := tt hq11 hb
 refine Wc.seq fun K12 hK12 => ?_
 refine rg ?_
 refine lp (.agg #[.slice none 0 0, .slice none 0 0, .int .i64 0]) (pu_builds (places := [(0, 1), (1, 1), (2, 1)]) (pv := []) Try.type32 Try.underlying32 rfl (mp_cons Try.type30 (mp_cons Try.type30 (mp_cons Try.type3 mp_nil rfl rfl) rfl rfl) rfl rfl) rfl (by simp [Instr.fill, Value.cells])) ?_
 refine lex.sk (hC.seta (i := 0) (ds := [.slice none 0 0, .slice none 0 0, .int .i64 0]) rfl Try.type32 rfl rfl rfl rfl rfl) ?_
 rintro w13 ⟨hC, hF⟩
 refine lp (.bool false) (pu_assign rfl) ?_
 refine ln ?_
 refine hK12 _ _ ?_
 replace hC := hC.nil 3 (.int .i64)
 replace hC := hC.nil 3 (.int .i64)
 obtain rfl := os hb
 refine Wc.ret ?_
 refine hKR _ _ ?_
 refine ⟨_, res2 Try.results23 ⟨_, rfl, loadVar_blk (hC.bx (i := 2) rfl) Try.isAgg32 Try.sizeOf32⟩ (show RV _ _ _ (.tmp _) (.bool false) from rfl), _, rfl, none, 0, 0, none, 0, 0, rfl, (show I64 0 from by unfold I64; omega), hC.sel [1, 0] (by decide)⟩
 replace hb := tf hq11 hb
 refine Wc.skip ?_
 refine hK6 _ _ ?_
 refine Wc.seq fun K16 hK16 => ?_
 refine rg ?_
 refine lp (.slice Al_0 l_0.length cl_0) (pu_move rfl) ?_
 obtain ⟨y17, h18, hb⟩ := bd hb
 refine lex.cl (⟨_, _, op_call (vs := [.slice Al_0 l_0.length cl_0]) Try.call15 rfl rfl rfl, polygon_Project_ok n hC.lt (hC.rd (i := 1) rfl) h18⟩) ?_
 rintro _ w29 ⟨A19, m20, c21, A23, m24, c25, rfl, hr27, hr28, hK⟩
 replace hC := hC.merge hK
 clear hK
 obtain ⟨rfl, hl30, hc31⟩ := (hC.ow (i := 0) rfl).sl_len
 obtain ⟨rfl, hl32, hc33⟩ := (hC.ow (i := 1) rfl).sl_len
 refine lp (.tuple #[.agg #[.slice A19 y17.1.length c21, .slice A23 y17.2.1.length c25, .int .i64 y17.2.2.1], .int .i64 y17.2.2.2]) (pu_move rfl) ?_
 refine lp (.agg #[.slice A19 y17.1.length c21, .slice A23 y17.2.1.length c25, .int .i64 y17.2.2.1]) (pu_extract rfl rfl) ?_
 refine lp (.int .i64 y17.2.2.2) (pu_extract rfl rfl) ?_
 refine lex.op (hC.alloc (cs := [.slice none 0 0, .slice none 0 0, .int .i64 0]) Try.zeroValue32 rfl) ?_
 rintro _ w35 ⟨g34, rfl, hC, hF, hG⟩
 clear hG
 refine lex.sk (hC.seta (i := 0) (ds := [.slice A19 y17.1.length c21, .slice A23 y17.2.1.length c25, .int .i64 y17.2.2.1]) rfl Try.type32 rfl rfl rfl rfl rfl) ?_
 rintro w37 ⟨hC, hF⟩
 refine lp (.int .i64 y17.2.2.2) (pu_assign rfl) ?_
 refine ln ?_
 refine hK16 _ _ ?_
 refine Wc.fresh fun E38 hE => ?_
 have e2 : E38 2 = .pointer (some ⟨g3, 0, none⟩) := (congrFun hE 2).trans rfl
 have e3 : E38 3 = .bool false := (congrFun hE 3).trans rfl
 have e4 : E38 4 = .pointer (some ⟨g34, 0, none⟩) := (congrFun hE 4).trans rfl
 have e5 : E38 5 = .int .i64 y17.2.2.2 := (congrFun hE 5).trans rfl
 clear hE
 refine Wc.seq fun K39 hK39 => ?_
 refine rg ?_
 refine lv (.agg #[.slice A19 y17.1.length c21, .slice A23 y17.2.1.length c25, .int .i64 y17.2.2.1]) (ld_blk (hC.bx (i := 0) rfl) Try.isAgg32 Try.sizeOf32 e4) ?_
 refine lp (.int .i64 y17.2.2.2) (pu_move e5) ?_
 refine lp (.bool (decide (y17.2.2.2 = 0))) (pu_eql (k := .i64) (a := y17.2.2.2) (b := 0) rfl rfl) ?_
 refine lex.sk (hC.seta (i := 3) (ds := [.slice A19 y17.1.length c21, .slice A23 y17.2.1.length c25, .int .i64 y17.2.2.1]) rfl Try.type32 rfl rfl rfl e2 rfl) ?_
 rintro w40 ⟨hC, hF⟩
 refine lp (.bool (decide (y17.2.2.2 = 0))) (pu_assign rfl) ?_
 refine ln ?_
 refine hK39 _ _ ?_
 obtain rfl := os hb
 refine Wc.ret ?_
 refine hKR _ _ ?_
 refine ⟨_, res2 Try.results23 ⟨_, e2, loadVar_blk (hC.bx (i := 3) rfl) Try.isAgg32 Try.sizeOf32⟩ (show RV _ _ _ (.tmp _) (.bool (decide (y17.2.2.2 = 0))) from rfl), _, rfl, A19, y17.1.length, c21, A23, y17.2.1.length, c25, rfl, hr27, hC.sel [1, 2] (by decide)⟩

set_option maxRecDepth 100000 in
set_option maxHeartbeats 4000000 in
theorem law46_PolygonMirrors_c1_ok (n : Nat) {w : World} {O0 : List Nat} (hO : ∀ k ∈ O0, k < w.heap.size) {p_0_0 : Int} (hp_0_0 : I64 p_0_0) {p_0_1 : Int} (hp_0_1 : I64 p_0_1) {p_0_2 : Int} (hp_0_2 : I64 p_0_2) {r : Int × Int × Int} (hb : F.law46_PolygonMirrors_c1 n p_0_0 p_0_1 p_0_2 = some r) :
    Calls Try.prog 29 #[.agg #[.int .i64 p_0_0, .int .i64 p_0_1, .int .i64 p_0_2]] w fun e w' => ∃ v, e = .returned v ∧ v = .agg #[.int .i64 r.1, .int .i64 r.2.1, .int .i64 r.2.2] ∧ I64 r.1 ∧ I64 r.2.1 ∧ I64 r.2.2 ∧ Cx (fun _ => False) O0 w w' [] := by
 unfold F.law46_PolygonMirrors_c1 at hb
 have hC := Cx.start hO
 clear hO
 refine calls_of_Wc Try.func29 rfl (by rw [Try.ntmps29]; exact Nat.le_of_ble_eq_true rfl) fun KR hKR => ?_
 refine Wc.seq fun K1 hK1 => ?_
 refine rg ?_
 refine lex.op (hC.box (cs := [.int .i64 p_0_0, .int .i64 p_0_1, .int .i64 p_0_2]) rfl rfl) ?_
 rintro _ w3 ⟨g2, rfl, hC, hF, hG⟩
 clear hG
 refine lex.op (hC.alloc (cs := [.int .i64 0, .int .i64 0, .int .i64 0]) Try.zeroValue23 rfl) ?_
 rintro _ w6 ⟨g5, rfl, hC, hF, hG⟩
 clear hG
 refine ln ?_
 refine hK1 _ _ ?_
 refine Wc.seq fun K8 hK8 => ?_
 refine rg ?_
 refine lp (.pointer (some ((⟨g2, 0, none⟩ : Addr).add 0))) (pu_field (sz := 1) Try.underlying23 rfl Try.sizeOf3 (by decide) rfl rfl) ?_
 refine lv (.int .i64 p_0_0) (ld_fld (hC.bx (i := 1) rfl) Try.isAgg3 rfl rfl) ?_
 refine lp (.pointer (some ((⟨g2, 0, none⟩ : Addr).add 1))) (pu_field (sz := 1) Try.underlying23 rfl Try.sizeOf3 (by decide) rfl rfl) ?_
 refine lv (.int .i64 p_0_1) (ld_fld (hC.bx (i := 1) rfl) Try.isAgg3 rfl rfl) ?_
 refine lp (.pointer (some ((⟨g2, 0, none⟩ : Addr).add 2))) (pu_field (sz := 1) Try.underlying23 rfl Try.sizeOf3 (by decide) rfl rfl) ?_
 refine lv (.int .i64 p_0_2) (ld_fld (hC.bx (i := 1) rfl) Try.isAgg3 rfl rfl) ?_
 obtain ⟨z9, h10, hb⟩ := bd hb
 refine lp (.int .i64 z9) (pu_negc (a := p_0_2) rfl h10) ?_
 refine lp (.agg #[.int .i64 p_0_0, .int .i64 p_0_1, .int .i64 z9]) (pu_builds (places := [(0, 1), (1, 1), (2, 1)]) (pv := [(0, .int .i64 p_0_0), (1, .int .i64 p_0_1), (2, .int .i64 z9)]) Try.type23 Try.underlying23 rfl (mp_cons Try.type3 (mp_cons Try.type3 (mp_cons Try.type3 mp_nil rfl rfl) rfl rfl) rfl rfl) rfl (by simp [Instr.fill, Value.cells])) ?_
 refine lex.sk (hC.seta (i := 0) (ds := [.int .i64 p_0_0, .int .i64 p_0_1, .int .i64 z9]) rfl Try.type23 rfl rfl rfl rfl rfl) ?_
 rintro w11 ⟨hC, hF⟩
 refine ln ?_
 refine hK8 _ _ ?_
 obtain rfl := os hb
 refine Wc.ret ?_
 refine hKR _ _ ?_
 refine ⟨_, res1 Try.results29 ⟨_, rfl, loadVar_blk (hC.bx (i := 0) rfl) Try.isAgg23 Try.sizeOf23⟩, _, rfl, rfl, hp_0_0, hp_0_1, (chk_rng h10), hC.sel [] (by decide)⟩

set_option maxRecDepth 100000 in
set_option maxHeartbeats 4000000 in
theorem law46_moved_law46_PolygonMirrors_c1_ok (n : Nat) {w : World} {O0 : List Nat} (hO : ∀ k ∈ O0, k < w.heap.size) {Al_0 : Option Addr} {ml_0 cl_0 : Nat} {l_0 : List (List (Int × (Int × Int)))} (hl_0 : Rep O0 w (.sl (.sl (.pr (.int .i64) (.pr (.int .i64) (.int .i64))))) [.slice Al_0 ml_0 cl_0] l_0) {r : (List (List (Int × (Int × Int))))} (hb : F.law46_moved_law46_PolygonMirrors_c1 n l_0 = some r) :
    Calls Try.prog 24 #[.slice Al_0 ml_0 cl_0, .func (.func 29) #[] #[]] w fun e w' => ∃ v, e = .returned v ∧ ∃ (A0 : Option Addr) (m0 c0 : Nat), v = .slice A0 m0 c0 ∧ Cx (fun _ => False) O0 w w' [.own 43 (.sl (.pr (.int .i64) (.pr (.int .i64) (.int .i64)))) (.slice A0 m0 c0) r] := by
 unfold F.law46_moved_law46_PolygonMirrors_c1 at hb
 have hC := Cx.start hO
 replace hC := hC.arg rfl hl_0
 clear hO
 obtain ⟨rfl, hll_0, hcl_0⟩ := hl_0.sl_len
 refine calls_of_Wc Try.func24 rfl (by rw [Try.ntmps24]; exact Nat.le_of_ble_eq_true rfl) fun KR hKR => ?_
 refine Wc.seq fun K2 hK2 => ?_
 refine rg ?_
 refine lp (.slice none 0 0) (pu_assign rfl) ?_
 refine ln ?_
 refine hK2 _ _ ?_
 refine Wc.seq fun K3 hK3 => ?_
 refine rg ?_
 refine lp (.slice none 0 0) (pu_assign rfl) ?_
 refine ln ?_
 refine hK3 _ _ ?_
 refine Wc.seq fun K4 hK4 => ?_
 refine Wc.seq fun K5 hK5 => ?_
 refine rg ?_
 refine lp (.slice Al_0 l_0.length cl_0) (pu_move rfl) ?_
 refine lp (.int .i64 (l_0.length : Int)) (pu_len (A := Al_0) (n := l_0.length) (m := cl_0) Try.underlying28 rfl) ?_
 refine lp (.int .i64 0) (pu_move rfl) ?_
 refine ln ?_
 refine hK5 _ _ ?_
 replace hC := hC.nil 43 (.sl (.pr (.int .i64) (.pr (.int .i64) (.int .i64))))
 obtain ⟨o7, hl0, hb⟩ := bd hb
 refine Wc.cut (fun E wv => ∃ (l5_0 : List (List (Int × (Int × Int)))) (v13_0 : Int) (Al5_0 : Option Addr) (ml5_0 cl5_0 : Nat), E 4 = .slice none 0 0 ∧ E 5 = .slice Al5_0 ml5_0 cl5_0 ∧ I64 v13_0 ∧ Cx (fun _ => False) O0 w wv [.own 43 (.sl (.pr (.int .i64) (.pr (.int .i64) (.int .i64)))) (.slice Al5_0 ml5_0 cl5_0) l5_0] ∧ (some l5_0 : Option ((List (List (Int × (Int × Int)))))) = some r) (fun K8 hK8 => ?_) ?_
 refine Wc.block ?_
 refine Wc.loop (fun m E wv => ∃ (l5_0 : List (List (Int × (Int × Int)))) (v13_0 : Int) (Al5_0 : Option Addr) (ml5_0 cl5_0 : Nat), E 1 = .func (.func 29) #[] #[] ∧ E 4 = .slice none 0 0 ∧ E 5 = .slice Al5_0 ml5_0 cl5_0 ∧ E 11 = .slice Al_0 l_0.length cl_0 ∧ E 12 = .int .i64 (l_0.length : Int) ∧ E 13 = .int .i64 v13_0 ∧ I64 v13_0 ∧ Cx (fun _ => False) O0 w wv [.own 43 (.sl (.pr (.int .i64) (.pr (.int .i64) (.int .i64)))) (.slice Al5_0 ml5_0 cl5_0) l5_0, .ro (.sl (.sl (.pr (.int .i64) (.pr (.int .i64) (.int .i64))))) [.slice Al_0 l_0.length cl_0] l_0] ∧ loopN m (F.law46_moved_law46_PolygonMirrors_c1_b0 n l_0) (l5_0, v13_0) = some o7) n ⟨([] : List (List (Int × (Int × Int)))), 0, none, 0, 0, rfl, rfl, rfl, rfl, rfl, rfl, (show I64 0 from by unfold I64; omega), hC.sel [0, 1] (by decide), hl0⟩ ?_
 have hbK0 := hb
 clear hb hC hl0
 rintro m10 E12 w11 ⟨l5_0, v13_0, Al5_0, ml5_0, cl5_0, e1, e4, e5, e11, e12, e13, hrv13_0, hC, hl0⟩ K9 hK9
 obtain ⟨m10', o13, rfl, hb, hl0⟩ := loopN_some hl0
 unfold F.law46_moved_law46_PolygonMirrors_c1_b0 at hb
 obtain ⟨rfl, hll5_0, hcl5_0⟩ := (hC.ow (i := 0) rfl).sl_len
 refine Wc.seq fun K14 hK14 => ?_
 refine rg ?_
 refine lp (.bool (decide (v13_0 < (l_0.length : Int)))) (pu_lss (k := .i64) (a := v13_0) (b := (l_0.length : Int)) e13 e12) ?_
 refine ln ?_
 refine hK14 _ _ ?_
 refine Wc.seq fun K15 hK15 => ?_
 refine Wc.cond (t := (decide (v13_0 < (l_0.length : Int)))) (rfl) (fun hq16 => ?_) (fun hq16 => ?_)
 replace hb := tt hq16 hb
 refine Wc.skip ?_
 refine hK15 _ _ ?_
 refine Wc.seq fun K17 hK17 => ?_
 refine Wc.block ?_
 refine Wc.seq fun K18 hK18 => ?_
 refine rg ?_
 obtain ⟨x19, h20, hb⟩ := bd hb
 obtain ⟨ad21, cs22, hA, hc23, hr24⟩ := hC.elr (i := 1) rfl (get_some h20).2
 subst hA
 refine lp (.pointer (some (ad21.add (v13_0.toNat * 1)))) (pu_index (a := v13_0) Try.underlying28 Try.sizeOf43 e11 e13 (get_some h20).1) ?_
 have hR := hr24
 obtain ⟨A25, c26, rfl, hl27, hc28, _⟩ := hr24
 replace hC := hC.ro hR
 clear hR
 refine lv (.slice A25 x19.length c26) (ld_one Try.isAgg43 rfl (hc23 0 _ rfl)) ?_
 refine lp (.slice A25 x19.length c26) (pu_assign rfl) ?_
 refine ln ?_
 refine hK18 _ _ ?_
 refine Wc.seq fun K30 hK30 => ?_
 refine rg ?_
 refine lp (.slice none 0 0) (pu_assign rfl) ?_
 refine ln ?_
 refine hK30 _ _ ?_
 refine Wc.seq fun K31 hK31 => ?_
 refine Wc.seq fun K32 hK32 => ?_
 refine rg ?_
 refine lp (.slice A25 x19.length c26) (pu_move rfl) ?_
 refine lp (.int .i64 (x19.length : Int)) (pu_len (A := A25) (n := x19.length) (m := c26) Try.underlying43 rfl) ?_
 refine lp (.int .i64 0) (pu_move rfl) ?_
 refine ln ?_
 refine hK32 _ _ ?_
 replace hC := hC.nil 23 (.pr (.int .i64) (.pr (.int .i64) (.int .i64)))
 obtain ⟨o34, hl1, hb⟩ := bd hb
 refine Wc.cut (fun E wv => ∃ (l8_1 : List (Int × (Int × Int))) (v19_1 : Int) (Al8_1 : Option Addr) (ml8_1 cl8_1 : Nat), E 1 = .func (.func 29) #[] #[] ∧ E 4 = .slice none 0 0 ∧ E 5 = .slice Al5_0 l5_0.length cl5_0 ∧ E 7 = .slice A25 x19.length c26 ∧ E 8 = .slice Al8_1 ml8_1 cl8_1 ∧ E 11 = .slice (some ad21) l_0.length cl_0 ∧ E 12 = .int .i64 (l_0.length : Int) ∧ E 13 = .int .i64 v13_0 ∧ E 14 = .bool (decide (v13_0 < (l_0.length : Int))) ∧ E 17 = .slice A25 x19.length c26 ∧ E 18 = .int .i64 (x19.length : Int) ∧ E 19 = .int .i64 v19_1 ∧ I64 v19_1 ∧ Cx (fun _ => False) O0 w wv [.own 43 (.sl (.pr (.int .i64) (.pr (.int .i64) (.int .i64)))) (.slice Al5_0 l5_0.length cl5_0) l5_0, .ro (.sl (.pr (.int .i64) (.pr (.int .i64) (.int .i64)))) [.slice A25 x19.length c26] x19, .own 23 (.pr (.int .i64) (.pr (.int .i64) (.int .i64))) (.slice Al8_1 ml8_1 cl8_1) l8_1, .ro (.sl (.sl (.pr (.int .i64) (.pr (.int .i64) (.int .i64))))) [.slice (some ad21) l_0.length cl_0] l_0] ∧ ((lim (l5_0.length + ([l8_1] : List (List (Int × (Int × Int)))).length)).bind fun u93 => (chk (v13_0 + 1)).bind fun z100 => some (.inl ((l5_0 ++ ([l8_1] : List (List (Int × (Int × Int))))), z100)) : Option (((List (List (Int × (Int × Int)))) × Int) ⊕ (((List (List (Int × (Int × Int)))) × Int)))) = some o13) (fun K35 hK35 => ?_) ?_
 refine Wc.block ?_
 refine Wc.loop (fun m E wv => ∃ (l8_1 : List (Int × (Int × Int))) (v19_1 : Int) (Al8_1 : Option Addr) (ml8_1 cl8_1 : Nat), E 1 = .func (.func 29) #[] #[] ∧ E 4 = .slice none 0 0 ∧ E 5 = .slice Al5_0 l5_0.length cl5_0 ∧ E 7 = .slice A25 x19.length c26 ∧ E 8 = .slice Al8_1 ml8_1 cl8_1 ∧ E 11 = .slice (some ad21) l_0.length cl_0 ∧ E 12 = .int .i64 (l_0.length : Int) ∧ E 13 = .int .i64 v13_0 ∧ E 14 = .bool (decide (v13_0 < (l_0.length : Int))) ∧ E 17 = .slice A25 x19.length c26 ∧ E 18 = .int .i64 (x19.length : Int) ∧ E 19 = .int .i64 v19_1 ∧ I64 v19_1 ∧ Cx (fun _ => False) O0 w wv [.own 43 (.sl (.pr (.int .i64) (.pr (.int .i64) (.int .i64)))) (.slice Al5_0 l5_0.length cl5_0) l5_0, .ro (.sl (.pr (.int .i64) (.pr (.int .i64) (.int .i64)))) [.slice A25 x19.length c26] x19, .own 23 (.pr (.int .i64) (.pr (.int .i64) (.int .i64))) (.slice Al8_1 ml8_1 cl8_1) l8_1, .ro (.sl (.sl (.pr (.int .i64) (.pr (.int .i64) (.int .i64))))) [.slice (some ad21) l_0.length cl_0] l_0] ∧ loopN m (F.law46_moved_law46_PolygonMirrors_c1_b1 n x19) (l8_1, v19_1) = some o34) n ⟨([] : List (Int × (Int × Int))), 0, none, 0, 0, e1, e4, e5, rfl, rfl, e11, e12, e13, rfl, rfl, rfl, rfl, (show I64 0 from by unfold I64; omega), hC.sel [2, 1, 0, 3] (by decide), hl1⟩ ?_
 have hbK1 := hb
 clear hb hC hl1
 rintro m37 E39 w38 ⟨l8_1, v19_1, Al8_1, ml8_1, cl8_1, e1, e4, e5, e7, e8, e11, e12, e13, e14, e17, e18, e19, hrv19_1, hC, hl1⟩ K36 hK36
 obtain ⟨m37', o40, rfl, hb, hl1⟩ := loopN_some hl1
 unfold F.law46_moved_law46_PolygonMirrors_c1_b1 at hb
 obtain ⟨rfl, hll8_1, hcl8_1⟩ := (hC.ow (i := 2) rfl).sl_len
 refine Wc.seq fun K41 hK41 => ?_
 refine rg ?_
 refine lp (.bool (decide (v19_1 < (x19.length : Int)))) (pu_lss (k := .i64) (a := v19_1) (b := (x19.length : Int)) e19 e18) ?_
 refine ln ?_
 refine hK41 _ _ ?_
 refine Wc.seq fun K42 hK42 => ?_
 refine Wc.cond (t := (decide (v19_1 < (x19.length : Int)))) (rfl) (fun hq43 => ?_) (fun hq43 => ?_)
 replace hb := tt hq43 hb
 refine Wc.skip ?_
 refine hK42 _ _ ?_
 refine Wc.seq fun K44 hK44 => ?_
 refine Wc.block ?_
 refine Wc.seq fun K45 hK45 => ?_
 refine rg ?_
 obtain ⟨x46, h47, hb⟩ := bd hb
 obtain ⟨ad48, cs49, hA, hc50, hr51⟩ := hC.elr (i := 1) rfl (get_some h47).2
 subst hA
 refine lp (.pointer (some (ad48.add (v19_1.toNat * 3)))) (pu_index (a := v19_1) Try.underlying43 Try.sizeOf23 e17 e19 (get_some h47).1) ?_
 obtain ⟨k52, k53, rfl, hr54, hr55⟩ := hr51
 obtain ⟨rfl, hr54⟩ := hr54
 obtain ⟨k56, k57, rfl, hr58, hr59⟩ := hr55
 obtain ⟨rfl, hr58⟩ := hr58
 obtain ⟨rfl, hr59⟩ := hr59
 refine lv (.agg #[.int .i64 x46.1, .int .i64 x46.2.1, .int .i64 x46.2.2]) (ld_agg Try.isAgg23 Try.sizeOf23 rfl rfl hc50) ?_
 refine lex.op (hC.alloc (cs := [.int .i64 0, .int .i64 0, .int .i64 0]) Try.zeroValue23 rfl) ?_
 rintro _ w61 ⟨g60, rfl, hC, hF, hG⟩
 clear hG
 refine lex.sk (hC.seta (i := 0) (ds := [.int .i64 x46.1, .int .i64 x46.2.1, .int .i64 x46.2.2]) rfl Try.type23 rfl rfl rfl rfl rfl) ?_
 rintro w63 ⟨hC, hF⟩
 refine ln ?_
 refine hK45 _ _ ?_
 refine rg ?_
 refine lp (.slice Al8_1 l8_1.length cl8_1) (pu_move e8) ?_
 refine lp (.func (.func 29) #[] #[]) (pu_move e1) ?_
 refine lv (.agg #[.int .i64 x46.1, .int .i64 x46.2.1, .int .i64 x46.2.2]) (ld_blk (hC.bx (i := 0) rfl) Try.isAgg23 Try.sizeOf23 rfl) ?_
 obtain ⟨y64, h65, hb⟩ := bd hb
 refine lex.cl (⟨_, _, op_callv (vs := [.agg #[.int .i64 x46.1, .int .i64 x46.2.1, .int .i64 x46.2.2]]) (ca := #[]) Try.call29 rfl rfl rfl, law46_PolygonMirrors_c1_ok n hC.lt (wrap_I64 hr54) (wrap_I64 hr58) (wrap_I64 hr59) h65⟩) ?_
 rintro _ w69 ⟨rfl, hr66, hr67, hr68, hK⟩
 replace hC := hC.merge hK
 clear hK
 refine lex.op (hC.lit (s := (.pr (.int .i64) (.pr (.int .i64) (.int .i64)))) (vs := [.agg #[.int .i64 y64.1, .int .i64 y64.2.1, .int .i64 y64.2.2]]) (xs := [(y64.1, (y64.2.1, y64.2.2))]) Try.underlying43 Try.type23 rfl rfl (Nat.le_of_ble_eq_true rfl) rfl rfl (by simp [Value.cells, Sh.n]) rfl (show Elems _ _ (.pr (.int .i64) (.pr (.int .i64) (.int .i64))) ([.int .i64 y64.1, .int .i64 y64.2.1, .int .i64 y64.2.2] ++ ([])) ([(y64.1, (y64.2.1, y64.2.2))] : List (Int × (Int × Int))) from Elems.cons (⟨[.int .i64 y64.1], [.int .i64 y64.2.1, .int .i64 y64.2.2], rfl, ⟨rfl, I64.wr hr66⟩, ⟨[.int .i64 y64.2.1], [.int .i64 y64.2.2], rfl, ⟨rfl, I64.wr hr67⟩, ⟨rfl, I64.wr hr68⟩⟩⟩) (Elems.nil _ _ _))) ?_
 rintro _ w74 ⟨A70, c71, rfl, hl72, hc73, hC, hF, hN⟩
 clear hF hN
 obtain ⟨u76, h77, hb⟩ := bd hb
 refine lex.op (hC.app (i := 4) (s := (.pr (.int .i64) (.pr (.int .i64) (.int .i64)))) (xs := l8_1) (ys := ([(y64.1, (y64.2.1, y64.2.2))] : List (Int × (Int × Int)))) (m := ((([(y64.1, (y64.2.1, y64.2.2))] : List (Int × (Int × Int)))).length)) rfl Try.underlying43 Try.underlying43 Try.type23 rfl rfl rfl (hC.srco (i := 0) rfl) rfl rfl (by have := lim_some h77; simp at this ⊢ <;> omega) (by decide)) ?_
 rintro _ w82 ⟨A78, c79, rfl, hl80, hc81, hC, hF, hN⟩
 clear hF hN
 refine lp (.slice A78 ((l8_1 ++ ([(y64.1, (y64.2.1, y64.2.2))] : List (Int × (Int × Int)))).length) c79) (pu_assign rfl) ?_
 refine ln ?_
 refine hK44 _ _ ?_
 refine rg ?_
 obtain ⟨z83, h84, hb⟩ := bd hb
 refine lp (.int .i64 z83) (pu_addc (a := v19_1) (b := 1) e19 rfl h84) ?_
 refine lp (.int .i64 z83) (pu_move rfl) ?_
 refine ln ?_
 obtain rfl := os hb
 exact hK36 m37' _ _ (Nat.lt_succ_self _) ⟨(l8_1 ++ ([(y64.1, (y64.2.1, y64.2.2))] : List (Int × (Int × Int)))), z83, A78, (l8_1 ++ ([(y64.1, (y64.2.1, y64.2.2))] : List (Int × (Int × Int)))).length, c79, e1, e4, e5, e7, rfl, e11, e12, e13, e14, e17, e18, rfl, (chk_rng h84), hC.sel [2, 3, 4, 5] (by decide), lN hl1⟩
 replace hb := tf hq43 hb
 refine Wc.exit rfl ?_
 obtain rfl := os hb
 obtain rfl := (lX hl1).symm
 exact hK35 _ _ ⟨l8_1, v19_1, Al8_1, l8_1.length, cl8_1, e1, e4, e5, e7, e8, e11, e12, e13, e14, e17, e18, e19, hrv19_1, hC.sel [0, 1, 2, 3] (by decide), hbK1⟩
 clear hb hC hl1
 rintro E86 w85 ⟨l8_1, v19_1, Al8_1, ml8_1, cl8_1, e1, e4, e5, e7, e8, e11, e12, e13, e14, e17, e18, e19, hrv19_1, hC, hb⟩
 obtain ⟨rfl, hll8_1, hcl8_1⟩ := (hC.ow (i := 2) rfl).sl_len
 refine hK31 _ _ ?_
 refine rg ?_
 refine lp (.slice Al5_0 l5_0.length cl5_0) (pu_move e5) ?_
 refine lp (.slice Al8_1 l8_1.length cl8_1) (pu_move e8) ?_
 replace hC := hC.freeze (i := 2) rfl (hC.own_new (i := 2) rfl)
 refine lex.op (hC.lit (s := (.sl (.pr (.int .i64) (.pr (.int .i64) (.int .i64))))) (vs := [.slice Al8_1 l8_1.length cl8_1]) (xs := [l8_1]) Try.underlying28 Try.type43 rfl rfl (Nat.le_of_ble_eq_true rfl) rfl rfl (by simp [Value.cells, Sh.n]) rfl (show Elems _ _ (.sl (.pr (.int .i64) (.pr (.int .i64) (.int .i64)))) ([.slice Al8_1 l8_1.length cl8_1] ++ ([])) ([l8_1] : List (List (Int × (Int × Int)))) from Elems.cons (hC.rd (i := 2) rfl) (Elems.nil _ _ _))) ?_
 rintro _ w91 ⟨A87, c88, rfl, hl89, hc90, hC, hF, hN⟩
 clear hF hN
 obtain ⟨u93, h94, hb⟩ := bd hb
 refine lex.op (hC.app (i := 1) (s := (.sl (.pr (.int .i64) (.pr (.int .i64) (.int .i64))))) (xs := l5_0) (ys := ([l8_1] : List (List (Int × (Int × Int))))) (m := ((([l8_1] : List (List (Int × (Int × Int))))).length)) rfl Try.underlying28 Try.underlying28 Try.type43 rfl rfl rfl (hC.srco (i := 0) rfl) rfl rfl (by have := lim_some h94; simp at this ⊢ <;> omega) (by decide)) ?_
 rintro _ w99 ⟨A95, c96, rfl, hl97, hc98, hC, hF, hN⟩
 clear hF hN
 refine lp (.slice A95 ((l5_0 ++ ([l8_1] : List (List (Int × (Int × Int))))).length) c96) (pu_assign rfl) ?_
 refine ln ?_
 refine hK17 _ _ ?_
 refine rg ?_
 obtain ⟨z100, h101, hb⟩ := bd hb
 refine lp (.int .i64 z100) (pu_addc (a := v13_0) (b := 1) e13 rfl h101) ?_
 refine lp (.int .i64 z100) (pu_move rfl) ?_
 refine ln ?_
 obtain rfl := os hb
 exact hK9 m10' _ _ (Nat.lt_succ_self _) ⟨(l5_0 ++ ([l8_1] : List (List (Int × (Int × Int))))), z100, A95, (l5_0 ++ ([l8_1] : List (List (Int × (Int × Int))))).length, c96, e1, e4, rfl, e11, e12, rfl, (chk_rng h101), hC.sel [1, 4] (by decide), lN hl0⟩
 replace hb := tf hq16 hb
 refine Wc.exit rfl ?_
 obtain rfl := os hb
 obtain rfl := (lX hl0).symm
 exact hK8 _ _ ⟨l5_0, v13_0, Al5_0, l5_0.length, cl5_0, e4, e5, hrv13_0, hC.sel [0] (by decide), hbK0⟩
 clear hb hC hl0
 rintro E103 w102 ⟨l5_0, v13_0, Al5_0, ml5_0, cl5_0, e4, e5, hrv13_0, hC, hb⟩
 obtain ⟨rfl, hll5_0, hcl5_0⟩ := (hC.ow (i := 0) rfl).sl_len
 refine hK4 _ _ ?_
 refine Wc.seq fun K104 hK104 => ?_
 refine rg ?_
 refine lp (.slice Al5_0 l5_0.length cl5_0) (pu_move e5) ?_
 refine lp (.slice Al5_0 l5_0.length cl5_0) (pu_assign rfl) ?_
 refine ln ?_
 refine hK104 _ _ ?_
 obtain rfl := os hb
 refine Wc.ret ?_
 refine hKR _ _ ?_
 refine ⟨_, res1 Try.results24 (show RV _ _ _ (.tmp _) (.slice Al5_0 l5_0.length cl5_0) from rfl), _, rfl, Al5_0, l5_0.length, cl5_0, rfl, hC.sel [0] (by decide)⟩

set_option maxRecDepth 100000 in
set_option maxHeartbeats 4000000 in
theorem law46_PolygonMirrors_c2_ok (n : Nat) {w : World} {O0 : List Nat} (hO : ∀ k ∈ O0, k < w.heap.size) {p_0_0 : Int} (hp_0_0 : I64 p_0_0) {p_0_1 : Int} (hp_0_1 : I64 p_0_1) {p_0_2 : Int} (hp_0_2 : I64 p_0_2) {r : Int × Int × Int} (hb : F.law46_PolygonMirrors_c2 n p_0_0 p_0_1 p_0_2 = some r) :
    Calls Try.prog 30 #[.agg #[.int .i64 p_0_0, .int .i64 p_0_1, .int .i64 p_0_2]] w fun e w' => ∃ v, e = .returned v ∧ v = .agg #[.int .i64 r.1, .int .i64 r.2.1, .int .i64 r.2.2] ∧ I64 r.1 ∧ I64 r.2.1 ∧ I64 r.2.2 ∧ Cx (fun _ => False) O0 w w' [] := by
 unfold F.law46_PolygonMirrors_c2 at hb
 have hC := Cx.start hO
 clear hO
 refine calls_of_Wc Try.func30 rfl (by rw [Try.ntmps30]; exact Nat.le_of_ble_eq_true rfl) fun KR hKR => ?_
 refine Wc.seq fun K1 hK1 => ?_
 refine rg ?_
 refine lex.op (hC.box (cs := [.int .i64 p_0_0, .int .i64 p_0_1, .int .i64 p_0_2]) rfl rfl) ?_
 rintro _ w3 ⟨g2, rfl, hC, hF, hG⟩
 clear hG
 refine lex.op (hC.alloc (cs := [.int .i64 0, .int .i64 0, .int .i64 0]) Try.zeroValue23 rfl) ?_
 rintro _ w6 ⟨g5, rfl, hC, hF, hG⟩
 clear hG
 refine ln ?_
 refine hK1 _ _ ?_
 refine Wc.seq fun K8 hK8 => ?_
 refine rg ?_
 refine lp (.pointer (some ((⟨g2, 0, none⟩ : Addr).add 0))) (pu_field (sz := 1) Try.underlying23 rfl Try.sizeOf3 (by decide) rfl rfl) ?_
 refine lv (.int .i64 p_0_0) (ld_fld (hC.bx (i := 1) rfl) Try.isAgg3 rfl rfl) ?_
 obtain ⟨z9, h10, hb⟩ := bd hb
 refine lp (.int .i64 z9) (pu_negc (a := p_0_0) rfl h10) ?_
 refine lp (.pointer (some ((⟨g2, 0, none⟩ : Addr).add 1))) (pu_field (sz := 1) Try.underlying23 rfl Try.sizeOf3 (by decide) rfl rfl) ?_
 refine lv (.int .i64 p_0_1) (ld_fld (hC.bx (i := 1) rfl) Try.isAgg3 rfl rfl) ?_
 refine lp (.pointer (some ((⟨g2, 0, none⟩ : Addr).add 2))) (pu_field (sz := 1) Try.underlying23 rfl Try.sizeOf3 (by decide) rfl rfl) ?_
 refine lv (.int .i64 p_0_2) (ld_fld (hC.bx (i := 1) rfl) Try.isAgg3 rfl rfl) ?_
 refine lp (.agg #[.int .i64 z9, .int .i64 p_0_1, .int .i64 p_0_2]) (pu_builds (places := [(0, 1), (1, 1), (2, 1)]) (pv := [(0, .int .i64 z9), (1, .int .i64 p_0_1), (2, .int .i64 p_0_2)]) Try.type23 Try.underlying23 rfl (mp_cons Try.type3 (mp_cons Try.type3 (mp_cons Try.type3 mp_nil rfl rfl) rfl rfl) rfl rfl) rfl (by simp [Instr.fill, Value.cells])) ?_
 refine lex.sk (hC.seta (i := 0) (ds := [.int .i64 z9, .int .i64 p_0_1, .int .i64 p_0_2]) rfl Try.type23 rfl rfl rfl rfl rfl) ?_
 rintro w11 ⟨hC, hF⟩
 refine ln ?_
 refine hK8 _ _ ?_
 obtain rfl := os hb
 refine Wc.ret ?_
 refine hKR _ _ ?_
 refine ⟨_, res1 Try.results30 ⟨_, rfl, loadVar_blk (hC.bx (i := 0) rfl) Try.isAgg23 Try.sizeOf23⟩, _, rfl, rfl, (chk_rng h10), hp_0_1, hp_0_2, hC.sel [] (by decide)⟩

set_option maxRecDepth 100000 in
set_option maxHeartbeats 4000000 in
theorem law46_moved_law46_PolygonMirrors_c2_ok (n : Nat) {w : World} {O0 : List Nat} (hO : ∀ k ∈ O0, k < w.heap.size) {Al_0 : Option Addr} {ml_0 cl_0 : Nat} {l_0 : List (List (Int × (Int × Int)))} (hl_0 : Rep O0 w (.sl (.sl (.pr (.int .i64) (.pr (.int .i64) (.int .i64))))) [.slice Al_0 ml_0 cl_0] l_0) {r : (List (List (Int × (Int × Int))))} (hb : F.law46_moved_law46_PolygonMirrors_c2 n l_0 = some r) :
    Calls Try.prog 24 #[.slice Al_0 ml_0 cl_0, .func (.func 30) #[] #[]] w fun e w' => ∃ v, e = .returned v ∧ ∃ (A0 : Option Addr) (m0 c0 : Nat), v = .slice A0 m0 c0 ∧ Cx (fun _ => False) O0 w w' [.own 43 (.sl (.pr (.int .i64) (.pr (.int .i64) (.int .i64)))) (.slice A0 m0 c0) r] := by
 unfold F.law46_moved_law46_PolygonMirrors_c2 at hb
 have hC := Cx.start hO
 replace hC := hC.arg rfl hl_0
 clear hO
 obtain ⟨rfl, hll_0, hcl_0⟩ := hl_0.sl_len
 refine calls_of_Wc Try.func24 rfl (by rw [Try.ntmps24]; exact Nat.le_of_ble_eq_true rfl) fun KR hKR => ?_
 refine Wc.seq fun K2 hK2 => ?_
 refine rg ?_
 refine lp (.slice none 0 0) (pu_assign rfl) ?_
 refine ln ?_
 refine hK2 _ _ ?_
 refine Wc.seq fun K3 hK3 => ?_
 refine rg ?_
 refine lp (.slice none 0 0) (pu_assign rfl) ?_
 refine ln ?_
 refine hK3 _ _ ?_
 refine Wc.seq fun K4 hK4 => ?_
 refine Wc.seq fun K5 hK5 => ?_
 refine rg ?_
 refine lp (.slice Al_0 l_0.length cl_0) (pu_move rfl) ?_
 refine lp (.int .i64 (l_0.length : Int)) (pu_len (A := Al_0) (n := l_0.length) (m := cl_0) Try.underlying28 rfl) ?_
 refine lp (.int .i64 0) (pu_move rfl) ?_
 refine ln ?_
 refine hK5 _ _ ?_
 replace hC := hC.nil 43 (.sl (.pr (.int .i64) (.pr (.int .i64) (.int .i64))))
 obtain ⟨o7, hl0, hb⟩ := bd hb
 refine Wc.cut (fun E wv => ∃ (l5_0 : List (List (Int × (Int × Int)))) (v13_0 : Int) (Al5_0 : Option Addr) (ml5_0 cl5_0 : Nat), E 4 = .slice none 0 0 ∧ E 5 = .slice Al5_0 ml5_0 cl5_0 ∧ I64 v13_0 ∧ Cx (fun _ => False) O0 w wv [.own 43 (.sl (.pr (.int .i64) (.pr (.int .i64) (.int .i64)))) (.slice Al5_0 ml5_0 cl5_0) l5_0] ∧ (some l5_0 : Option ((List (List (Int × (Int × Int)))))) = some r) (fun K8 hK8 => ?_) ?_
 refine Wc.block ?_
 refine Wc.loop (fun m E wv => ∃ (l5_0 : List (List (Int × (Int × Int)))) (v13_0 : Int) (Al5_0 : Option Addr) (ml5_0 cl5_0 : Nat), E 1 = .func (.func 30) #[] #[] ∧ E 4 = .slice none 0 0 ∧ E 5 = .slice Al5_0 ml5_0 cl5_0 ∧ E 11 = .slice Al_0 l_0.length cl_0 ∧ E 12 = .int .i64 (l_0.length : Int) ∧ E 13 = .int .i64 v13_0 ∧ I64 v13_0 ∧ Cx (fun _ => False) O0 w wv [.own 43 (.sl (.pr (.int .i64) (.pr (.int .i64) (.int .i64)))) (.slice Al5_0 ml5_0 cl5_0) l5_0, .ro (.sl (.sl (.pr (.int .i64) (.pr (.int .i64) (.int .i64))))) [.slice Al_0 l_0.length cl_0] l_0] ∧ loopN m (F.law46_moved_law46_PolygonMirrors_c2_b0 n l_0) (l5_0, v13_0) = some o7) n ⟨([] : List (List (Int × (Int × Int)))), 0, none, 0, 0, rfl, rfl, rfl, rfl, rfl, rfl, (show I64 0 from by unfold I64; omega), hC.sel [0, 1] (by decide), hl0⟩ ?_
 have hbK0 := hb
 clear hb hC hl0
 rintro m10 E12 w11 ⟨l5_0, v13_0, Al5_0, ml5_0, cl5_0, e1, e4, e5, e11, e12, e13, hrv13_0, hC, hl0⟩ K9 hK9
 obtain ⟨m10', o13, rfl, hb, hl0⟩ := loopN_some hl0
 unfold F.law46_moved_law46_PolygonMirrors_c2_b0 at hb
 obtain ⟨rfl, hll5_0, hcl5_0⟩ := (hC.ow (i := 0) rfl).sl_len
 refine Wc.seq fun K14 hK14 => ?_
 refine rg ?_
 refine lp (.bool (decide (v13_0 < (l_0.length : Int)))) (pu_lss (k := .i64) (a := v13_0) (b := (l_0.length : Int)) e13 e12) ?_
 refine ln ?_
 refine hK14 _ _ ?_
 refine Wc.seq fun K15 hK15 => ?_
 refine Wc.cond (t := (decide (v13_0 < (l_0.length : Int)))) (rfl) (fun hq16 => ?_) (fun hq16 => ?_)
 replace hb := tt hq16 hb
 refine Wc.skip ?_
 refine hK15 _ _ ?_
 refine Wc.seq fun K17 hK17 => ?_
 refine Wc.block ?_
 refine Wc.seq fun K18 hK18 => ?_
 refine rg ?_
 obtain ⟨x19, h20, hb⟩ := bd hb
 obtain ⟨ad21, cs22, hA, hc23, hr24⟩ := hC.elr (i := 1) rfl (get_some h20).2
 subst hA
 refine lp (.pointer (some (ad21.add (v13_0.toNat * 1)))) (pu_index (a := v13_0) Try.underlying28 Try.sizeOf43 e11 e13 (get_some h20).1) ?_
 have hR := hr24
 obtain ⟨A25, c26, rfl, hl27, hc28, _⟩ := hr24
 replace hC := hC.ro hR
 clear hR
 refine lv (.slice A25 x19.length c26) (ld_one Try.isAgg43 rfl (hc23 0 _ rfl)) ?_
 refine lp (.slice A25 x19.length c26) (pu_assign rfl) ?_
 refine ln ?_
 refine hK18 _ _ ?_
 refine Wc.seq fun K30 hK30 => ?_
 refine rg ?_
 refine lp (.slice none 0 0) (pu_assign rfl) ?_
 refine ln ?_
 refine hK30 _ _ ?_
 refine Wc.seq fun K31 hK31 => ?_
 refine Wc.seq fun K32 hK32 => ?_
 refine rg ?_
 refine lp (.slice A25 x19.length c26) (pu_move rfl) ?_
 refine lp (.int .i64 (x19.length : Int)) (pu_len (A := A25) (n := x19.length) (m := c26) Try.underlying43 rfl) ?_
 refine lp (.int .i64 0) (pu_move rfl) ?_
 refine ln ?_
 refine hK32 _ _ ?_
 replace hC := hC.nil 23 (.pr (.int .i64) (.pr (.int .i64) (.int .i64)))
 obtain ⟨o34, hl1, hb⟩ := bd hb
 refine Wc.cut (fun E wv => ∃ (l8_1 : List (Int × (Int × Int))) (v19_1 : Int) (Al8_1 : Option Addr) (ml8_1 cl8_1 : Nat), E 1 = .func (.func 30) #[] #[] ∧ E 4 = .slice none 0 0 ∧ E 5 = .slice Al5_0 l5_0.length cl5_0 ∧ E 7 = .slice A25 x19.length c26 ∧ E 8 = .slice Al8_1 ml8_1 cl8_1 ∧ E 11 = .slice (some ad21) l_0.length cl_0 ∧ E 12 = .int .i64 (l_0.length : Int) ∧ E 13 = .int .i64 v13_0 ∧ E 14 = .bool (decide (v13_0 < (l_0.length : Int))) ∧ E 17 = .slice A25 x19.length c26 ∧ E 18 = .int .i64 (x19.length : Int) ∧ E 19 = .int .i64 v19_1 ∧ I64 v19_1 ∧ Cx (fun _ => False) O0 w wv [.own 43 (.sl (.pr (.int .i64) (.pr (.int .i64) (.int .i64)))) (.slice Al5_0 l5_0.length cl5_0) l5_0, .ro (.sl (.pr (.int .i64) (.pr (.int .i64) (.int .i64)))) [.slice A25 x19.length c26] x19, .own 23 (.pr (.int .i64) (.pr (.int .i64) (.int .i64))) (.slice Al8_1 ml8_1 cl8_1) l8_1, .ro (.sl (.sl (.pr (.int .i64) (.pr (.int .i64) (.int .i64))))) [.slice (some ad21) l_0.length cl_0] l_0] ∧ ((lim (l5_0.length + ([l8_1] : List (List (Int × (Int × Int)))).length)).bind fun u93 => (chk (v13_0 + 1)).bind fun z100 => some (.inl ((l5_0 ++ ([l8_1] : List (List (Int × (Int × Int))))), z100)) : Option (((List (List (Int × (Int × Int)))) × Int) ⊕ (((List (List (Int × (Int × Int)))) × Int)))) = some o13) (fun K35 hK35 => ?_) ?_
 refine Wc.block ?_
 refine Wc.loop (fun m E wv => ∃ (l8_1 : List (Int × (Int × Int))) (v19_1 : Int) (Al8_1 : Option Addr) (ml8_1 cl8_1 : Nat), E 1 = .func (.func 30) #[] #[] ∧ E 4 = .slice none 0 0 ∧ E 5 = .slice Al5_0 l5_0.length cl5_0 ∧ E 7 = .slice A25 x19.length c26 ∧ E 8 = .slice Al8_1 ml8_1 cl8_1 ∧ E 11 = .slice (some ad21) l_0.length cl_0 ∧ E 12 = .int .i64 (l_0.length : Int) ∧ E 13 = .int .i64 v13_0 ∧ E 14 = .bool (decide (v13_0 < (l_0.length : Int))) ∧ E 17 = .slice A25 x19.length c26 ∧ E 18 = .int .i64 (x19.length : Int) ∧ E 19 = .int .i64 v19_1 ∧ I64 v19_1 ∧ Cx (fun _ => False) O0 w wv [.own 43 (.sl (.pr (.int .i64) (.pr (.int .i64) (.int .i64)))) (.slice Al5_0 l5_0.length cl5_0) l5_0, .ro (.sl (.pr (.int .i64) (.pr (.int .i64) (.int .i64)))) [.slice A25 x19.length c26] x19, .own 23 (.pr (.int .i64) (.pr (.int .i64) (.int .i64))) (.slice Al8_1 ml8_1 cl8_1) l8_1, .ro (.sl (.sl (.pr (.int .i64) (.pr (.int .i64) (.int .i64))))) [.slice (some ad21) l_0.length cl_0] l_0] ∧ loopN m (F.law46_moved_law46_PolygonMirrors_c2_b1 n x19) (l8_1, v19_1) = some o34) n ⟨([] : List (Int × (Int × Int))), 0, none, 0, 0, e1, e4, e5, rfl, rfl, e11, e12, e13, rfl, rfl, rfl, rfl, (show I64 0 from by unfold I64; omega), hC.sel [2, 1, 0, 3] (by decide), hl1⟩ ?_
 have hbK1 := hb
 clear hb hC hl1
 rintro m37 E39 w38 ⟨l8_1, v19_1, Al8_1, ml8_1, cl8_1, e1, e4, e5, e7, e8, e11, e12, e13, e14, e17, e18, e19, hrv19_1, hC, hl1⟩ K36 hK36
 obtain ⟨m37', o40, rfl, hb, hl1⟩ := loopN_some hl1
 unfold F.law46_moved_law46_PolygonMirrors_c2_b1 at hb
 obtain ⟨rfl, hll8_1, hcl8_1⟩ := (hC.ow (i := 2) rfl).sl_len
 refine Wc.seq fun K41 hK41 => ?_
 refine rg ?_
 refine lp (.bool (decide (v19_1 < (x19.length : Int)))) (pu_lss (k := .i64) (a := v19_1) (b := (x19.length : Int)) e19 e18) ?_
 refine ln ?_
 refine hK41 _ _ ?_
 refine Wc.seq fun K42 hK42 => ?_
 refine Wc.cond (t := (decide (v19_1 < (x19.length : Int)))) (rfl) (fun hq43 => ?_) (fun hq43 => ?_)
 replace hb := tt hq43 hb
 refine Wc.skip ?_
 refine hK42 _ _ ?_
 refine Wc.seq fun K44 hK44 => ?_
 refine Wc.block ?_
 refine Wc.seq fun K45 hK45 => ?_
 refine rg ?_
 obtain ⟨x46, h47, hb⟩ := bd hb
 obtain ⟨ad48, cs49, hA, hc50, hr51⟩ := hC.elr (i := 1) rfl (get_some h47).2
 subst hA
 refine lp (.pointer (some (ad48.add (v19_1.toNat * 3)))) (pu_index (a := v19_1) Try.underlying43 Try.sizeOf23 e17 e19 (get_some h47).1) ?_
 obtain ⟨k52, k53, rfl, hr54, hr55⟩ := hr51
 obtain ⟨rfl, hr54⟩ := hr54
 obtain ⟨k56, k57, rfl, hr58, hr59⟩ := hr55
 obtain ⟨rfl, hr58⟩ := hr58
 obtain ⟨rfl, hr59⟩ := hr59
 refine lv (.agg #[.int .i64 x46.1, .int .i64 x46.2.1, .int .i64 x46.2.2]) (ld_agg Try.isAgg23 Try.sizeOf23 rfl rfl hc50) ?_
 refine lex.op (hC.alloc (cs := [.int .i64 0, .int .i64 0, .int .i64 0]) Try.zeroValue23 rfl) ?_
 rintro _ w61 ⟨g60, rfl, hC, hF, hG⟩
 clear hG
 refine lex.sk (hC.seta (i := 0) (ds := [.int .i64 x46.1, .int .i64 x46.2.1, .int .i64 x46.2.2]) rfl Try.type23 rfl rfl rfl rfl rfl) ?_
 rintro w63 ⟨hC, hF⟩
 refine ln ?_
 refine hK45 _ _ ?_
 refine rg ?_
 refine lp (.slice Al8_1 l8_1.length cl8_1) (pu_move e8) ?_
 refine lp (.func (.func 30) #[] #[]) (pu_move e1) ?_
 refine lv (.agg #[.int .i64 x46.1, .int .i64 x46.2.1, .int .i64 x46.2.2]) (ld_blk (hC.bx (i := 0) rfl) Try.isAgg23 Try.sizeOf23 rfl) ?_
 obtain ⟨y64, h65, hb⟩ := bd hb
 refine lex.cl (⟨_, _, op_callv (vs := [.agg #[.int .i64 x46.1, .int .i64 x46.2.1, .int .i64 x46.2.2]]) (ca := #[]) Try.call30 rfl rfl rfl, law46_PolygonMirrors_c2_ok n hC.lt (wrap_I64 hr54) (wrap_I64 hr58) (wrap_I64 hr59) h65⟩) ?_
 rintro _ w69 ⟨rfl, hr66, hr67, hr68, hK⟩
 replace hC := hC.merge hK
 clear hK
 refine lex.op (hC.lit (s := (.pr (.int .i64) (.pr (.int .i64) (.int .i64)))) (vs := [.agg #[.int .i64 y64.1, .int .i64 y64.2.1, .int .i64 y64.2.2]]) (xs := [(y64.1, (y64.2.1, y64.2.2))]) Try.underlying43 Try.type23 rfl rfl (Nat.le_of_ble_eq_true rfl) rfl rfl (by simp [Value.cells, Sh.n]) rfl (show Elems _ _ (.pr (.int .i64) (.pr (.int .i64) (.int .i64))) ([.int .i64 y64.1, .int .i64 y64.2.1, .int .i64 y64.2.2] ++ ([])) ([(y64.1, (y64.2.1, y64.2.2))] : List (Int × (Int × Int))) from Elems.cons (⟨[.int .i64 y64.1], [.int .i64 y64.2.1, .int .i64 y64.2.2], rfl, ⟨rfl, I64.wr hr66⟩, ⟨[.int .i64 y64.2.1], [.int .i64 y64.2.2], rfl, ⟨rfl, I64.wr hr67⟩, ⟨rfl, I64.wr hr68⟩⟩⟩) (Elems.nil _ _ _))) ?_
 rintro _ w74 ⟨A70, c71, rfl, hl72, hc73, hC, hF, hN⟩
 clear hF hN
 obtain ⟨u76, h77, hb⟩ := bd hb
 refine lex.op (hC.app (i := 4) (s := (.pr (.int .i64) (.pr (.int .i64) (.int .i64)))) (xs := l8_1) (ys := ([(y64.1, (y64.2.1, y64.2.2))] : List (Int × (Int × Int)))) (m := ((([(y64.1, (y64.2.1, y64.2.2))] : List (Int × (Int × Int)))).length)) rfl Try.underlying43 Try.underlying43 Try.type23 rfl rfl rfl (hC.srco (i := 0) rfl) rfl rfl (by have := lim_some h77; simp at this ⊢ <;> omega) (by decide)) ?_
 rintro _ w82 ⟨A78, c79, rfl, hl80, hc81, hC, hF, hN⟩
 clear hF hN
 refine lp (.slice A78 ((l8_1 ++ ([(y64.1, (y64.2.1, y64.2.2))] : List (Int × (Int × Int)))).length) c79) (pu_assign rfl) ?_
 refine ln ?_
 refine hK44 _ _ ?_
 refine rg ?_
 obtain ⟨z83, h84, hb⟩ := bd hb
 refine lp (.int .i64 z83) (pu_addc (a := v19_1) (b := 1) e19 rfl h84) ?_
 refine lp (.int .i64 z83) (pu_move rfl) ?_
 refine ln ?_
 obtain rfl := os hb
 exact hK36 m37' _ _ (Nat.lt_succ_self _) ⟨(l8_1 ++ ([(y64.1, (y64.2.1, y64.2.2))] : List (Int × (Int × Int)))), z83, A78, (l8_1 ++ ([(y64.1, (y64.2.1, y64.2.2))] : List (Int × (Int × Int)))).length, c79, e1, e4, e5, e7, rfl, e11, e12, e13, e14, e17, e18, rfl, (chk_rng h84), hC.sel [2, 3, 4, 5] (by decide), lN hl1⟩
 replace hb := tf hq43 hb
 refine Wc.exit rfl ?_
 obtain rfl := os hb
 obtain rfl := (lX hl1).symm
 exact hK35 _ _ ⟨l8_1, v19_1, Al8_1, l8_1.length, cl8_1, e1, e4, e5, e7, e8, e11, e12, e13, e14, e17, e18, e19, hrv19_1, hC.sel [0, 1, 2, 3] (by decide), hbK1⟩
 clear hb hC hl1
 rintro E86 w85 ⟨l8_1, v19_1, Al8_1, ml8_1, cl8_1, e1, e4, e5, e7, e8, e11, e12, e13, e14, e17, e18, e19, hrv19_1, hC, hb⟩
 obtain ⟨rfl, hll8_1, hcl8_1⟩ := (hC.ow (i := 2) rfl).sl_len
 refine hK31 _ _ ?_
 refine rg ?_
 refine lp (.slice Al5_0 l5_0.length cl5_0) (pu_move e5) ?_
 refine lp (.slice Al8_1 l8_1.length cl8_1) (pu_move e8) ?_
 replace hC := hC.freeze (i := 2) rfl (hC.own_new (i := 2) rfl)
 refine lex.op (hC.lit (s := (.sl (.pr (.int .i64) (.pr (.int .i64) (.int .i64))))) (vs := [.slice Al8_1 l8_1.length cl8_1]) (xs := [l8_1]) Try.underlying28 Try.type43 rfl rfl (Nat.le_of_ble_eq_true rfl) rfl rfl (by simp [Value.cells, Sh.n]) rfl (show Elems _ _ (.sl (.pr (.int .i64) (.pr (.int .i64) (.int .i64)))) ([.slice Al8_1 l8_1.length cl8_1] ++ ([])) ([l8_1] : List (List (Int × (Int × Int)))) from Elems.cons (hC.rd (i := 2) rfl) (Elems.nil _ _ _))) ?_
 rintro _ w91 ⟨A87, c88, rfl, hl89, hc90, hC, hF, hN⟩
 clear hF hN
 obtain ⟨u93, h94, hb⟩ := bd hb
 refine lex.op (hC.app (i := 1) (s := (.sl (.pr (.int .i64) (.pr (.int .i64) (.int .i64))))) (xs := l5_0) (ys := ([l8_1] : List (List (Int × (Int × Int))))) (m := ((([l8_1] : List (List (Int × (Int × Int))))).length)) rfl Try.underlying28 Try.underlying28 Try.type43 rfl rfl rfl (hC.srco (i := 0) rfl) rfl rfl (by have := lim_some h94; simp at this ⊢ <;> omega) (by decide)) ?_
 rintro _ w99 ⟨A95, c96, rfl, hl97, hc98, hC, hF, hN⟩
 clear hF hN
 refine lp (.slice A95 ((l5_0 ++ ([l8_1] : List (List (Int × (Int × Int))))).length) c96) (pu_assign rfl) ?_
 refine ln ?_
 refine hK17 _ _ ?_
 refine rg ?_
 obtain ⟨z100, h101, hb⟩ := bd hb
 refine lp (.int .i64 z100) (pu_addc (a := v13_0) (b := 1) e13 rfl h101) ?_
 refine lp (.int .i64 z100) (pu_move rfl) ?_
 refine ln ?_
 obtain rfl := os hb
 exact hK9 m10' _ _ (Nat.lt_succ_self _) ⟨(l5_0 ++ ([l8_1] : List (List (Int × (Int × Int))))), z100, A95, (l5_0 ++ ([l8_1] : List (List (Int × (Int × Int))))).length, c96, e1, e4, rfl, e11, e12, rfl, (chk_rng h101), hC.sel [1, 4] (by decide), lN hl0⟩
 replace hb := tf hq16 hb
 refine Wc.exit rfl ?_
 obtain rfl := os hb
 obtain rfl := (lX hl0).symm
 exact hK8 _ _ ⟨l5_0, v13_0, Al5_0, l5_0.length, cl5_0, e4, e5, hrv13_0, hC.sel [0] (by decide), hbK0⟩
 clear hb hC hl0
 rintro E103 w102 ⟨l5_0, v13_0, Al5_0, ml5_0, cl5_0, e4, e5, hrv13_0, hC, hb⟩
 obtain ⟨rfl, hll5_0, hcl5_0⟩ := (hC.ow (i := 0) rfl).sl_len
 refine hK4 _ _ ?_
 refine Wc.seq fun K104 hK104 => ?_
 refine rg ?_
 refine lp (.slice Al5_0 l5_0.length cl5_0) (pu_move e5) ?_
 refine lp (.slice Al5_0 l5_0.length cl5_0) (pu_assign rfl) ?_
 refine ln ?_
 refine hK104 _ _ ?_
 obtain rfl := os hb
 refine Wc.ret ?_
 refine hKR _ _ ?_
 refine ⟨_, res1 Try.results24 (show RV _ _ _ (.tmp _) (.slice Al5_0 l5_0.length cl5_0) from rfl), _, rfl, Al5_0, l5_0.length, cl5_0, rfl, hC.sel [0] (by decide)⟩

set_option maxRecDepth 100000 in
set_option maxHeartbeats 4000000 in
theorem diagram_outgoing_ok (n : Nat) {w : World} {O0 : List Nat} (hO : ∀ k ∈ O0, k < w.heap.size) {Ad_0_0 : Option Addr} {md_0_0 cd_0_0 : Nat} {d_0_0 : List Int} (hd_0_0 : Rep O0 w (.sl (.int .i64)) [.slice Ad_0_0 md_0_0 cd_0_0] d_0_0) {Ad_0_1 : Option Addr} {md_0_1 cd_0_1 : Nat} {d_0_1 : List Int} (hd_0_1 : Rep O0 w (.sl (.int .i64)) [.slice Ad_0_1 md_0_1 cd_0_1] d_0_1) {d_0_2 : Int} (hd_0_2 : I64 d_0_2) {h_1 : Int} (hh_1 : I64 h_1) {r : Bool} (hb : F.diagram_outgoing n d_0_0 d_0_1 d_0_2 h_1 = some r) :
    Calls Try.prog 65 #[.agg #[.slice Ad_0_0 md_0_0 cd_0_0, .slice Ad_0_1 md_0_1 cd_0_1, .int .i64 d_0_2], .int .i64 h_1] w fun e w' => ∃ v, e = .returned v ∧ v = .bool r ∧ Cx (fun _ => False) O0 w w' [] := by
 unfold F.diagram_outgoing at hb
 have hC := Cx.start hO
 replace hC := hC.arg rfl hd_0_0
 replace hC := hC.arg rfl hd_0_1
 clear hO
 obtain ⟨rfl, hld_0_0, hcd_0_0⟩ := hd_0_0.sl_len
 obtain ⟨rfl, hld_0_1, hcd_0_1⟩ := hd_0_1.sl_len
 refine calls_of_Wc Try.func65 rfl (by rw [Try.ntmps65]; exact Nat.le_of_ble_eq_true rfl) fun KR hKR => ?_
 refine Wc.seq fun K3 hK3 => ?_
 refine rg ?_
 refine lex.op (hC.box (cs := [.slice Ad_0_0 d_0_0.length cd_0_0, .slice Ad_0_1 d_0_1.length cd_0_1, .int .i64 d_0_2]) rfl rfl) ?_
 rintro _ w5 ⟨g4, rfl, hC, hF, hG⟩
 clear hG
 refine lp (.bool false) (pu_assign rfl) ?_
 refine ln ?_
 refine hK3 _ _ ?_
 refine Wc.seq fun K7 hK7 => ?_
 refine Wc.seq fun K8 hK8 => ?_
 refine rg ?_
 refine lp (.int .i64 h_1) (pu_move rfl) ?_
 obtain ⟨u9, h10, hb⟩ := bd hb
 refine lp (.int .i64 (Int.tmod h_1 4)) (pu_remc (a := h_1) (b := 4) rfl rfl h10) ?_
 refine ln ?_
 refine hK8 _ _ ?_
 refine Wc.block ?_
 refine Wc.seq fun K11 hK11 => ?_
 refine rg ?_
 refine lp (.bool (decide ((Int.tmod h_1 4) = 1))) (pu_eql (k := .i64) (a := (Int.tmod h_1 4)) (b := 1) rfl rfl) ?_
 refine lp (.bool (decide ((Int.tmod h_1 4) = 1))) (pu_assign rfl) ?_
 refine ln ?_
 refine hK11 _ _ ?_
 refine Wc.cond (t := (decide ((Int.tmod h_1 4) = 1))) (rfl) (fun hq12 => ?_) (fun hq12 => ?_)
 replace hb := tt hq12 hb
 refine Wc.seq fun K13 hK13 => ?_
 refine rg ?_
 refine lp (.pointer (some ((⟨g4, 0, none⟩ : Addr).add 0))) (pu_field (sz := 1) Try.underlying32 rfl Try.sizeOf30 (by decide) rfl rfl) ?_
 refine lv (.slice Ad_0_0 d_0_0.length cd_0_0) (ld_fld (hC.bx (i := 0) rfl) Try.isAgg30 rfl rfl) ?_
 refine lp (.int .i64 h_1) (pu_move rfl) ?_
 obtain ⟨u14, h15, hb⟩ := bd hb
 obtain ⟨z16, h17, hb⟩ := bd hb
 refine lp (.int .i64 z16) (pu_quoc (a := h_1) (b := 4) rfl rfl h15 h17) ?_
 obtain ⟨x18, h19, hb⟩ := bd hb
 obtain ⟨ad20, cs21, hA, hc22, hr23⟩ := hC.elr (i := 2) rfl (get_some h19).2
 subst hA
 refine lp (.pointer (some (ad20.add (z16.toNat * 1)))) (pu_index (a := z16) Try.underlying30 Try.sizeOf3 rfl rfl (get_some h19).1) ?_
 obtain ⟨rfl, hr23'⟩ := hr23
 refine lv (.int .i64 x18) (ld_one Try.isAgg3 rfl (hc22 0 _ rfl)) ?_
 refine lp (.bool (decide (x18 = 1))) (pu_eql (k := .i64) (a := x18) (b := 1) rfl rfl) ?_
 refine lp (.bool (decide (x18 = 1))) (pu_assign rfl) ?_
 refine ln ?_
 refine hK13 _ _ ?_
 obtain rfl := os hb
 refine Wc.ret ?_
 refine hKR _ _ ?_
 refine ⟨_, res1 Try.results65 (show RV _ _ _ (.tmp _) (.bool (decide (x18 = 1))) from rfl), _, rfl, rfl, hC.sel [] (by decide)⟩
 replace hb := tf hq12 hb
 refine Wc.seq fun K24 hK24 => ?_
 refine rg ?_
 refine lp (.bool (decide ((Int.tmod h_1 4) = 2))) (pu_eql (k := .i64) (a := (Int.tmod h_1 4)) (b := 2) rfl rfl) ?_
 refine lp (.bool (decide ((Int.tmod h_1 4) = 2))) (pu_assign rfl) ?_
 refine ln ?_
 refine hK24 _ _ ?_
 refine Wc.cond (t := (decide ((Int.tmod h_1 4) = 2))) (rfl) (fun hq25 => ?_) (fun hq25 => ?_)
 replace hb := tt hq25 hb
 refine Wc.seq fun K26 hK26 => ?_
 refine rg ?_
 refine lp (.bool true) (pu_assign rfl) ?_
 refine ln ?_
 refine hK26 _ _ ?_
 obtain rfl := os hb
 refine Wc.ret ?_
 refine hKR _ _ ?_
 refine ⟨_, res1 Try.results65 (show RV _ _ _ (.tmp _) (.bool true) from rfl), _, rfl, rfl, hC.sel [] (by decide)⟩
 replace hb := tf hq25 hb
 refine Wc.seq fun K27 hK27 => ?_
 refine rg ?_
 refine lp (.bool (decide ((Int.tmod h_1 4) = 3))) (pu_eql (k := .i64) (a := (Int.tmod h_1 4)) (b := 3) rfl rfl) ?_
 refine lp (.bool (decide ((Int.tmod h_1 4) = 3))) (pu_assign rfl) ?_
 refine ln ?_
 refine hK27 _ _ ?_
 refine Wc.fresh fun E28 hE => ?_
 have e1 : E28 1 = .int .i64 h_1 := (congrFun hE 1).trans rfl
 have e2 : E28 2 = .pointer (some ⟨g4, 0, none⟩) := (congrFun hE 2).trans rfl
 have e4 : E28 4 = .bool false := (congrFun hE 4).trans rfl
 have e18 : E28 18 = .bool (decide ((Int.tmod h_1 4) = 3)) := (congrFun hE 18).trans rfl
 clear hE
 refine Wc.cond (t := (decide ((Int.tmod h_1 4) = 3))) (e18) (fun hq29 => ?_) (fun hq29 => ?_)
 replace hb := tt hq29 hb
 refine Wc.seq fun K30 hK30 => ?_
 refine rg ?_
 refine lp (.pointer (some ((⟨g4, 0, none⟩ : Addr).add 0))) (pu_field (sz := 1) Try.underlying32 rfl Try.sizeOf30 (by decide) rfl e2) ?_
 refine lv (.slice Ad_0_0 d_0_0.length cd_0_0) (ld_fld (hC.bx (i := 0) rfl) Try.isAgg30 rfl rfl) ?_
 refine lp (.int .i64 h_1) (pu_move e1) ?_
 obtain ⟨u31, h32, hb⟩ := bd hb
 obtain ⟨z33, h34, hb⟩ := bd hb
 refine lp (.int .i64 z33) (pu_quoc (a := h_1) (b := 4) rfl rfl h32 h34) ?_
 obtain ⟨x35, h36, hb⟩ := bd hb
 obtain ⟨ad37, cs38, hA, hc39, hr40⟩ := hC.elr (i := 2) rfl (get_some h36).2
 subst hA
 refine lp (.pointer (some (ad37.add (z33.toNat * 1)))) (pu_index (a := z33) Try.underlying30 Try.sizeOf3 rfl rfl (get_some h36).1) ?_
 obtain ⟨rfl, hr40'⟩ := hr40
 refine lv (.int .i64 x35) (ld_one Try.isAgg3 rfl (hc39 0 _ rfl)) ?_
 refine lp (.bool (decide (x35 = (-1)))) (pu_eql (k := .i64) (a := x35) (b := (-1)) rfl rfl) ?_
 refine lp (.bool (decide (x35 = (-1)))) (pu_assign rfl) ?_
 refine ln ?_
 refine hK30 _ _ ?_
 obtain rfl := os hb
 refine Wc.ret ?_
 refine hKR _ _ ?_
 refine ⟨_, res1 Try.results65 (show RV _ _ _ (.tmp _) (.bool (decide (x35 = (-1)))) from rfl), _, rfl, rfl, hC.sel [] (by decide)⟩
 replace hb := tf hq29 hb
 refine Wc.skip ?_
 refine hK7 _ _ ?_
 refine Wc.seq fun K41 hK41 => ?_
 refine rg ?_
 refine lp (.bool false) (pu_assign rfl) ?_
 refine ln ?_
 refine hK41 _ _ ?_
 obtain rfl := os hb
 refine Wc.ret ?_
 refine hKR _ _ ?_
 refine ⟨_, res1 Try.results65 (show RV _ _ _ (.tmp _) (.bool false) from rfl), _, rfl, rfl, hC.sel [] (by decide)⟩

set_option maxRecDepth 100000 in
set_option maxHeartbeats 4000000 in
theorem diagram_label_ok (n : Nat) {w : World} {O0 : List Nat} (hO : ∀ k ∈ O0, k < w.heap.size) {Ad_0_0 : Option Addr} {md_0_0 cd_0_0 : Nat} {d_0_0 : List Int} (hd_0_0 : Rep O0 w (.sl (.int .i64)) [.slice Ad_0_0 md_0_0 cd_0_0] d_0_0) {Ad_0_1 : Option Addr} {md_0_1 cd_0_1 : Nat} {d_0_1 : List Int} (hd_0_1 : Rep O0 w (.sl (.int .i64)) [.slice Ad_0_1 md_0_1 cd_0_1] d_0_1) {d_0_2 : Int} (hd_0_2 : I64 d_0_2) {r : (List Int) × Int} (hb : F.diagram_label n d_0_0 d_0_1 d_0_2 = some r) :
    Calls Try.prog 88 #[.agg #[.slice Ad_0_0 md_0_0 cd_0_0, .slice Ad_0_1 md_0_1 cd_0_1, .int .i64 d_0_2]] w fun e w' => ∃ v, e = .returned v ∧ ∃ (A0 : Option Addr) (m0 c0 : Nat), v = .tuple #[.slice A0 m0 c0, .int .i64 r.2] ∧ I64 r.2 ∧ Cx (fun _ => False) O0 w w' [.own 3 (.int .i64) (.slice A0 m0 c0) r.1] := by
 unfold F.diagram_label at hb
 have hC := Cx.start hO
 replace hC := hC.arg rfl hd_0_0
 replace hC := hC.arg rfl hd_0_1
 clear hO
 obtain ⟨rfl, hld_0_0, hcd_0_0⟩ := hd_0_0.sl_len
 obtain ⟨rfl, hld_0_1, hcd_0_1⟩ := hd_0_1.sl_len
 refine calls_of_Wc Try.func88 rfl (by rw [Try.ntmps88]; exact Nat.le_of_ble_eq_true rfl) fun KR hKR => ?_
 refine Wc.seq fun K3 hK3 => ?_
 refine rg ?_
 refine lex.op (hC.box (cs := [.slice Ad_0_0 d_0_0.length cd_0_0, .slice Ad_0_1 d_0_1.length cd_0_1, .int .i64 d_0_2]) rfl rfl) ?_
 rintro _ w5 ⟨g4, rfl, hC, hF, hG⟩
 clear hG
 refine lp (.slice none 0 0) (pu_assign rfl) ?_
 refine lp (.int .i64 0) (pu_assign rfl) ?_
 refine ln ?_
 refine hK3 _ _ ?_
 refine Wc.seq fun K7 hK7 => ?_
 refine rg ?_
 refine lp (.pointer (some ((⟨g4, 0, none⟩ : Addr).add 0))) (pu_field (sz := 1) Try.underlying32 rfl Try.sizeOf30 (by decide) rfl rfl) ?_
 refine lv (.slice Ad_0_0 d_0_0.length cd_0_0) (ld_fld (hC.bx (i := 0) rfl) Try.isAgg30 rfl rfl) ?_
 refine lp (.int .i64 (d_0_0.length : Int)) (pu_len (A := Ad_0_0) (n := d_0_0.length) (m := cd_0_0) Try.underlying30 rfl) ?_
 obtain ⟨u8, h9, hb⟩ := bd hb
 refine lex.op (hC.make (s := (.int .i64)) (n := (d_0_0.length : Int)) Try.underlying30 Try.type3 rfl rfl rfl rfl rfl (pos_some h9).1 (pos_some h9).2 (by decide)) ?_
 rintro _ w14 ⟨A10, c11, rfl, hl12, hc13, hC, hF, hN⟩
 clear hF hN
 refine lp (.slice A10 (((List.replicate (d_0_0.length : Int).toNat (0 : Int))).length) c11) (pu_assign rfl) ?_
 refine ln ?_
 refine hK7 _ _ ?_
 refine Wc.seq fun K16 hK16 => ?_
 refine Wc.seq fun K17 hK17 => ?_
 refine rg ?_
 refine lp (.slice A10 (((List.replicate (d_0_0.length : Int).toNat (0 : Int))).length) c11) (pu_move rfl) ?_
 refine lp (.int .i64 (((List.replicate (d_0_0.length : Int).toNat (0 : Int))).length : Int)) (pu_len (A := A10) (n := ((List.replicate (d_0_0.length : Int).toNat (0 : Int))).length) (m := c11) Try.underlying30 rfl) ?_
 refine lp (.int .i64 0) (pu_move rfl) ?_
 refine ln ?_
 refine hK17 _ _ ?_
 refine Wc.fresh fun E18 hE => ?_
 have e1 : E18 1 = .pointer (some ⟨g4, 0, none⟩) := (congrFun hE 1).trans rfl
 have e2 : E18 2 = .slice none 0 0 := (congrFun hE 2).trans rfl
 have e3 : E18 3 = .int .i64 0 := (congrFun hE 3).trans rfl
 have e4 : E18 4 = .slice A10 (((List.replicate (d_0_0.length : Int).toNat (0 : Int))).length) c11 := (congrFun hE 4).trans rfl
 have e17 : E18 17 = .int .i64 (((List.replicate (d_0_0.length : Int).toNat (0 : Int))).length : Int) := (congrFun hE 17).trans rfl
 have e18 : E18 18 = .int .i64 0 := (congrFun hE 18).trans rfl
 clear hE
 obtain ⟨o19, hl0, hb⟩ := bd hb
 refine Wc.cut (fun E wv => ∃ (v18_0 : Int) (qf15_0 : List Int), E 1 = .pointer (some ⟨g4, 0, none⟩) ∧ E 2 = .slice none 0 0 ∧ E 3 = .int .i64 0 ∧ E 4 = .slice A10 (((List.replicate (d_0_0.length : Int).toNat (0 : Int))).length) c11 ∧ I64 v18_0 ∧ Cx (fun _ => False) O0 w wv [.box g4 32 [.slice Ad_0_0 d_0_0.length cd_0_0, .slice Ad_0_1 d_0_1.length cd_0_1, .int .i64 d_0_2], .ro (.sl (.int .i64)) [.slice Ad_0_0 d_0_0.length cd_0_0] d_0_0, .ro (.sl (.int .i64)) [.slice Ad_0_1 d_0_1.length cd_0_1] d_0_1, .own 3 (.int .i64) (.slice A10 (((List.replicate (d_0_0.length : Int).toNat (0 : Int))).length) c11) qf15_0] ∧ (((loopN n (F.diagram_label_b1 n d_0_0 d_0_1) (0, 0, qf15_0)).bind fun o45 => match o45 with     | (v6_1, v27_1, qf15_1) => some (qf15_1, v6_1)) : Option ((List Int) × Int)) = some r) (fun K20 hK20 => ?_) ?_
 refine Wc.block ?_
 refine Wc.loop (fun m E wv => ∃ (v18_0 : Int) (qf15_0 : List Int), E 1 = .pointer (some ⟨g4, 0, none⟩) ∧ E 2 = .slice none 0 0 ∧ E 3 = .int .i64 0 ∧ E 4 = .slice A10 (((List.replicate (d_0_0.length : Int).toNat (0 : Int))).length) c11 ∧ E 17 = .int .i64 (((List.replicate (d_0_0.length : Int).toNat (0 : Int))).length : Int) ∧ E 18 = .int .i64 v18_0 ∧ I64 v18_0 ∧ Cx (fun _ => False) O0 w wv [.box g4 32 [.slice Ad_0_0 d_0_0.length cd_0_0, .slice Ad_0_1 d_0_1.length cd_0_1, .int .i64 d_0_2], .ro (.sl (.int .i64)) [.slice Ad_0_0 d_0_0.length cd_0_0] d_0_0, .ro (.sl (.int .i64)) [.slice Ad_0_1 d_0_1.length cd_0_1] d_0_1, .own 3 (.int .i64) (.slice A10 (((List.replicate (d_0_0.length : Int).toNat (0 : Int))).length) c11) qf15_0] ∧ loopN m (F.diagram_label_b0 n d_0_0) (v18_0, qf15_0) = some o19) n ⟨0, (List.replicate (d_0_0.length : Int).toNat (0 : Int)), e1, e2, e3, e4, e17, e18, (show I64 0 from by unfold I64; omega), hC.sel [1, 3, 2, 0] (by decide), hl0⟩ ?_
 have hbK0 := hb
 clear hb hC hl0
 rintro m22 E24 w23 ⟨v18_0, qf15_0, e1, e2, e3, e4, e17, e18, hrv18_0, hC, hl0⟩ K21 hK21
 obtain ⟨m22', o25, rfl, hb, hl0⟩ := loopN_some hl0
 unfold F.diagram_label_b0 at hb
 refine Wc.seq fun K26 hK26 => ?_
 refine rg ?_
 refine lp (.bool (decide (v18_0 < (((List.replicate (d_0_0.length : Int).toNat (0 : Int))).length : Int)))) (pu_lss (k := .i64) (a := v18_0) (b := (((List.replicate (d_0_0.length : Int).toNat (0 : Int))).length : Int)) e18 e17) ?_
 refine ln ?_
 refine hK26 _ _ ?_
 refine Wc.seq fun K27 hK27 => ?_
 refine Wc.cond (t := (decide (v18_0 < (((List.replicate (d_0_0.length : Int).toNat (0 : Int))).length : Int)))) (rfl) (fun hq28 => ?_) (fun hq28 => ?_)
 replace hb := tt hq28 hb
 refine Wc.skip ?_
 refine hK27 _ _ ?_
 refine Wc.seq fun K29 hK29 => ?_
 refine Wc.block ?_
 refine Wc.seq fun K30 hK30 => ?_
 refine rg ?_
 refine lp (.int .i64 v18_0) (pu_move e18) ?_
 refine lp (.int .i64 v18_0) (pu_assign rfl) ?_
 refine ln ?_
 refine hK30 _ _ ?_
 refine rg ?_
 refine lp (.slice A10 (((List.replicate (d_0_0.length : Int).toNat (0 : Int))).length) c11) (pu_move e4) ?_
 refine lp (.int .i64 v18_0) (pu_move rfl) ?_
 obtain ⟨x31, h32, hb⟩ := bd hb
 obtain ⟨ad33, cs34, hA, hc35, hr36⟩ := hC.elo (i := 3) rfl (get_some h32).2
 subst hA
 refine lp (.pointer (some (ad33.add (v18_0.toNat * 1)))) (pu_index (a := v18_0) Try.underlying30 Try.sizeOf3 rfl rfl (by rw [(hC.ow (i := 3) rfl).sl_len.1]; exact (get_some h32).1)) ?_
 refine lex.sk (hC.put (i := 3) rfl rfl Try.sizeOf3 (k := v18_0.toNat) (a := (-1)) (by have := (get_some h32).1; simp at this ⊢; omega) (⟨rfl, I64.wr (show I64 (-1) from by unfold I64; omega)⟩) rfl rfl rfl) ?_
 rintro w37 ⟨hC, hF⟩
 refine ln ?_
 refine hK29 _ _ ?_
 refine rg ?_
 obtain ⟨z38, h39, hb⟩ := bd hb
 refine lp (.int .i64 z38) (pu_addc (a := v18_0) (b := 1) e18 rfl h39) ?_
 refine lp (.int .i64 z38) (pu_move rfl) ?_
 refine ln ?_
 obtain rfl := os hb
 exact hK21 m22' _ _ (Nat.lt_succ_self _) ⟨z38, (qf15_0.set v18_0.toNat (-1)), e1, e2, e3, e4, e17, rfl, (chk_rng h39), hC.sel [0, 1, 2, 3] (by decide), lN hl0⟩
 replace hb := tf hq28 hb
 refine Wc.exit rfl ?_
 obtain rfl := os hb
 obtain rfl := (lX hl0).symm
 exact hK20 _ _ ⟨v18_0, qf15_0, e1, e2, e3, e4, hrv18_0, hC.sel [0, 1, 2, 3] (by decide), hbK0⟩
 clear hb hC hl0
 rintro E41 w40 ⟨v18_0, qf15_0, e1, e2, e3, e4, hrv18_0, hC, hb⟩
 refine hK16 _ _ ?_
 refine Wc.seq fun K42 hK42 => ?_
 refine rg ?_
 refine lp (.int .i64 0) (pu_assign rfl) ?_
 refine ln ?_
 refine hK42 _ _ ?_
 refine Wc.seq fun K43 hK43 => ?_
 refine Wc.seq fun K44 hK44 => ?_
 refine rg ?_
 refine lp (.slice A10 (((List.replicate (d_0_0.length : Int).toNat (0 : Int))).length) c11) (pu_move e4) ?_
 refine lp (.int .i64 (((List.replicate (d_0_0.length : Int).toNat (0 : Int))).length : Int)) (pu_len (A := A10) (n := ((List.replicate (d_0_0.length : Int).toNat (0 : Int))).length) (m := c11) Try.underlying30 rfl) ?_
 refine lp (.int .i64 0) (pu_move rfl) ?_
 refine ln ?_
 refine hK44 _ _ ?_
 obtain ⟨o45, hl1, hb⟩ := bd hb
 refine Wc.cut (fun E wv => ∃ (v6_1 : Int) (v27_1 : Int) (qf15_1 : List Int), E 2 = .slice none 0 0 ∧ E 3 = .int .i64 0 ∧ E 4 = .slice A10 (((List.replicate (d_0_0.length : Int).toNat (0 : Int))).length) c11 ∧ E 6 = .int .i64 v6_1 ∧ I64 v6_1 ∧ I64 v27_1 ∧ Cx (fun _ => False) O0 w wv [.own 3 (.int .i64) (.slice A10 (((List.replicate (d_0_0.length : Int).toNat (0 : Int))).length) c11) qf15_1] ∧ (some (qf15_1, v6_1) : Option ((List Int) × Int)) = some r) (fun K46 hK46 => ?_) ?_
 refine Wc.block ?_
 refine Wc.loop (fun m E wv => ∃ (v6_1 : Int) (v27_1 : Int) (qf15_1 : List Int), E 1 = .pointer (some ⟨g4, 0, none⟩) ∧ E 2 = .slice none 0 0 ∧ E 3 = .int .i64 0 ∧ E 4 = .slice A10 (((List.replicate (d_0_0.length : Int).toNat (0 : Int))).length) c11 ∧ E 6 = .int .i64 v6_1 ∧ E 26 = .int .i64 (((List.replicate (d_0_0.length : Int).toNat (0 : Int))).length : Int) ∧ E 27 = .int .i64 v27_1 ∧ I64 v6_1 ∧ I64 v27_1 ∧ Cx (fun _ => False) O0 w wv [.box g4 32 [.slice Ad_0_0 d_0_0.length cd_0_0, .slice Ad_0_1 d_0_1.length cd_0_1, .int .i64 d_0_2], .ro (.sl (.int .i64)) [.slice Ad_0_0 d_0_0.length cd_0_0] d_0_0, .ro (.sl (.int .i64)) [.slice Ad_0_1 d_0_1.length cd_0_1] d_0_1, .own 3 (.int .i64) (.slice A10 (((List.replicate (d_0_0.length : Int).toNat (0 : Int))).length) c11) qf15_1] ∧ loopN m (F.diagram_label_b1 n d_0_0 d_0_1) (v6_1, v27_1, qf15_1) = some o45) n ⟨0, 0, qf15_0, e1, e2, e3, e4, rfl, rfl, rfl, (show I64 0 from by unfold I64; omega), (show I64 0 from by unfold I64; omega), hC.sel [0, 1, 2, 3] (by decide), hl1⟩ ?_
 have hbK1 := hb
 clear hb hC hl1
 rintro m48 E50 w49 ⟨v6_1, v27_1, qf15_1, e1, e2, e3, e4, e6, e26, e27, hrv6_1, hrv27_1, hC, hl1⟩ K47 hK47
 obtain ⟨m48', o51, rfl, hb, hl1⟩ := loopN_some hl1
 unfold F.diagram_label_b1 at hb
 refine Wc.seq fun K52 hK52 => ?_
 refine rg ?_
 refine lp (.bool (decide (v27_1 < (((List.replicate (d_0_0.length : Int).toNat (0 : Int))).length : Int)))) (pu_lss (k := .i64) (a := v27_1) (b := (((List.replicate (d_0_0.length : Int).toNat (0 : Int))).length : Int)) e27 e26) ?_
 refine ln ?_
 refine hK52 _ _ ?_
 refine Wc.seq fun K53 hK53 => ?_
 refine Wc.cond (t := (decide (v27_1 < (((List.replicate (d_0_0.length : Int).toNat (0 : Int))).length : Int)))) (rfl) (fun hq54 => ?_) (fun hq54 => ?_)
 replace hb := tt hq54 hb
 refine Wc.skip ?_
 refine hK53 _ _ ?_
 refine Wc.seq fun K55 hK55 => ?_
 refine Wc.block ?_
 refine Wc.seq fun K56 hK56 => ?_
 refine rg ?_
 refine lp (.int .i64 v27_1) (pu_move e27) ?_
 refine lp (.int .i64 v27_1) (pu_assign rfl) ?_
 refine ln ?_
 refine hK56 _ _ ?_
 refine Wc.seq fun K57 hK57 => ?_
 refine Wc.seq fun K58 hK58 => ?_
 refine rg ?_
 refine lp (.slice A10 (((List.replicate (d_0_0.length : Int).toNat (0 : Int))).length) c11) (pu_move e4) ?_
 refine lp (.int .i64 v27_1) (pu_move rfl) ?_
 obtain ⟨x59, h60, hb⟩ := bd hb
 obtain ⟨ad61, cs62, hA, hc63, hr64⟩ := hC.elo (i := 3) rfl (get_some h60).2
 subst hA
 refine lp (.pointer (some (ad61.add (v27_1.toNat * 1)))) (pu_index (a := v27_1) Try.underlying30 Try.sizeOf3 rfl rfl (by rw [(hC.ow (i := 3) rfl).sl_len.1]; exact (get_some h60).1)) ?_
 obtain ⟨rfl, hr64'⟩ := hr64
 refine lv (.int .i64 x59) (ld_one Try.isAgg3 rfl (hc63 0 _ rfl)) ?_
 refine lp (.bool (decide (0 ≤ x59))) (pu_geq (k := .i64) (a := x59) (b := 0) rfl rfl) ?_
 refine ln ?_
 refine hK58 _ _ ?_
 refine Wc.cond (t := (decide (0 ≤ x59))) (rfl) (fun hq65 => ?_) (fun hq65 => ?_)
 replace hb := tt hq65 hb
 refine Wc.exit rfl ?_
 refine hK55 _ _ ?_
 refine rg ?_
 obtain ⟨z66, h67, hb⟩ := bd hb
 refine lp (.int .i64 z66) (pu_addc (a := v27_1) (b := 1) e27 rfl h67) ?_
 refine lp (.int .i64 z66) (pu_move rfl) ?_
 refine ln ?_
 obtain rfl := os hb
 exact hK47 m48' _ _ (Nat.lt_succ_self _) ⟨v6_1, z66, qf15_1, e1, e2, e3, e4, e6, e26, rfl, hrv6_1, (chk_rng h67), hC.sel [0, 1, 2, 3] (by decide), lN hl1⟩
 replace hb := tf hq65 hb
 refine Wc.skip ?_
 refine hK57 _ _ ?_
 refine Wc.seq fun K68 hK68 => ?_
 refine rg ?_
 refine lp (.slice (some ad61) (((List.replicate (d_0_0.length : Int).toNat (0 : Int))).length) c11) (pu_move e4) ?_
 refine lp (.int .i64 v27_1) (pu_move rfl) ?_
 refine lp (.int .i64 v6_1) (pu_move e6) ?_
 obtain ⟨x69, h70, hb⟩ := bd hb
 obtain ⟨ad71, cs72, hA, hc73, hr74⟩ := hC.elo (i := 3) rfl (get_some h70).2
 obtain rfl := Option.some.inj hA
 refine lp (.pointer (some (ad61.add (v27_1.toNat * 1)))) (pu_index (a := v27_1) Try.underlying30 Try.sizeOf3 rfl rfl (by rw [(hC.ow (i := 3) rfl).sl_len.1]; exact (get_some h70).1)) ?_
 refine lex.sk (hC.put (i := 3) rfl rfl Try.sizeOf3 (k := v27_1.toNat) (a := v6_1) (by have := (get_some h70).1; simp at this ⊢; omega) (⟨rfl, I64.wr hrv6_1⟩) rfl rfl rfl) ?_
 rintro w75 ⟨hC, hF⟩
 refine ln ?_
 refine hK68 _ _ ?_
 refine Wc.fresh fun E76 hE => ?_
 have e1 := (congrFun hE 1).trans e1
 have e2 := (congrFun hE 2).trans e2
 have e3 := (congrFun hE 3).trans e3
 have e4 := (congrFun hE 4).trans e4
 have e6 := (congrFun hE 6).trans e6
 have e7 : E76 7 = .int .i64 v27_1 := (congrFun hE 7).trans rfl
 have e26 := (congrFun hE 26).trans e26
 have e27 := (congrFun hE 27).trans e27
 have e28 : E76 28 = .bool (decide (v27_1 < (((List.replicate (d_0_0.length : Int).toNat (0 : Int))).length : Int))) := (congrFun hE 28).trans rfl
 have e34 : E76 34 = .bool (decide (0 ≤ x59)) := (congrFun hE 34).trans rfl
 clear hE
 refine Wc.seq fun K77 hK77 => ?_
 refine rg ?_
 refine lp (.int .i64 v27_1) (pu_move e7) ?_
 refine lex.op (hC.lit (s := (.int .i64)) (vs := [.int .i64 v27_1]) (xs := [v27_1]) Try.underlying30 Try.type3 rfl rfl (Nat.le_of_ble_eq_true rfl) rfl rfl (by simp [Value.cells, Sh.n]) rfl (show Elems _ _ (.int .i64) ([.int .i64 v27_1] ++ ([])) ([v27_1] : List Int) from Elems.cons (⟨rfl, I64.wr hrv27_1⟩) (Elems.nil _ _ _))) ?_
 rintro _ w82 ⟨A78, c79, rfl, hl80, hc81, hC, hF, hN⟩
 clear hF hN
 refine lp (.slice A78 ((([v27_1] : List Int)).length) c79) (pu_assign rfl) ?_
 refine ln ?_
 refine hK77 _ _ ?_
 refine Wc.seq fun K84 hK84 => ?_
 obtain ⟨o85, hl2, hb⟩ := bd hb
 refine Wc.cut (fun E wv => ∃ (l8_2 : List Int) (qf15_2 : List Int) (Al8_2 : Option Addr) (ml8_2 cl8_2 : Nat), E 1 = .pointer (some ⟨g4, 0, none⟩) ∧ E 2 = .slice none 0 0 ∧ E 3 = .int .i64 0 ∧ E 4 = .slice (some ad61) (((List.replicate (d_0_0.length : Int).toNat (0 : Int))).length) c11 ∧ E 6 = .int .i64 v6_1 ∧ E 7 = .int .i64 v27_1 ∧ E 8 = .slice Al8_2 ml8_2 cl8_2 ∧ E 26 = .int .i64 (((List.replicate (d_0_0.length : Int).toNat (0 : Int))).length : Int) ∧ E 27 = .int .i64 v27_1 ∧ E 28 = .bool (decide (v27_1 < (((List.replicate (d_0_0.length : Int).toNat (0 : Int))).length : Int))) ∧ E 34 = .bool (decide (0 ≤ x59)) ∧ Cx (fun _ => False) O0 w wv [.box g4 32 [.slice Ad_0_0 d_0_0.length cd_0_0, .slice Ad_0_1 d_0_1.length cd_0_1, .int .i64 d_0_2], .ro (.sl (.int .i64)) [.slice Ad_0_0 d_0_0.length cd_0_0] d_0_0, .ro (.sl (.int .i64)) [.slice Ad_0_1 d_0_1.length cd_0_1] d_0_1, .own 3 (.int .i64) (.slice (some ad61) (((List.replicate (d_0_0.length : Int).toNat (0 : Int))).length) c11) qf15_2, .own 3 (.int .i64) (.slice Al8_2 ml8_2 cl8_2) l8_2] ∧ ((chk (v6_1 + 1)).bind fun z177 => (chk (v27_1 + 1)).bind fun z179 => some (.inl (z177, z179, qf15_2)) : Option ((Int × Int × (List Int)) ⊕ ((Int × Int × (List Int))))) = some o51) (fun K86 hK86 => ?_) ?_
 refine Wc.block ?_
 refine Wc.loop (fun m E wv => ∃ (l8_2 : List Int) (qf15_2 : List Int) (Al8_2 : Option Addr) (ml8_2 cl8_2 : Nat), E 1 = .pointer (some ⟨g4, 0, none⟩) ∧ E 2 = .slice none 0 0 ∧ E 3 = .int .i64 0 ∧ E 4 = .slice (some ad61) (((List.replicate (d_0_0.length : Int).toNat (0 : Int))).length) c11 ∧ E 6 = .int .i64 v6_1 ∧ E 7 = .int .i64 v27_1 ∧ E 8 = .slice Al8_2 ml8_2 cl8_2 ∧ E 26 = .int .i64 (((List.replicate (d_0_0.length : Int).toNat (0 : Int))).length : Int) ∧ E 27 = .int .i64 v27_1 ∧ E 28 = .bool (decide (v27_1 < (((List.replicate (d_0_0.length : Int).toNat (0 : Int))).length : Int))) ∧ E 34 = .bool (decide (0 ≤ x59)) ∧ Cx (fun _ => False) O0 w wv [.box g4 32 [.slice Ad_0_0 d_0_0.length cd_0_0, .slice Ad_0_1 d_0_1.length cd_0_1, .int .i64 d_0_2], .ro (.sl (.int .i64)) [.slice Ad_0_0 d_0_0.length cd_0_0] d_0_0, .ro (.sl (.int .i64)) [.slice Ad_0_1 d_0_1.length cd_0_1] d_0_1, .own 3 (.int .i64) (.slice (some ad61) (((List.replicate (d_0_0.length : Int).toNat (0 : Int))).length) c11) qf15_2, .own 3 (.int .i64) (.slice Al8_2 ml8_2 cl8_2) l8_2] ∧ loopN m (F.diagram_label_b2 n d_0_1 v6_1) (l8_2, qf15_2) = some o85) n ⟨([v27_1] : List Int), (qf15_1.set v27_1.toNat v6_1), A78, (([v27_1] : List Int)).length, c79, e1, e2, e3, e4, e6, e7, rfl, e26, e27, e28, e34, hC.sel [1, 2, 3, 4, 0] (by decide), hl2⟩ ?_
 have hbK2 := hb
 clear hb hC hl2
 rintro m88 E90 w89 ⟨l8_2, qf15_2, Al8_2, ml8_2, cl8_2, e1, e2, e3, e4, e6, e7, e8, e26, e27, e28, e34, hC, hl2⟩ K87 hK87
 obtain ⟨m88', o91, rfl, hb, hl2⟩ := loopN_some hl2
 unfold F.diagram_label_b2 at hb
 obtain ⟨rfl, hll8_2, hcl8_2⟩ := (hC.ow (i := 4) rfl).sl_len
 refine Wc.seq fun K92 hK92 => ?_
 refine Wc.seq fun K93 hK93 => ?_
 refine rg ?_
 refine lp (.slice Al8_2 l8_2.length cl8_2) (pu_move e8) ?_
 refine lp (.int .i64 (l8_2.length : Int)) (pu_len (A := Al8_2) (n := l8_2.length) (m := cl8_2) Try.underlying30 rfl) ?_
 refine lp (.bool (decide (0 < (l8_2.length : Int)))) (pu_gtr (k := .i64) (a := (l8_2.length : Int)) (b := 0) rfl rfl) ?_
 refine ln ?_
 refine hK93 _ _ ?_
 refine Wc.cond (t := (decide (0 < (l8_2.length : Int)))) (rfl) (fun hq94 => ?_) (fun hq94 => ?_)
 replace hb := tt hq94 hb
 refine Wc.skip ?_
 refine hK92 _ _ ?_
 refine Wc.block ?_
 refine Wc.seq fun K95 hK95 => ?_
 refine rg ?_
 refine lp (.slice Al8_2 l8_2.length cl8_2) (pu_move e8) ?_
 obtain ⟨x96, h97, hb⟩ := bd hb
 obtain ⟨ad98, cs99, hA, hc100, hr101⟩ := hC.elo (i := 4) rfl (get_some h97).2
 subst hA
 refine lp (.pointer (some (ad98.add ((0 : Int).toNat * 1)))) (pu_index (a := 0) Try.underlying30 Try.sizeOf3 rfl rfl (get_some h97).1) ?_
 obtain ⟨rfl, hr101'⟩ := hr101
 refine lv (.int .i64 x96) (ld_one Try.isAgg3 rfl (hc100 0 _ rfl)) ?_
 refine lp (.int .i64 x96) (pu_assign rfl) ?_
 refine ln ?_
 refine hK95 _ _ ?_
 refine Wc.seq fun K102 hK102 => ?_
 refine rg ?_
 refine lp (.slice (some ad98) l8_2.length cl8_2) (pu_move e8) ?_
 obtain ⟨u103, h104, hb⟩ := bd hb
 obtain ⟨A105, c106, hp107, hl108, hc109, hC2⟩ := hC.cutl (i := 4) rfl Try.underlying30 Try.sizeOf3 (cut_some h104)
 refine lp (.slice A105 ((l8_2.drop (1 : Int).toNat).length) c106) (hp107 rfl rfl) ?_
 replace hC := hC2
 clear hC2
 refine lp (.slice A105 ((l8_2.drop (1 : Int).toNat).length) c106) (pu_assign rfl) ?_
 refine ln ?_
 refine hK102 _ _ ?_
 refine Wc.fresh fun E110 hE => ?_
 have e1 := (congrFun hE 1).trans e1
 have e2 := (congrFun hE 2).trans e2
 have e3 := (congrFun hE 3).trans e3
 have e4 := (congrFun hE 4).trans e4
 have e6 := (congrFun hE 6).trans e6
 have e7 := (congrFun hE 7).trans e7
 have e8 : E110 8 = .slice A105 ((l8_2.drop (1 : Int).toNat).length) c106 := (congrFun hE 8).trans rfl
 have e9 : E110 9 = .int .i64 x96 := (congrFun hE 9).trans rfl
 have e26 := (congrFun hE 26).trans e26
 have e27 := (congrFun hE 27).trans e27
 have e28 := (congrFun hE 28).trans e28
 have e34 := (congrFun hE 34).trans e34
 have e43 : E110 43 = .bool (decide (0 < (l8_2.length : Int))) := (congrFun hE 43).trans rfl
 clear hE
 refine Wc.seq fun K111 hK111 => ?_
 refine rg ?_
 refine lp (.int .i64 0) (pu_move rfl) ?_
 refine ln ?_
 refine hK111 _ _ ?_
 obtain ⟨o112, hl3, hb⟩ := bd hb
 refine Wc.cut (fun E wv => ∃ (l8_3 : List Int) (v49_3 : Int) (qf15_3 : List Int) (Al8_3 : Option Addr) (ml8_3 cl8_3 : Nat), E 1 = .pointer (some ⟨g4, 0, none⟩) ∧ E 2 = .slice none 0 0 ∧ E 3 = .int .i64 0 ∧ E 4 = .slice (some ad61) (((List.replicate (d_0_0.length : Int).toNat (0 : Int))).length) c11 ∧ E 6 = .int .i64 v6_1 ∧ E 7 = .int .i64 v27_1 ∧ E 8 = .slice Al8_3 ml8_3 cl8_3 ∧ E 9 = .int .i64 x96 ∧ E 26 = .int .i64 (((List.replicate (d_0_0.length : Int).toNat (0 : Int))).length : Int) ∧ E 27 = .int .i64 v27_1 ∧ E 28 = .bool (decide (v27_1 < (((List.replicate (d_0_0.length : Int).toNat (0 : Int))).length : Int))) ∧ E 34 = .bool (decide (0 ≤ x59)) ∧ E 43 = .bool (decide (0 < (l8_2.length : Int))) ∧ E 49 = .int .i64 v49_3 ∧ I64 v49_3 ∧ Cx (fun _ => False) O0 w wv [.box g4 32 [.slice Ad_0_0 d_0_0.length cd_0_0, .slice Ad_0_1 d_0_1.length cd_0_1, .int .i64 d_0_2], .ro (.sl (.int .i64)) [.slice Ad_0_0 d_0_0.length cd_0_0] d_0_0, .ro (.sl (.int .i64)) [.slice Ad_0_1 d_0_1.length cd_0_1] d_0_1, .own 3 (.int .i64) (.slice (some ad61) (((List.replicate (d_0_0.length : Int).toNat (0 : Int))).length) c11) qf15_3, .own 3 (.int .i64) (.slice Al8_3 ml8_3 cl8_3) l8_3] ∧ (some (.inl (l8_3, qf15_3)) : Option (((List Int) × (List Int)) ⊕ (((List Int) × (List Int))))) = some o91) (fun K113 hK113 => ?_) ?_
 refine Wc.block ?_
 refine Wc.loop (fun m E wv => ∃ (l8_3 : List Int) (v49_3 : Int) (qf15_3 : List Int) (Al8_3 : Option Addr) (ml8_3 cl8_3 : Nat), E 1 = .pointer (some ⟨g4, 0, none⟩) ∧ E 2 = .slice none 0 0 ∧ E 3 = .int .i64 0 ∧ E 4 = .slice (some ad61) (((List.replicate (d_0_0.length : Int).toNat (0 : Int))).length) c11 ∧ E 6 = .int .i64 v6_1 ∧ E 7 = .int .i64 v27_1 ∧ E 8 = .slice Al8_3 ml8_3 cl8_3 ∧ E 9 = .int .i64 x96 ∧ E 26 = .int .i64 (((List.replicate (d_0_0.length : Int).toNat (0 : Int))).length : Int) ∧ E 27 = .int .i64 v27_1 ∧ E 28 = .bool (decide (v27_1 < (((List.replicate (d_0_0.length : Int).toNat (0 : Int))).length : Int))) ∧ E 34 = .bool (decide (0 ≤ x59)) ∧ E 43 = .bool (decide (0 < (l8_2.length : Int))) ∧ E 49 = .int .i64 v49_3 ∧ I64 v49_3 ∧ Cx (fun _ => False) O0 w wv [.box g4 32 [.slice Ad_0_0 d_0_0.length cd_0_0, .slice Ad_0_1 d_0_1.length cd_0_1, .int .i64 d_0_2], .ro (.sl (.int .i64)) [.slice Ad_0_0 d_0_0.length cd_0_0] d_0_0, .ro (.sl (.int .i64)) [.slice Ad_0_1 d_0_1.length cd_0_1] d_0_1, .own 3 (.int .i64) (.slice (some ad61) (((List.replicate (d_0_0.length : Int).toNat (0 : Int))).length) c11) qf15_3, .own 3 (.int .i64) (.slice Al8_3 ml8_3 cl8_3) l8_3] ∧ loopN m (F.diagram_label_b3 n d_0_1 v6_1 x96) (l8_3, v49_3, qf15_3) = some o112) n ⟨(l8_2.drop (1 : Int).toNat), 0, qf15_2, A105, (l8_2.drop (1 : Int).toNat).length, c106, e1, e2, e3, e4, e6, e7, e8, e9, e26, e27, e28, e34, e43, rfl, (show I64 0 from by unfold I64; omega), hC.sel [0, 1, 2, 3, 4] (by decide), hl3⟩ ?_
 have hbK3 := hb
 clear hb hC hl3
 rintro m115 E117 w116 ⟨l8_3, v49_3, qf15_3, Al8_3, ml8_3, cl8_3, e1, e2, e3, e4, e6, e7, e8, e9, e26, e27, e28, e34, e43, e49, hrv49_3, hC, hl3⟩ K114 hK114
 obtain ⟨m115', o118, rfl, hb, hl3⟩ := loopN_some hl3
 unfold F.diagram_label_b3 at hb
 obtain ⟨rfl, hll8_3, hcl8_3⟩ := (hC.ow (i := 4) rfl).sl_len
 refine Wc.seq fun K119 hK119 => ?_
 refine rg ?_
 refine lp (.bool (decide (v49_3 < 4))) (pu_lss (k := .i64) (a := v49_3) (b := 4) e49 rfl) ?_
 refine ln ?_
 refine hK119 _ _ ?_
 refine Wc.seq fun K120 hK120 => ?_
 refine Wc.cond (t := (decide (v49_3 < 4))) (rfl) (fun hq121 => ?_) (fun hq121 => ?_)
 replace hb := tt hq121 hb
 refine Wc.skip ?_
 refine hK120 _ _ ?_
 refine Wc.seq fun K122 hK122 => ?_
 refine Wc.block ?_
 refine Wc.seq fun K123 hK123 => ?_
 refine rg ?_
 refine lp (.int .i64 v49_3) (pu_move e49) ?_
 refine lp (.int .i64 v49_3) (pu_assign rfl) ?_
 refine ln ?_
 refine hK123 _ _ ?_
 refine Wc.seq fun K124 hK124 => ?_
 refine rg ?_
 refine lp (.pointer (some ((⟨g4, 0, none⟩ : Addr).add 1))) (pu_field (sz := 1) Try.underlying32 rfl Try.sizeOf30 (by decide) rfl e1) ?_
 refine lv (.slice Ad_0_1 d_0_1.length cd_0_1) (ld_fld (hC.bx (i := 0) rfl) Try.isAgg30 rfl rfl) ?_
 refine lp (.int .i64 x96) (pu_move e9) ?_
 obtain ⟨z125, h126, hb⟩ := bd hb
 refine lp (.int .i64 z125) (pu_mulc (a := 4) (b := x96) rfl rfl h126) ?_
 refine lp (.int .i64 v49_3) (pu_move rfl) ?_
 obtain ⟨z127, h128, hb⟩ := bd hb
 refine lp (.int .i64 z127) (pu_addc (a := z125) (b := v49_3) rfl rfl h128) ?_
 obtain ⟨x129, h130, hb⟩ := bd hb
 obtain ⟨ad131, cs132, hA, hc133, hr134⟩ := hC.elr (i := 2) rfl (get_some h130).2
 subst hA
 refine lp (.pointer (some (ad131.add (z127.toNat * 1)))) (pu_index (a := z127) Try.underlying30 Try.sizeOf3 rfl rfl (get_some h130).1) ?_
 obtain ⟨rfl, hr134'⟩ := hr134
 refine lv (.int .i64 x129) (ld_one Try.isAgg3 rfl (hc133 0 _ rfl)) ?_
 obtain ⟨u135, h136, hb⟩ := bd hb
 obtain ⟨z137, h138, hb⟩ := bd hb
 refine lp (.int .i64 z137) (pu_quoc (a := x129) (b := 4) rfl rfl h136 h138) ?_
 refine lp (.int .i64 z137) (pu_assign rfl) ?_
 refine ln ?_
 refine hK124 _ _ ?_
 refine Wc.fresh fun E139 hE => ?_
 have e1 := (congrFun hE 1).trans e1
 have e2 := (congrFun hE 2).trans e2
 have e3 := (congrFun hE 3).trans e3
 have e4 := (congrFun hE 4).trans e4
 have e6 := (congrFun hE 6).trans e6
 have e7 := (congrFun hE 7).trans e7
 have e8 := (congrFun hE 8).trans e8
 have e9 := (congrFun hE 9).trans e9
 have e10 : E139 10 = .int .i64 v49_3 := (congrFun hE 10).trans rfl
 have e11 : E139 11 = .int .i64 z137 := (congrFun hE 11).trans rfl
 have e26 := (congrFun hE 26).trans e26
 have e27 := (congrFun hE 27).trans e27
 have e28 := (congrFun hE 28).trans e28
 have e34 := (congrFun hE 34).trans e34
 have e43 := (congrFun hE 43).trans e43
 have e49 := (congrFun hE 49).trans e49
 have e50 : E139 50 = .bool (decide (v49_3 < 4)) := (congrFun hE 50).trans rfl
 clear hE
 refine Wc.seq fun K140 hK140 => ?_
 refine rg ?_
 refine lp (.slice (some ad61) (((List.replicate (d_0_0.length : Int).toNat (0 : Int))).length) c11) (pu_move e4) ?_
 refine lp (.int .i64 z137) (pu_move e11) ?_
 obtain ⟨x141, h142, hb⟩ := bd hb
 obtain ⟨ad143, cs144, hA, hc145, hr146⟩ := hC.elo (i := 3) rfl (get_some h142).2
 obtain rfl := Option.some.inj hA
 refine lp (.pointer (some (ad61.add (z137.toNat * 1)))) (pu_index (a := z137) Try.underlying30 Try.sizeOf3 rfl rfl (by rw [(hC.ow (i := 3) rfl).sl_len.1]; exact (get_some h142).1)) ?_
 obtain ⟨rfl, hr146'⟩ := hr146
 refine lv (.int .i64 x141) (ld_one Try.isAgg3 rfl (hc145 0 _ rfl)) ?_
 refine lp (.bool (decide (x141 < 0))) (pu_lss (k := .i64) (a := x141) (b := 0) rfl rfl) ?_
 refine ln ?_
 refine hK140 _ _ ?_
 refine Wc.cond (t := (decide (x141 < 0))) (rfl) (fun hq147 => ?_) (fun hq147 => ?_)
 replace hb := tt hq147 hb
 refine Wc.seq fun K148 hK148 => ?_
 refine rg ?_
 refine lp (.slice (some ad61) (((List.replicate (d_0_0.length : Int).toNat (0 : Int))).length) c11) (pu_move e4) ?_
 refine lp (.int .i64 z137) (pu_move e11) ?_
 refine lp (.int .i64 v6_1) (pu_move e6) ?_
 obtain ⟨x149, h150, hb⟩ := bd hb
 obtain ⟨ad151, cs152, hA, hc153, hr154⟩ := hC.elo (i := 3) rfl (get_some h150).2
 obtain rfl := Option.some.inj hA
 refine lp (.pointer (some (ad61.add (z137.toNat * 1)))) (pu_index (a := z137) Try.underlying30 Try.sizeOf3 rfl rfl (by rw [(hC.ow (i := 3) rfl).sl_len.1]; exact (get_some h150).1)) ?_
 refine lex.sk (hC.put (i := 3) rfl rfl Try.sizeOf3 (k := z137.toNat) (a := v6_1) (by have := (get_some h150).1; simp at this ⊢; omega) (⟨rfl, I64.wr hrv6_1⟩) rfl rfl rfl) ?_
 rintro w155 ⟨hC, hF⟩
 refine ln ?_
 refine hK148 _ _ ?_
 refine rg ?_
 refine lp (.slice Al8_3 l8_3.length cl8_3) (pu_move e8) ?_
 refine lp (.int .i64 z137) (pu_move e11) ?_
 refine lex.op (hC.lit (s := (.int .i64)) (vs := [.int .i64 z137]) (xs := [z137]) Try.underlying30 Try.type3 rfl rfl (Nat.le_of_ble_eq_true rfl) rfl rfl (by simp [Value.cells, Sh.n]) rfl (show Elems _ _ (.int .i64) ([.int .i64 z137] ++ ([])) ([z137] : List Int) from Elems.cons (⟨rfl, I64.wr (chk_rng h138)⟩) (Elems.nil _ _ _))) ?_
 rintro _ w160 ⟨A156, c157, rfl, hl158, hc159, hC, hF, hN⟩
 clear hF hN
 obtain ⟨u162, h163, hb⟩ := bd hb
 refine lex.op (hC.app (i := 5) (s := (.int .i64)) (xs := l8_3) (ys := ([z137] : List Int)) (m := ((([z137] : List Int)).length)) rfl Try.underlying30 Try.underlying30 Try.type3 rfl rfl rfl (hC.srco (i := 0) rfl) rfl rfl (by have := lim_some h163; simp at this ⊢ <;> omega) (by decide)) ?_
 rintro _ w168 ⟨A164, c165, rfl, hl166, hc167, hC, hF, hN⟩
 clear hF hN
 refine lp (.slice A164 ((l8_3 ++ ([z137] : List Int)).length) c165) (pu_assign rfl) ?_
 refine ln ?_
 refine hK122 _ _ ?_
 refine rg ?_
 obtain ⟨z169, h170, hb⟩ := bd hb
 refine lp (.int .i64 z169) (pu_addc (a := v49_3) (b := 1) e49 rfl h170) ?_
 refine lp (.int .i64 z169) (pu_move rfl) ?_
 refine ln ?_
 obtain rfl := os hb
 exact hK114 m115' _ _ (Nat.lt_succ_self _) ⟨(l8_3 ++ ([z137] : List Int)), z169, (qf15_3.set z137.toNat v6_1), A164, (l8_3 ++ ([z137] : List Int)).length, c165, e1, e2, e3, e4, e6, e7, rfl, e9, e26, e27, e28, e34, e43, rfl, (chk_rng h170), hC.sel [1, 2, 3, 4, 5] (by decide), lN hl3⟩
 replace hb := tf hq147 hb
 refine Wc.skip ?_
 refine hK122 _ _ ?_
 refine rg ?_
 obtain ⟨z171, h172, hb⟩ := bd hb
 refine lp (.int .i64 z171) (pu_addc (a := v49_3) (b := 1) e49 rfl h172) ?_
 refine lp (.int .i64 z171) (pu_move rfl) ?_
 refine ln ?_
 obtain rfl := os hb
 exact hK114 m115' _ _ (Nat.lt_succ_self _) ⟨l8_3, z171, qf15_3, Al8_3, l8_3.length, cl8_3, e1, e2, e3, e4, e6, e7, e8, e9, e26, e27, e28, e34, e43, rfl, (chk_rng h172), hC.sel [0, 1, 2, 3, 4] (by decide), lN hl3⟩
 replace hb := tf hq121 hb
 refine Wc.exit rfl ?_
 obtain rfl := os hb
 obtain rfl := (lX hl3).symm
 exact hK113 _ _ ⟨l8_3, v49_3, qf15_3, Al8_3, l8_3.length, cl8_3, e1, e2, e3, e4, e6, e7, e8, e9, e26, e27, e28, e34, e43, e49, hrv49_3, hC.sel [0, 1, 2, 3, 4] (by decide), hbK3⟩
 clear hb hC hl3
 rintro E174 w173 ⟨l8_3, v49_3, qf15_3, Al8_3, ml8_3, cl8_3, e1, e2, e3, e4, e6, e7, e8, e9, e26, e27, e28, e34, e43, e49, hrv49_3, hC, hb⟩
 obtain ⟨rfl, hll8_3, hcl8_3⟩ := (hC.ow (i := 4) rfl).sl_len
 obtain rfl := os hb
 exact hK87 m88' _ _ (Nat.lt_succ_self _) ⟨l8_3, qf15_3, Al8_3, l8_3.length, cl8_3, e1, e2, e3, e4, e6, e7, e8, e26, e27, e28, e34, hC.sel [0, 1, 2, 3, 4] (by decide), lN hl2⟩
 replace hb := tf hq94 hb
 refine Wc.exit rfl ?_
 obtain rfl := os hb
 obtain rfl := (lX hl2).symm
 exact hK86 _ _ ⟨l8_2, qf15_2, Al8_2, l8_2.length, cl8_2, e1, e2, e3, e4, e6, e7, e8, e26, e27, e28, e34, hC.sel [0, 1, 2, 3, 4] (by decide), hbK2⟩
 clear hb hC hl2
 rintro E176 w175 ⟨l8_2, qf15_2, Al8_2, ml8_2, cl8_2, e1, e2, e3, e4, e6, e7, e8, e26, e27, e28, e34, hC, hb⟩
 obtain ⟨rfl, hll8_2, hcl8_2⟩ := (hC.ow (i := 4) rfl).sl_len
 refine hK84 _ _ ?_
 refine rg ?_
 refine lp (.int .i64 v6_1) (pu_move e6) ?_
 obtain ⟨z177, h178, hb⟩ := bd hb
 refine lp (.int .i64 z177) (pu_addc (a := v6_1) (b := 1) rfl rfl h178) ?_
 refine lp (.int .i64 z177) (pu_assign rfl) ?_
 refine ln ?_
 refine hK55 _ _ ?_
 refine rg ?_
 obtain ⟨z179, h180, hb⟩ := bd hb
 refine lp (.int .i64 z179) (pu_addc (a := v27_1) (b := 1) e27 rfl h180) ?_
 refine lp (.int .i64 z179) (pu_move rfl) ?_
 refine ln ?_
 obtain rfl := os hb
 exact hK47 m48' _ _ (Nat.lt_succ_self _) ⟨z177, z179, qf15_2, e1, e2, e3, e4, rfl, e26, rfl, (chk_rng h178), (chk_rng h180), hC.sel [0, 1, 2, 3] (by decide), lN hl1⟩
 replace hb := tf hq54 hb
 refine Wc.exit rfl ?_
 obtain rfl := os hb
 obtain rfl := (lX hl1).symm
 exact hK46 _ _ ⟨v6_1, v27_1, qf15_1, e2, e3, e4, e6, hrv6_1, hrv27_1, hC.sel [3] (by decide), hbK1⟩
 clear hb hC hl1
 rintro E182 w181 ⟨v6_1, v27_1, qf15_1, e2, e3, e4, e6, hrv6_1, hrv27_1, hC, hb⟩
 refine hK43 _ _ ?_
 refine Wc.seq fun K183 hK183 => ?_
 refine rg ?_
 refine lp (.slice A10 (((List.replicate (d_0_0.length : Int).toNat (0 : Int))).length) c11) (pu_move e4) ?_
 refine lp (.int .i64 v6_1) (pu_move e6) ?_
 refine lp (.slice A10 (((List.replicate (d_0_0.length : Int).toNat (0 : Int))).length) c11) (pu_assign rfl) ?_
 refine lp (.int .i64 v6_1) (pu_assign rfl) ?_
 refine ln ?_
 refine hK183 _ _ ?_
 obtain rfl := os hb
 refine Wc.ret ?_
 refine hKR _ _ ?_
 refine ⟨_, res2 Try.results88 (show RV _ _ _ (.tmp _) (.slice A10 (((List.replicate (d_0_0.length : Int).toNat (0 : Int))).length) c11) from rfl) (show RV _ _ _ (.tmp _) (.int .i64 v6_1) from rfl), _, rfl, A10, ((List.replicate (d_0_0.length : Int).toNat (0 : Int))).length, c11, rfl, hrv6_1, hC.sel [0] (by decide)⟩
end Go.Proofs.Yteajmbanlohncaa
