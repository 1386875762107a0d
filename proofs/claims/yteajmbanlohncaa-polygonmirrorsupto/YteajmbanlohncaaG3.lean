/- The walks: part 3. -/
import Derived.Test.YteajmbanlohncaaS
import Derived.Test.YteajmbanlohncaaG0
import Derived.Test.YteajmbanlohncaaG1
import Derived.Test.YteajmbanlohncaaG2
set_option linter.unusedVariables false
set_option linter.unusedSimpArgs false
namespace Go.Proofs.Yteajmbanlohncaa
open Ev
set_option maxRecDepth 100000 in
set_option maxHeartbeats 4000000 in
theorem polygon_cross_ok (n : Nat) {w : World} {O0 : List Nat} (hO : ∀ k ∈ O0, k < w.heap.size) {Alist_0 : Option Addr} {mlist_0 clist_0 : Nat} {list_0 : List ((Int × (Int × Int)) × ((Int × (Int × Int)) × (Int × Int)))} (hlist_0 : Rep O0 w (.sl (.pr (.pr (.int .i64) (.pr (.int .i64) (.int .i64))) (.pr (.pr (.int .i64) (.pr (.int .i64) (.int .i64))) (.pr (.int .i64) (.int .i64))))) [.slice Alist_0 mlist_0 clist_0] list_0) {r : (List (List (Int × Bool))) × Bool} (hb : F.polygon_cross n list_0 = some r) :
    Calls Try.prog 53 #[.slice Alist_0 mlist_0 clist_0] w fun e w' => ∃ v, e = .returned v ∧ ∃ (A0 : Option Addr) (m0 c0 : Nat), v = .tuple #[.slice A0 m0 c0, .bool r.2] ∧ Cx (fun _ => False) O0 w w' [.ro (.sl (.sl (.pr (.int .i64) .bool))) [.slice A0 m0 c0] r.1] := by
 unfold F.polygon_cross at hb
 have hC := Cx.start hO
 replace hC := hC.arg rfl hlist_0
 clear hO
 obtain ⟨rfl, hllist_0, hclist_0⟩ := hlist_0.sl_len
 replace hC := hC.noT
 refine calls_of_Wc Try.func53 rfl (by rw [Try.ntmps53]; exact Nat.le_of_ble_eq_true rfl) fun KR hKR => ?_
 refine Wc.seq fun K2 hK2 => ?_
 refine rg ?_
 replace hC : Cx (fun _ => False) O0 w w ([.ro (.sl (.pr (.pr (.int .i64) (.pr (.int .i64) (.int .i64))) (.pr (.pr (.int .i64) (.pr (.int .i64) (.int .i64))) (.pr (.int .i64) (.int .i64))))) [.slice Alist_0 list_0.length clist_0] list_0] ++ ([] : List Fact)) := hC
 refine lex.op (hC.box (cs := [.slice Alist_0 list_0.length clist_0]) rfl rfl) ?_
 rintro _ w4 ⟨g3, rfl, hC, hF, hG⟩
 clear hG
 replace hC : Cx (fun _ => False) O0 w w4 ([.box g3 68 [.slice Alist_0 list_0.length clist_0], .ro (.sl (.pr (.pr (.int .i64) (.pr (.int .i64) (.int .i64))) (.pr (.pr (.int .i64) (.pr (.int .i64) (.int .i64))) (.pr (.int .i64) (.int .i64))))) [.slice Alist_0 list_0.length clist_0] list_0] ++ ([] : List Fact)) := hC
 refine lp (.slice none 0 0) (pu_assign rfl) ?_
 refine lp (.bool false) (pu_assign rfl) ?_
 refine ln ?_
 refine hK2 _ _ ?_
 refine Wc.seq fun K6 hK6 => ?_
 refine rg ?_
 refine lv (.slice Alist_0 list_0.length clist_0) (ld_one Try.isAgg68 rfl ((hC.bx (i := 0) rfl).cell (j := 0) rfl)) ?_
 refine lp (.int .i64 (list_0.length : Int)) (pu_len (A := Alist_0) (n := list_0.length) (m := clist_0) Try.underlying68 rfl) ?_
 obtain ⟨u7, h8, hb⟩ := bd hb
 refine lex.op (hC.make (s := .raw) (n := (list_0.length : Int)) Try.underlying70 Try.type73 rfl rfl rfl rfl rfl (pos_some h8).1 (pos_some h8).2 (by decide)) ?_
 rintro _ w13 ⟨A9, c10, rfl, hl11, hc12, hC, hF, hN⟩
 clear hF hN
 replace hC : Cx (fun _ => False) O0 w w13 ([.own 73 .raw (.slice A9 (((List.replicate (list_0.length : Int).toNat (Value.slice none 0 0))).length) c10) (List.replicate (list_0.length : Int).toNat (Value.slice none 0 0)), .box g3 68 [.slice Alist_0 list_0.length clist_0], .ro (.sl (.pr (.pr (.int .i64) (.pr (.int .i64) (.int .i64))) (.pr (.pr (.int .i64) (.pr (.int .i64) (.int .i64))) (.pr (.int .i64) (.int .i64))))) [.slice Alist_0 list_0.length clist_0] list_0] ++ ([] : List Fact)) := hC
 replace hC := hC.nilRows 107 (.pr (.int .i64) .bool) (list_0.length : Int).toNat
 replace hC : Cx (fun _ => False) O0 w w13 ([.own 73 .raw (.slice A9 (((List.replicate (list_0.length : Int).toNat (Value.slice none 0 0))).length) c10) (List.replicate (list_0.length : Int).toNat (Value.slice none 0 0)), .box g3 68 [.slice Alist_0 list_0.length clist_0], .ro (.sl (.pr (.pr (.int .i64) (.pr (.int .i64) (.int .i64))) (.pr (.pr (.int .i64) (.pr (.int .i64) (.int .i64))) (.pr (.int .i64) (.int .i64))))) [.slice Alist_0 list_0.length clist_0] list_0] ++ (rowsF 107 (.pr (.int .i64) .bool) (List.replicate (list_0.length : Int).toNat (Value.slice none 0 0)) (List.replicate (list_0.length : Int).toNat ([] : List (Int × Bool))) ++ ([] : List Fact))) := hC
 refine lp (.slice A9 (((List.replicate (list_0.length : Int).toNat (Value.slice none 0 0))).length) c10) (pu_assign rfl) ?_
 refine ln ?_
 refine hK6 _ _ ?_
 refine Wc.seq fun K15 hK15 => ?_
 refine Wc.seq fun K16 hK16 => ?_
 refine rg ?_
 refine lv (.slice Alist_0 list_0.length clist_0) (ld_one Try.isAgg68 rfl ((hC.bx (i := 1) rfl).cell (j := 0) rfl)) ?_
 refine lp (.int .i64 (list_0.length : Int)) (pu_len (A := Alist_0) (n := list_0.length) (m := clist_0) Try.underlying68 rfl) ?_
 refine lp (.int .i64 0) (pu_move rfl) ?_
 refine ln ?_
 refine hK16 _ _ ?_
 refine Wc.fresh fun E17 hE => ?_
 have e1 : E17 1 = .pointer (some ⟨g3, 0, none⟩) := (congrFun hE 1).trans rfl
 have e2 : E17 2 = .slice none 0 0 := (congrFun hE 2).trans rfl
 have e3 : E17 3 = .bool false := (congrFun hE 3).trans rfl
 have e4 : E17 4 = .slice A9 (((List.replicate (list_0.length : Int).toNat (Value.slice none 0 0))).length) c10 := (congrFun hE 4).trans rfl
 have e17 : E17 17 = .slice Alist_0 list_0.length clist_0 := (congrFun hE 17).trans rfl
 have e18 : E17 18 = .int .i64 (list_0.length : Int) := (congrFun hE 18).trans rfl
 have e19 : E17 19 = .int .i64 0 := (congrFun hE 19).trans rfl
 clear hE
 obtain ⟨o18, hl0, hb⟩ := bd hb
 refine Wc.cut (fun E wv => ∃ (v19_0 : Int) (qf14_0 : List (List (Int × Bool))) (hsqf14_0 : List Value), E 2 = .slice none 0 0 ∧ E 3 = .bool false ∧ E 4 = .slice A9 (((List.replicate (list_0.length : Int).toNat (Value.slice none 0 0))).length) c10 ∧ I64 v19_0 ∧ hsqf14_0.length = qf14_0.length ∧ Cx (fun _ => False) O0 w wv ([.own 73 .raw (.slice A9 (((List.replicate (list_0.length : Int).toNat (Value.slice none 0 0))).length) c10) hsqf14_0] ++ (rowsF 107 (.pr (.int .i64) .bool) hsqf14_0 qf14_0 ++ ([] : List Fact))) ∧ (some (qf14_0, true) : Option ((List (List (Int × Bool))) × Bool)) = some r) (fun K19 hK19 => ?_) ?_
 refine Wc.block ?_
 refine Wc.loop (fun m E wv => ∃ (v19_0 : Int) (qf14_0 : List (List (Int × Bool))) (hsqf14_0 : List Value), E 1 = .pointer (some ⟨g3, 0, none⟩) ∧ E 2 = .slice none 0 0 ∧ E 3 = .bool false ∧ E 4 = .slice A9 (((List.replicate (list_0.length : Int).toNat (Value.slice none 0 0))).length) c10 ∧ E 17 = .slice Alist_0 list_0.length clist_0 ∧ E 18 = .int .i64 (list_0.length : Int) ∧ E 19 = .int .i64 v19_0 ∧ I64 v19_0 ∧ hsqf14_0.length = qf14_0.length ∧ Cx (fun _ => False) O0 w wv ([.box g3 68 [.slice Alist_0 list_0.length clist_0], .ro (.sl (.pr (.pr (.int .i64) (.pr (.int .i64) (.int .i64))) (.pr (.pr (.int .i64) (.pr (.int .i64) (.int .i64))) (.pr (.int .i64) (.int .i64))))) [.slice Alist_0 list_0.length clist_0] list_0, .own 73 .raw (.slice A9 (((List.replicate (list_0.length : Int).toNat (Value.slice none 0 0))).length) c10) hsqf14_0] ++ (rowsF 107 (.pr (.int .i64) .bool) hsqf14_0 qf14_0 ++ ([] : List Fact))) ∧ loopN m (F.polygon_cross_b0 n list_0) (v19_0, qf14_0) = some o18) n ⟨0, (List.replicate (list_0.length : Int).toNat ([] : List (Int × Bool))), (List.replicate (list_0.length : Int).toNat (Value.slice none 0 0)), e1, e2, e3, e4, e17, e18, e19, (show I64 0 from by unfold I64; omega), (nilRows_len (list_0.length : Int).toNat (s := (.pr (.int .i64) .bool))), hC.selT [1, 2, 0] (by decide), hl0⟩ ?_
 have hbK0 := hb
 clear hb hC hl0
 rintro m21 E23 w22 ⟨v19_0, qf14_0, hsqf14_0, e1, e2, e3, e4, e17, e18, e19, hrv19_0, hNqf14_0, hC, hl0⟩ K20 hK20
 obtain ⟨m21', o24, rfl, hb, hl0⟩ := loopN_some hl0
 unfold F.polygon_cross_b0 at hb
 refine Wc.seq fun K25 hK25 => ?_
 refine rg ?_
 replace hC : Cx (fun _ => False) O0 w w22 ([.box g3 68 [.slice Alist_0 list_0.length clist_0], .ro (.sl (.pr (.pr (.int .i64) (.pr (.int .i64) (.int .i64))) (.pr (.pr (.int .i64) (.pr (.int .i64) (.int .i64))) (.pr (.int .i64) (.int .i64))))) [.slice Alist_0 list_0.length clist_0] list_0, .own 73 .raw (.slice A9 (((List.replicate (list_0.length : Int).toNat (Value.slice none 0 0))).length) c10) hsqf14_0] ++ (rowsF 107 (.pr (.int .i64) .bool) hsqf14_0 qf14_0 ++ ([] : List Fact))) := hC
 refine lp (.bool (decide (v19_0 < (list_0.length : Int)))) (pu_lss (k := .i64) (a := v19_0) (b := (list_0.length : Int)) e19 e18) ?_
 refine ln ?_
 refine hK25 _ _ ?_
 refine Wc.seq fun K26 hK26 => ?_
 refine Wc.cond (t := (decide (v19_0 < (list_0.length : Int)))) (rfl) (fun hq27 => ?_) (fun hq27 => ?_)
 replace hb := tt hq27 hb
 refine Wc.skip ?_
 refine hK26 _ _ ?_
 refine Wc.seq fun K28 hK28 => ?_
 refine Wc.block ?_
 refine Wc.seq fun K29 hK29 => ?_
 refine rg ?_
 refine lp (.int .i64 v19_0) (pu_move e19) ?_
 obtain ⟨x30, h31, hb⟩ := bd hb
 obtain ⟨ad32, cs33, hA, hc34, hr35⟩ := hC.elr (i := 1) rfl (get_some h31).2
 subst hA
 refine lp (.pointer (some (ad32.add (v19_0.toNat * 8)))) (pu_index (a := v19_0) Try.underlying68 Try.sizeOf105 e17 e19 (get_some h31).1) ?_
 replace hC : Cx (fun _ => False) O0 w w22 ([.box g3 68 [.slice (some ad32) list_0.length clist_0], .ro (.sl (.pr (.pr (.int .i64) (.pr (.int .i64) (.int .i64))) (.pr (.pr (.int .i64) (.pr (.int .i64) (.int .i64))) (.pr (.int .i64) (.int .i64))))) [.slice (some ad32) list_0.length clist_0] list_0, .own 73 .raw (.slice A9 (((List.replicate (list_0.length : Int).toNat (Value.slice none 0 0))).length) c10) hsqf14_0] ++ (rowsF 107 (.pr (.int .i64) .bool) hsqf14_0 qf14_0 ++ ([] : List Fact))) := hC
 obtain ⟨k36, k37, rfl, hr38, hr39⟩ := hr35
 obtain ⟨k40, k41, rfl, hr42, hr43⟩ := hr38
 obtain ⟨rfl, hr42⟩ := hr42
 obtain ⟨k44, k45, rfl, hr46, hr47⟩ := hr43
 obtain ⟨rfl, hr46⟩ := hr46
 obtain ⟨rfl, hr47⟩ := hr47
 obtain ⟨k48, k49, rfl, hr50, hr51⟩ := hr39
 obtain ⟨k52, k53, rfl, hr54, hr55⟩ := hr50
 obtain ⟨rfl, hr54⟩ := hr54
 obtain ⟨k56, k57, rfl, hr58, hr59⟩ := hr55
 obtain ⟨rfl, hr58⟩ := hr58
 obtain ⟨rfl, hr59⟩ := hr59
 obtain ⟨k60, k61, rfl, hr62, hr63⟩ := hr51
 obtain ⟨rfl, hr62⟩ := hr62
 obtain ⟨rfl, hr63⟩ := hr63
 refine lv (.agg #[.int .i64 x30.1.1, .int .i64 x30.1.2.1, .int .i64 x30.1.2.2, .int .i64 x30.2.1.1, .int .i64 x30.2.1.2.1, .int .i64 x30.2.1.2.2, .int .i64 x30.2.2.1, .int .i64 x30.2.2.2]) (ld_agg Try.isAgg105 Try.sizeOf105 rfl rfl hc34) ?_
 refine lex.op (hC.alloc (cs := [.int .i64 0, .int .i64 0, .int .i64 0, .int .i64 0, .int .i64 0, .int .i64 0, .int .i64 0, .int .i64 0]) Try.zeroValue105 rfl) ?_
 rintro _ w65 ⟨g64, rfl, hC, hF, hG⟩
 clear hG
 replace hC : Cx (fun _ => False) O0 w w65 ([.box g64 105 [.int .i64 0, .int .i64 0, .int .i64 0, .int .i64 0, .int .i64 0, .int .i64 0, .int .i64 0, .int .i64 0], .box g3 68 [.slice (some ad32) list_0.length clist_0], .ro (.sl (.pr (.pr (.int .i64) (.pr (.int .i64) (.int .i64))) (.pr (.pr (.int .i64) (.pr (.int .i64) (.int .i64))) (.pr (.int .i64) (.int .i64))))) [.slice (some ad32) list_0.length clist_0] list_0, .own 73 .raw (.slice A9 (((List.replicate (list_0.length : Int).toNat (Value.slice none 0 0))).length) c10) hsqf14_0] ++ (rowsF 107 (.pr (.int .i64) .bool) hsqf14_0 qf14_0 ++ ([] : List Fact))) := hC
 refine lp (.int .i64 v19_0) (pu_assign rfl) ?_
 refine lex.sk (hC.seta (i := 0) (ds := [.int .i64 x30.1.1, .int .i64 x30.1.2.1, .int .i64 x30.1.2.2, .int .i64 x30.2.1.1, .int .i64 x30.2.1.2.1, .int .i64 x30.2.1.2.2, .int .i64 x30.2.2.1, .int .i64 x30.2.2.2]) rfl Try.type105 rfl rfl rfl rfl rfl) ?_
 rintro w67 ⟨hC, hF⟩
 refine ln ?_
 refine hK29 _ _ ?_
 refine Wc.seq fun K68 hK68 => ?_
 refine Wc.seq fun K69 hK69 => ?_
 refine rg ?_
 replace hC : Cx (fun _ => False) O0 w w67 ([.box g64 105 [.int .i64 x30.1.1, .int .i64 x30.1.2.1, .int .i64 x30.1.2.2, .int .i64 x30.2.1.1, .int .i64 x30.2.1.2.1, .int .i64 x30.2.1.2.2, .int .i64 x30.2.2.1, .int .i64 x30.2.2.2], .box g3 68 [.slice (some ad32) list_0.length clist_0], .ro (.sl (.pr (.pr (.int .i64) (.pr (.int .i64) (.int .i64))) (.pr (.pr (.int .i64) (.pr (.int .i64) (.int .i64))) (.pr (.int .i64) (.int .i64))))) [.slice (some ad32) list_0.length clist_0] list_0, .own 73 .raw (.slice A9 (((List.replicate (list_0.length : Int).toNat (Value.slice none 0 0))).length) c10) hsqf14_0] ++ (rowsF 107 (.pr (.int .i64) .bool) hsqf14_0 qf14_0 ++ ([] : List Fact))) := hC
 refine lv (.slice (some ad32) list_0.length clist_0) (ld_one Try.isAgg68 e1 ((hC.bx (i := 1) rfl).cell (j := 0) rfl)) ?_
 refine lp (.int .i64 (list_0.length : Int)) (pu_len (A := (some ad32)) (n := list_0.length) (m := clist_0) Try.underlying68 rfl) ?_
 refine lp (.int .i64 0) (pu_move rfl) ?_
 refine ln ?_
 refine hK69 _ _ ?_
 obtain ⟨o70, hl1, hb⟩ := bd hb
 refine Wc.cut (fun E wv => ∃ (v26_1 : Int) (qf14_1 : List (List (Int × Bool))) (hsqf14_1 : List Value), E 1 = .pointer (some ⟨g3, 0, none⟩) ∧ E 2 = .slice none 0 0 ∧ E 3 = .bool false ∧ E 4 = .slice A9 (((List.replicate (list_0.length : Int).toNat (Value.slice none 0 0))).length) c10 ∧ E 5 = .int .i64 v19_0 ∧ E 6 = .pointer (some ⟨g64, 0, none⟩) ∧ E 17 = .slice (some ad32) list_0.length clist_0 ∧ E 18 = .int .i64 (list_0.length : Int) ∧ E 19 = .int .i64 v19_0 ∧ E 20 = .bool (decide (v19_0 < (list_0.length : Int))) ∧ E 24 = .slice (some ad32) list_0.length clist_0 ∧ E 25 = .int .i64 (list_0.length : Int) ∧ E 26 = .int .i64 v26_1 ∧ I64 v26_1 ∧ hsqf14_1.length = qf14_1.length ∧ Cx (fun _ => False) O0 w wv ([.box g3 68 [.slice (some ad32) list_0.length clist_0], .ro (.sl (.pr (.pr (.int .i64) (.pr (.int .i64) (.int .i64))) (.pr (.pr (.int .i64) (.pr (.int .i64) (.int .i64))) (.pr (.int .i64) (.int .i64))))) [.slice (some ad32) list_0.length clist_0] list_0, .own 73 .raw (.slice A9 (((List.replicate (list_0.length : Int).toNat (Value.slice none 0 0))).length) c10) hsqf14_1, .box g64 105 [.int .i64 x30.1.1, .int .i64 x30.1.2.1, .int .i64 x30.1.2.2, .int .i64 x30.2.1.1, .int .i64 x30.2.1.2.1, .int .i64 x30.2.1.2.2, .int .i64 x30.2.2.1, .int .i64 x30.2.2.2]] ++ (rowsF 107 (.pr (.int .i64) .bool) hsqf14_1 qf14_1 ++ ([] : List Fact))) ∧ ((get qf14_1 v19_0).bind fun x219 => (F.slices_SortFunc_passage_passage_polygon_cross_c2 n x219 list_0 x30.1.1 x30.1.2.1 x30.1.2.2 x30.2.1.1 x30.2.1.2.1 x30.2.1.2.2 x30.2.2.1 x30.2.2.2).bind fun y233 => ((loopN n (F.polygon_cross_b4 n list_0 v19_0 x30 qf14_1 y233) 1).bind fun o239 => match o239 with     | (.inl v13_4) => (chk (v19_0 + 1)).bind fun z322 => some (.inl (z322, (qf14_1.set v19_0.toNat y233)))     | (.inr q) => some (.inr (.inr q))) : Option ((Int × (List (List (Int × Bool)))) ⊕ ((Int × (List (List (Int × Bool)))) ⊕ ((List (List (Int × Bool))) × Bool)))) = some o24) (fun K71 hK71 => ?_) ?_
 refine Wc.block ?_
 refine Wc.loop (fun m E wv => ∃ (v26_1 : Int) (qf14_1 : List (List (Int × Bool))) (hsqf14_1 : List Value), E 1 = .pointer (some ⟨g3, 0, none⟩) ∧ E 2 = .slice none 0 0 ∧ E 3 = .bool false ∧ E 4 = .slice A9 (((List.replicate (list_0.length : Int).toNat (Value.slice none 0 0))).length) c10 ∧ E 5 = .int .i64 v19_0 ∧ E 6 = .pointer (some ⟨g64, 0, none⟩) ∧ E 17 = .slice (some ad32) list_0.length clist_0 ∧ E 18 = .int .i64 (list_0.length : Int) ∧ E 19 = .int .i64 v19_0 ∧ E 20 = .bool (decide (v19_0 < (list_0.length : Int))) ∧ E 24 = .slice (some ad32) list_0.length clist_0 ∧ E 25 = .int .i64 (list_0.length : Int) ∧ E 26 = .int .i64 v26_1 ∧ I64 v26_1 ∧ hsqf14_1.length = qf14_1.length ∧ Cx (fun _ => False) O0 w wv ([.box g3 68 [.slice (some ad32) list_0.length clist_0], .ro (.sl (.pr (.pr (.int .i64) (.pr (.int .i64) (.int .i64))) (.pr (.pr (.int .i64) (.pr (.int .i64) (.int .i64))) (.pr (.int .i64) (.int .i64))))) [.slice (some ad32) list_0.length clist_0] list_0, .own 73 .raw (.slice A9 (((List.replicate (list_0.length : Int).toNat (Value.slice none 0 0))).length) c10) hsqf14_1, .box g64 105 [.int .i64 x30.1.1, .int .i64 x30.1.2.1, .int .i64 x30.1.2.2, .int .i64 x30.2.1.1, .int .i64 x30.2.1.2.1, .int .i64 x30.2.1.2.2, .int .i64 x30.2.2.1, .int .i64 x30.2.2.2]] ++ (rowsF 107 (.pr (.int .i64) .bool) hsqf14_1 qf14_1 ++ ([] : List Fact))) ∧ loopN m (F.polygon_cross_b1 n list_0 v19_0 x30) (v26_1, qf14_1) = some o70) n ⟨0, qf14_0, hsqf14_0, e1, e2, e3, e4, rfl, rfl, e17, e18, e19, rfl, rfl, rfl, rfl, (show I64 0 from by unfold I64; omega), hNqf14_0, hC.selT [1, 2, 3, 0] (by decide), hl1⟩ ?_
 have hbK1 := hb
 clear hb hC hl1
 rintro m73 E75 w74 ⟨v26_1, qf14_1, hsqf14_1, e1, e2, e3, e4, e5, e6, e17, e18, e19, e20, e24, e25, e26, hrv26_1, hNqf14_1, hC, hl1⟩ K72 hK72
 obtain ⟨m73', o76, rfl, hb, hl1⟩ := loopN_some hl1
 unfold F.polygon_cross_b1 at hb
 refine Wc.seq fun K77 hK77 => ?_
 refine rg ?_
 replace hC : Cx (fun _ => False) O0 w w74 ([.box g3 68 [.slice (some ad32) list_0.length clist_0], .ro (.sl (.pr (.pr (.int .i64) (.pr (.int .i64) (.int .i64))) (.pr (.pr (.int .i64) (.pr (.int .i64) (.int .i64))) (.pr (.int .i64) (.int .i64))))) [.slice (some ad32) list_0.length clist_0] list_0, .own 73 .raw (.slice A9 (((List.replicate (list_0.length : Int).toNat (Value.slice none 0 0))).length) c10) hsqf14_1, .box g64 105 [.int .i64 x30.1.1, .int .i64 x30.1.2.1, .int .i64 x30.1.2.2, .int .i64 x30.2.1.1, .int .i64 x30.2.1.2.1, .int .i64 x30.2.1.2.2, .int .i64 x30.2.2.1, .int .i64 x30.2.2.2]] ++ (rowsF 107 (.pr (.int .i64) .bool) hsqf14_1 qf14_1 ++ ([] : List Fact))) := hC
 refine lp (.bool (decide (v26_1 < (list_0.length : Int)))) (pu_lss (k := .i64) (a := v26_1) (b := (list_0.length : Int)) e26 e25) ?_
 refine ln ?_
 refine hK77 _ _ ?_
 refine Wc.seq fun K78 hK78 => ?_
 refine Wc.cond (t := (decide (v26_1 < (list_0.length : Int)))) (rfl) (fun hq79 => ?_) (fun hq79 => ?_)
 replace hb := tt hq79 hb
 refine Wc.skip ?_
 refine hK78 _ _ ?_
 refine Wc.seq fun K80 hK80 => ?_
 refine Wc.block ?_
 refine Wc.seq fun K81 hK81 => ?_
 refine rg ?_
 refine lp (.int .i64 v26_1) (pu_move e26) ?_
 obtain ⟨x82, h83, hb⟩ := bd hb
 obtain ⟨ad84, cs85, hA, hc86, hr87⟩ := hC.elr (i := 1) rfl (get_some h83).2
 obtain rfl := Option.some.inj hA
 refine lp (.pointer (some (ad32.add (v26_1.toNat * 8)))) (pu_index (a := v26_1) Try.underlying68 Try.sizeOf105 e24 e26 (get_some h83).1) ?_
 obtain ⟨k88, k89, rfl, hr90, hr91⟩ := hr87
 obtain ⟨k92, k93, rfl, hr94, hr95⟩ := hr90
 obtain ⟨rfl, hr94⟩ := hr94
 obtain ⟨k96, k97, rfl, hr98, hr99⟩ := hr95
 obtain ⟨rfl, hr98⟩ := hr98
 obtain ⟨rfl, hr99⟩ := hr99
 obtain ⟨k100, k101, rfl, hr102, hr103⟩ := hr91
 obtain ⟨k104, k105, rfl, hr106, hr107⟩ := hr102
 obtain ⟨rfl, hr106⟩ := hr106
 obtain ⟨k108, k109, rfl, hr110, hr111⟩ := hr107
 obtain ⟨rfl, hr110⟩ := hr110
 obtain ⟨rfl, hr111⟩ := hr111
 obtain ⟨k112, k113, rfl, hr114, hr115⟩ := hr103
 obtain ⟨rfl, hr114⟩ := hr114
 obtain ⟨rfl, hr115⟩ := hr115
 refine lv (.agg #[.int .i64 x82.1.1, .int .i64 x82.1.2.1, .int .i64 x82.1.2.2, .int .i64 x82.2.1.1, .int .i64 x82.2.1.2.1, .int .i64 x82.2.1.2.2, .int .i64 x82.2.2.1, .int .i64 x82.2.2.2]) (ld_agg Try.isAgg105 Try.sizeOf105 rfl rfl hc86) ?_
 refine lex.op (hC.alloc (cs := [.int .i64 0, .int .i64 0, .int .i64 0, .int .i64 0, .int .i64 0, .int .i64 0, .int .i64 0, .int .i64 0]) Try.zeroValue105 rfl) ?_
 rintro _ w117 ⟨g116, rfl, hC, hF, hG⟩
 clear hG
 replace hC : Cx (fun _ => False) O0 w w117 ([.box g116 105 [.int .i64 0, .int .i64 0, .int .i64 0, .int .i64 0, .int .i64 0, .int .i64 0, .int .i64 0, .int .i64 0], .box g3 68 [.slice (some ad32) list_0.length clist_0], .ro (.sl (.pr (.pr (.int .i64) (.pr (.int .i64) (.int .i64))) (.pr (.pr (.int .i64) (.pr (.int .i64) (.int .i64))) (.pr (.int .i64) (.int .i64))))) [.slice (some ad32) list_0.length clist_0] list_0, .own 73 .raw (.slice A9 (((List.replicate (list_0.length : Int).toNat (Value.slice none 0 0))).length) c10) hsqf14_1, .box g64 105 [.int .i64 x30.1.1, .int .i64 x30.1.2.1, .int .i64 x30.1.2.2, .int .i64 x30.2.1.1, .int .i64 x30.2.1.2.1, .int .i64 x30.2.1.2.2, .int .i64 x30.2.2.1, .int .i64 x30.2.2.2]] ++ (rowsF 107 (.pr (.int .i64) .bool) hsqf14_1 qf14_1 ++ ([] : List Fact))) := hC
 refine lp (.int .i64 v26_1) (pu_assign rfl) ?_
 refine lex.sk (hC.seta (i := 0) (ds := [.int .i64 x82.1.1, .int .i64 x82.1.2.1, .int .i64 x82.1.2.2, .int .i64 x82.2.1.1, .int .i64 x82.2.1.2.1, .int .i64 x82.2.1.2.2, .int .i64 x82.2.2.1, .int .i64 x82.2.2.2]) rfl Try.type105 rfl rfl rfl rfl rfl) ?_
 rintro w119 ⟨hC, hF⟩
 refine ln ?_
 refine hK81 _ _ ?_
 refine Wc.seq fun K120 hK120 => ?_
 refine Wc.seq fun K121 hK121 => ?_
 refine rg ?_
 replace hC : Cx (fun _ => False) O0 w w119 ([.box g116 105 [.int .i64 x82.1.1, .int .i64 x82.1.2.1, .int .i64 x82.1.2.2, .int .i64 x82.2.1.1, .int .i64 x82.2.1.2.1, .int .i64 x82.2.1.2.2, .int .i64 x82.2.2.1, .int .i64 x82.2.2.2], .box g3 68 [.slice (some ad32) list_0.length clist_0], .ro (.sl (.pr (.pr (.int .i64) (.pr (.int .i64) (.int .i64))) (.pr (.pr (.int .i64) (.pr (.int .i64) (.int .i64))) (.pr (.int .i64) (.int .i64))))) [.slice (some ad32) list_0.length clist_0] list_0, .own 73 .raw (.slice A9 (((List.replicate (list_0.length : Int).toNat (Value.slice none 0 0))).length) c10) hsqf14_1, .box g64 105 [.int .i64 x30.1.1, .int .i64 x30.1.2.1, .int .i64 x30.1.2.2, .int .i64 x30.2.1.1, .int .i64 x30.2.1.2.1, .int .i64 x30.2.1.2.2, .int .i64 x30.2.2.1, .int .i64 x30.2.2.2]] ++ (rowsF 107 (.pr (.int .i64) .bool) hsqf14_1 qf14_1 ++ ([] : List Fact))) := hC
 refine lp (.int .i64 v26_1) (pu_move rfl) ?_
 refine lp (.int .i64 v19_0) (pu_move e5) ?_
 refine lp (.bool (decide (v26_1 = v19_0))) (pu_eql (k := .i64) (a := v26_1) (b := v19_0) rfl rfl) ?_
 refine ln ?_
 refine hK121 _ _ ?_
 refine Wc.cond (t := (decide (v26_1 = v19_0))) (rfl) (fun hq122 => ?_) (fun hq122 => ?_)
 replace hb := tt hq122 hb
 refine Wc.exit rfl ?_
 refine hK80 _ _ ?_
 refine rg ?_
 obtain ⟨z123, h124, hb⟩ := bd hb
 refine lp (.int .i64 z123) (pu_addc (a := v26_1) (b := 1) e26 rfl h124) ?_
 refine lp (.int .i64 z123) (pu_move rfl) ?_
 refine ln ?_
 obtain rfl := os hb
 exact hK72 m73' _ _ (Nat.lt_succ_self _) ⟨z123, qf14_1, hsqf14_1, e1, e2, e3, e4, e5, e6, e17, e18, e19, e20, e24, e25, rfl, (chk_rng h124), hNqf14_1, hC.selT [1, 2, 3, 4] (by decide), lN hl1⟩
 replace hb := tf hq122 hb
 refine Wc.skip ?_
 refine hK120 _ _ ?_
 refine Wc.seqJ (fun E wv => ∃ (v49_2 : Bool), E 1 = .pointer (some ⟨g3, 0, none⟩) ∧ E 2 = .slice none 0 0 ∧ E 3 = .bool false ∧ E 4 = .slice A9 (((List.replicate (list_0.length : Int).toNat (Value.slice none 0 0))).length) c10 ∧ E 5 = .int .i64 v19_0 ∧ E 6 = .pointer (some ⟨g64, 0, none⟩) ∧ E 7 = .int .i64 v26_1 ∧ E 8 = .pointer (some ⟨g116, 0, none⟩) ∧ E 17 = .slice (some ad32) list_0.length clist_0 ∧ E 18 = .int .i64 (list_0.length : Int) ∧ E 19 = .int .i64 v19_0 ∧ E 20 = .bool (decide (v19_0 < (list_0.length : Int))) ∧ E 24 = .slice (some ad32) list_0.length clist_0 ∧ E 25 = .int .i64 (list_0.length : Int) ∧ E 26 = .int .i64 v26_1 ∧ E 27 = .bool (decide (v26_1 < (list_0.length : Int))) ∧ E 33 = .bool (decide (v26_1 = v19_0)) ∧ E 49 = .bool v49_2 ∧ Cx (fun _ => False) O0 w wv ([.box g3 68 [.slice (some ad32) list_0.length clist_0], .ro (.sl (.pr (.pr (.int .i64) (.pr (.int .i64) (.int .i64))) (.pr (.pr (.int .i64) (.pr (.int .i64) (.int .i64))) (.pr (.int .i64) (.int .i64))))) [.slice (some ad32) list_0.length clist_0] list_0, .own 73 .raw (.slice A9 (((List.replicate (list_0.length : Int).toNat (Value.slice none 0 0))).length) c10) hsqf14_1, .box g64 105 [.int .i64 x30.1.1, .int .i64 x30.1.2.1, .int .i64 x30.1.2.2, .int .i64 x30.2.1.1, .int .i64 x30.2.1.2.1, .int .i64 x30.2.1.2.2, .int .i64 x30.2.2.1, .int .i64 x30.2.2.2], .box g116 105 [.int .i64 x82.1.1, .int .i64 x82.1.2.1, .int .i64 x82.1.2.2, .int .i64 x82.2.1.1, .int .i64 x82.2.1.2.1, .int .i64 x82.2.1.2.2, .int .i64 x82.2.2.1, .int .i64 x82.2.2.2]] ++ (rowsF 107 (.pr (.int .i64) .bool) hsqf14_1 qf14_1 ++ ([] : List Fact))) ∧ F.polygon_cross_j2 n v19_0 x30 v26_1 qf14_1 x82 v49_2 = some o76) (fun K125 hK125 => ?_) ?_
 refine Wc.seq fun K126 hK126 => ?_
 refine rg ?_
 refine lp (.pointer (some ((⟨g64, 0, none⟩ : Addr).add 0))) (pu_field (sz := 3) Try.underlying105 rfl Try.sizeOf23 (by decide) rfl e6) ?_
 refine lp (.pointer (some ((⟨g64, 0, none⟩ : Addr).add 0))) (pu_field (A := ((⟨g64, 0, none⟩ : Addr).add 0)) (off := 0) (sz := 1) Try.underlying23 rfl Try.sizeOf3 (by decide) rfl rfl) ?_
 refine lv (.int .i64 x30.1.1) (ld_fld (hC.bx (i := 4) rfl) Try.isAgg3 rfl rfl) ?_
 refine lp (.pointer (some ((⟨g116, 0, none⟩ : Addr).add 0))) (pu_field (sz := 3) Try.underlying105 rfl Try.sizeOf23 (by decide) rfl rfl) ?_
 refine lp (.pointer (some ((⟨g116, 0, none⟩ : Addr).add 0))) (pu_field (A := ((⟨g116, 0, none⟩ : Addr).add 0)) (off := 0) (sz := 1) Try.underlying23 rfl Try.sizeOf3 (by decide) rfl rfl) ?_
 refine lv (.int .i64 x82.1.1) (ld_fld (hC.bx (i := 0) rfl) Try.isAgg3 rfl rfl) ?_
 refine lp (.bool (decide (x30.1.1 = x82.1.1))) (pu_eql (k := .i64) (a := x30.1.1) (b := x82.1.1) rfl rfl) ?_
 refine lp (.bool (decide (x30.1.1 = x82.1.1))) (pu_move rfl) ?_
 rcases bS (decide (x30.1.1 = x82.1.1)) with hq127 | hq127
 replace hb := tt hq127 hb
 refine gp rfl rfl (decide (x30.1.1 = x82.1.1)) rfl hq127 (.pointer (some ((⟨g64, 0, none⟩ : Addr).add 0))) (pu_field (sz := 3) Try.underlying105 rfl Try.sizeOf23 (by decide) rfl e6) ?_
 refine gp rfl rfl (decide (x30.1.1 = x82.1.1)) rfl hq127 (.pointer (some ((⟨g64, 0, none⟩ : Addr).add 1))) (pu_field (A := ((⟨g64, 0, none⟩ : Addr).add 0)) (off := 1) (sz := 1) Try.underlying23 rfl Try.sizeOf3 (by decide) rfl rfl) ?_
 refine gv rfl rfl (decide (x30.1.1 = x82.1.1)) rfl hq127 (.int .i64 x30.1.2.1) (ld_fld (hC.bx (i := 4) rfl) Try.isAgg3 rfl rfl) ?_
 refine gp rfl rfl (decide (x30.1.1 = x82.1.1)) rfl hq127 (.pointer (some ((⟨g116, 0, none⟩ : Addr).add 0))) (pu_field (sz := 3) Try.underlying105 rfl Try.sizeOf23 (by decide) rfl rfl) ?_
 refine gp rfl rfl (decide (x30.1.1 = x82.1.1)) rfl hq127 (.pointer (some ((⟨g116, 0, none⟩ : Addr).add 1))) (pu_field (A := ((⟨g116, 0, none⟩ : Addr).add 0)) (off := 1) (sz := 1) Try.underlying23 rfl Try.sizeOf3 (by decide) rfl rfl) ?_
 refine gv rfl rfl (decide (x30.1.1 = x82.1.1)) rfl hq127 (.int .i64 x82.1.2.1) (ld_fld (hC.bx (i := 0) rfl) Try.isAgg3 rfl rfl) ?_
 refine gp rfl rfl (decide (x30.1.1 = x82.1.1)) rfl hq127 (.bool (decide (x30.1.2.1 = x82.1.2.1))) (pu_eql (k := .i64) (a := x30.1.2.1) (b := x82.1.2.1) rfl rfl) ?_
 refine lp (.bool (decide (x30.1.2.1 = x82.1.2.1))) (pu_pickT (q := (decide (x30.1.1 = x82.1.1))) rfl hq127 rfl) ?_
 refine ln ?_
 refine hK126 _ _ ?_
 refine Wc.fresh fun E128 hE => ?_
 have e1 := (congrFun hE 1).trans e1
 have e2 := (congrFun hE 2).trans e2
 have e3 := (congrFun hE 3).trans e3
 have e4 := (congrFun hE 4).trans e4
 have e5 := (congrFun hE 5).trans e5
 have e6 := (congrFun hE 6).trans e6
 have e7 : E128 7 = .int .i64 v26_1 := (congrFun hE 7).trans rfl
 have e8 : E128 8 = .pointer (some ⟨g116, 0, none⟩) := (congrFun hE 8).trans rfl
 have e17 := (congrFun hE 17).trans e17
 have e18 := (congrFun hE 18).trans e18
 have e19 := (congrFun hE 19).trans e19
 have e20 := (congrFun hE 20).trans e20
 have e24 := (congrFun hE 24).trans e24
 have e25 := (congrFun hE 25).trans e25
 have e26 := (congrFun hE 26).trans e26
 have e27 : E128 27 = .bool (decide (v26_1 < (list_0.length : Int))) := (congrFun hE 27).trans rfl
 have e33 : E128 33 = .bool (decide (v26_1 = v19_0)) := (congrFun hE 33).trans rfl
 have e49 : E128 49 = .bool (decide (x30.1.2.1 = x82.1.2.1)) := (congrFun hE 49).trans rfl
 clear hE
 refine Wc.cond (t := (decide (x30.1.2.1 = x82.1.2.1))) (e49) (fun hq129 => ?_) (fun hq129 => ?_)
 replace hb := tt hq129 hb
 refine Wc.seq fun K130 hK130 => ?_
 refine rg ?_
 refine lp (.slice none 0 0) (pu_assign rfl) ?_
 refine lp (.bool false) (pu_assign rfl) ?_
 refine ln ?_
 refine hK130 _ _ ?_
 obtain rfl := os hb
 obtain rfl := (lX hl1).symm
 replace hb := hbK1
 obtain rfl := os hb
 obtain rfl := (lX hl0).symm
 replace hb := hbK0
 replace hC := hC.ro (show Rep _ _ (.sl (.sl (.pr (.int .i64) .bool))) [.slice none 0 0] [] from ⟨none, 0, rfl, Nat.le_refl _, by omega, fun h => absurd h (by simp)⟩)
 replace hC : Cx (fun _ => False) O0 w w119 ([.ro (.sl (.sl (.pr (.int .i64) .bool))) [.slice none 0 0] ([] : List (List (Int × Bool))), .box g116 105 [.int .i64 x82.1.1, .int .i64 x82.1.2.1, .int .i64 x82.1.2.2, .int .i64 x82.2.1.1, .int .i64 x82.2.1.2.1, .int .i64 x82.2.1.2.2, .int .i64 x82.2.2.1, .int .i64 x82.2.2.2], .box g3 68 [.slice (some ad32) list_0.length clist_0], .ro (.sl (.pr (.pr (.int .i64) (.pr (.int .i64) (.int .i64))) (.pr (.pr (.int .i64) (.pr (.int .i64) (.int .i64))) (.pr (.int .i64) (.int .i64))))) [.slice (some ad32) list_0.length clist_0] list_0, .own 73 .raw (.slice A9 (((List.replicate (list_0.length : Int).toNat (Value.slice none 0 0))).length) c10) hsqf14_1, .box g64 105 [.int .i64 x30.1.1, .int .i64 x30.1.2.1, .int .i64 x30.1.2.2, .int .i64 x30.2.1.1, .int .i64 x30.2.1.2.1, .int .i64 x30.2.1.2.2, .int .i64 x30.2.2.1, .int .i64 x30.2.2.2]] ++ (rowsF 107 (.pr (.int .i64) .bool) hsqf14_1 qf14_1 ++ ([] : List Fact))) := hC
 obtain rfl := os hb
 refine Wc.ret ?_
 refine hKR _ _ ?_
 refine ⟨_, res2 Try.results53 (show RV _ _ _ (.tmp _) (.slice none 0 0) from rfl) (show RV _ _ _ (.tmp _) (.bool false) from rfl), _, rfl, none, 0, 0, rfl, hC.sel [0] (by decide)⟩
 replace hb := tf hq129 hb
 refine Wc.skip ?_
 exact hK125 _ _ ⟨(decide (x30.1.2.1 = x82.1.2.1)), e1, e2, e3, e4, e5, e6, e7, e8, e17, e18, e19, e20, e24, e25, e26, e27, e33, e49, hC.selT [1, 2, 3, 4, 0] (by decide), hb⟩
 replace hb := tf hq127 hb
 refine gs rfl rfl (decide (x30.1.1 = x82.1.1)) rfl hq127 ?_
 refine gs rfl rfl (decide (x30.1.1 = x82.1.1)) rfl hq127 ?_
 refine gs rfl rfl (decide (x30.1.1 = x82.1.1)) rfl hq127 ?_
 refine gs rfl rfl (decide (x30.1.1 = x82.1.1)) rfl hq127 ?_
 refine gs rfl rfl (decide (x30.1.1 = x82.1.1)) rfl hq127 ?_
 refine gs rfl rfl (decide (x30.1.1 = x82.1.1)) rfl hq127 ?_
 refine gs rfl rfl (decide (x30.1.1 = x82.1.1)) rfl hq127 ?_
 refine lp (.bool false) (pu_pickF (q := (decide (x30.1.1 = x82.1.1))) rfl hq127 rfl) ?_
 refine ln ?_
 refine hK126 _ _ ?_
 refine Wc.fresh fun E132 hE => ?_
 have e1 := (congrFun hE 1).trans e1
 have e2 := (congrFun hE 2).trans e2
 have e3 := (congrFun hE 3).trans e3
 have e4 := (congrFun hE 4).trans e4
 have e5 := (congrFun hE 5).trans e5
 have e6 := (congrFun hE 6).trans e6
 have e7 : E132 7 = .int .i64 v26_1 := (congrFun hE 7).trans rfl
 have e8 : E132 8 = .pointer (some ⟨g116, 0, none⟩) := (congrFun hE 8).trans rfl
 have e17 := (congrFun hE 17).trans e17
 have e18 := (congrFun hE 18).trans e18
 have e19 := (congrFun hE 19).trans e19
 have e20 := (congrFun hE 20).trans e20
 have e24 := (congrFun hE 24).trans e24
 have e25 := (congrFun hE 25).trans e25
 have e26 := (congrFun hE 26).trans e26
 have e27 : E132 27 = .bool (decide (v26_1 < (list_0.length : Int))) := (congrFun hE 27).trans rfl
 have e33 : E132 33 = .bool (decide (v26_1 = v19_0)) := (congrFun hE 33).trans rfl
 have e49 : E132 49 = .bool false := (congrFun hE 49).trans rfl
 clear hE
 refine Wc.cond_false (e49) ?_
 refine Wc.skip ?_
 exact hK125 _ _ ⟨false, e1, e2, e3, e4, e5, e6, e7, e8, e17, e18, e19, e20, e24, e25, e26, e27, e33, e49, hC.selT [1, 2, 3, 4, 0] (by decide), hb⟩
 clear hb hC
 rintro E134 w133 ⟨v49_2, e1, e2, e3, e4, e5, e6, e7, e8, e17, e18, e19, e20, e24, e25, e26, e27, e33, e49, hC, hb⟩
 unfold F.polygon_cross_j2 at hb
 refine Wc.seqJ (fun E wv => ∃ (v63_3 : Bool), E 1 = .pointer (some ⟨g3, 0, none⟩) ∧ E 2 = .slice none 0 0 ∧ E 3 = .bool false ∧ E 4 = .slice A9 (((List.replicate (list_0.length : Int).toNat (Value.slice none 0 0))).length) c10 ∧ E 5 = .int .i64 v19_0 ∧ E 6 = .pointer (some ⟨g64, 0, none⟩) ∧ E 7 = .int .i64 v26_1 ∧ E 8 = .pointer (some ⟨g116, 0, none⟩) ∧ E 17 = .slice (some ad32) list_0.length clist_0 ∧ E 18 = .int .i64 (list_0.length : Int) ∧ E 19 = .int .i64 v19_0 ∧ E 20 = .bool (decide (v19_0 < (list_0.length : Int))) ∧ E 24 = .slice (some ad32) list_0.length clist_0 ∧ E 25 = .int .i64 (list_0.length : Int) ∧ E 26 = .int .i64 v26_1 ∧ E 27 = .bool (decide (v26_1 < (list_0.length : Int))) ∧ E 33 = .bool (decide (v26_1 = v19_0)) ∧ E 49 = .bool v49_2 ∧ E 63 = .bool v63_3 ∧ Cx (fun _ => False) O0 w wv ([.box g3 68 [.slice (some ad32) list_0.length clist_0], .ro (.sl (.pr (.pr (.int .i64) (.pr (.int .i64) (.int .i64))) (.pr (.pr (.int .i64) (.pr (.int .i64) (.int .i64))) (.pr (.int .i64) (.int .i64))))) [.slice (some ad32) list_0.length clist_0] list_0, .own 73 .raw (.slice A9 (((List.replicate (list_0.length : Int).toNat (Value.slice none 0 0))).length) c10) hsqf14_1, .box g64 105 [.int .i64 x30.1.1, .int .i64 x30.1.2.1, .int .i64 x30.1.2.2, .int .i64 x30.2.1.1, .int .i64 x30.2.1.2.1, .int .i64 x30.2.1.2.2, .int .i64 x30.2.2.1, .int .i64 x30.2.2.2], .box g116 105 [.int .i64 x82.1.1, .int .i64 x82.1.2.1, .int .i64 x82.1.2.2, .int .i64 x82.2.1.1, .int .i64 x82.2.1.2.1, .int .i64 x82.2.1.2.2, .int .i64 x82.2.2.1, .int .i64 x82.2.2.2]] ++ (rowsF 107 (.pr (.int .i64) .bool) hsqf14_1 qf14_1 ++ ([] : List Fact))) ∧ F.polygon_cross_j3 n v19_0 x30 v26_1 qf14_1 x82 v63_3 = some o76) (fun K135 hK135 => ?_) ?_
 refine Wc.seq fun K136 hK136 => ?_
 refine rg ?_
 replace hC : Cx (fun _ => False) O0 w w133 ([.box g3 68 [.slice (some ad32) list_0.length clist_0], .ro (.sl (.pr (.pr (.int .i64) (.pr (.int .i64) (.int .i64))) (.pr (.pr (.int .i64) (.pr (.int .i64) (.int .i64))) (.pr (.int .i64) (.int .i64))))) [.slice (some ad32) list_0.length clist_0] list_0, .own 73 .raw (.slice A9 (((List.replicate (list_0.length : Int).toNat (Value.slice none 0 0))).length) c10) hsqf14_1, .box g64 105 [.int .i64 x30.1.1, .int .i64 x30.1.2.1, .int .i64 x30.1.2.2, .int .i64 x30.2.1.1, .int .i64 x30.2.1.2.1, .int .i64 x30.2.1.2.2, .int .i64 x30.2.2.1, .int .i64 x30.2.2.2], .box g116 105 [.int .i64 x82.1.1, .int .i64 x82.1.2.1, .int .i64 x82.1.2.2, .int .i64 x82.2.1.1, .int .i64 x82.2.1.2.1, .int .i64 x82.2.1.2.2, .int .i64 x82.2.2.1, .int .i64 x82.2.2.2]] ++ (rowsF 107 (.pr (.int .i64) .bool) hsqf14_1 qf14_1 ++ ([] : List Fact))) := hC
 refine lp (.pointer (some ((⟨g116, 0, none⟩ : Addr).add 6))) (pu_field (sz := 1) Try.underlying105 rfl Try.sizeOf3 (by decide) rfl e8) ?_
 refine lv (.int .i64 x82.2.2.1) (ld_fld (hC.bx (i := 4) rfl) Try.isAgg3 rfl rfl) ?_
 refine lp (.pointer (some ((⟨g64, 0, none⟩ : Addr).add 7))) (pu_field (sz := 1) Try.underlying105 rfl Try.sizeOf3 (by decide) rfl e6) ?_
 refine lv (.int .i64 x30.2.2.2) (ld_fld (hC.bx (i := 3) rfl) Try.isAgg3 rfl rfl) ?_
 refine lp (.bool (!(decide (x82.2.2.1 = x30.2.2.2)))) (pu_neq (k := .i64) (a := x82.2.2.1) (b := x30.2.2.2) rfl rfl) ?_
 refine lp (.bool (!(decide (x82.2.2.1 = x30.2.2.2)))) (pu_move rfl) ?_
 rcases bS (!(decide (x82.2.2.1 = x30.2.2.2))) with hq137 | hq137
 replace hb := tt hq137 hb
 refine gp rfl rfl (!(decide (x82.2.2.1 = x30.2.2.2))) rfl hq137 (.pointer (some ((⟨g64, 0, none⟩ : Addr).add 0))) (pu_field (sz := 3) Try.underlying105 rfl Try.sizeOf23 (by decide) rfl e6) ?_
 refine gv rfl rfl (!(decide (x82.2.2.1 = x30.2.2.2))) rfl hq137 (.agg #[.int .i64 x30.1.1, .int .i64 x30.1.2.1, .int .i64 x30.1.2.2]) (ld_part (o := 0) (hC.bx (i := 3) rfl) Try.isAgg23 Try.sizeOf23 rfl rfl rfl) ?_
 refine gp rfl rfl (!(decide (x82.2.2.1 = x30.2.2.2))) rfl hq137 (.pointer (some ((⟨g64, 0, none⟩ : Addr).add 3))) (pu_field (sz := 3) Try.underlying105 rfl Try.sizeOf23 (by decide) rfl e6) ?_
 refine gv rfl rfl (!(decide (x82.2.2.1 = x30.2.2.2))) rfl hq137 (.agg #[.int .i64 x30.2.1.1, .int .i64 x30.2.1.2.1, .int .i64 x30.2.1.2.2]) (ld_part (o := 3) (hC.bx (i := 3) rfl) Try.isAgg23 Try.sizeOf23 rfl rfl rfl) ?_
 refine gp rfl rfl (!(decide (x82.2.2.1 = x30.2.2.2))) rfl hq137 (.pointer (some ((⟨g116, 0, none⟩ : Addr).add 0))) (pu_field (sz := 3) Try.underlying105 rfl Try.sizeOf23 (by decide) rfl e8) ?_
 refine gv rfl rfl (!(decide (x82.2.2.1 = x30.2.2.2))) rfl hq137 (.agg #[.int .i64 x82.1.1, .int .i64 x82.1.2.1, .int .i64 x82.1.2.2]) (ld_part (o := 0) (hC.bx (i := 4) rfl) Try.isAgg23 Try.sizeOf23 rfl rfl rfl) ?_
 obtain ⟨y138, h139, hb⟩ := bd hb
 refine lex.gcl (want_t rfl rfl (show _ = Value.bool (!(decide (x82.2.2.1 = x30.2.2.2))) from rfl) hq137) (⟨_, _, op_call (vs := [.agg #[.int .i64 x30.1.1, .int .i64 x30.1.2.1, .int .i64 x30.1.2.2], .agg #[.int .i64 x30.2.1.1, .int .i64 x30.2.1.2.1, .int .i64 x30.2.1.2.2], .agg #[.int .i64 x82.1.1, .int .i64 x82.1.2.1, .int .i64 x82.1.2.2]]) Try.call46 rfl rfl rfl, polygon_on_ok n hC.lt (wrap_I64 hr42) (wrap_I64 hr46) (wrap_I64 hr47) (wrap_I64 hr54) (wrap_I64 hr58) (wrap_I64 hr59) (wrap_I64 hr94) (wrap_I64 hr98) (wrap_I64 hr99) h139⟩) ?_
 rintro _ w140 ⟨rfl, hK⟩
 replace hC := hC.merge hK
 clear hK
 replace hC : Cx (fun _ => False) O0 w w140 ([.box g3 68 [.slice (some ad32) list_0.length clist_0], .ro (.sl (.pr (.pr (.int .i64) (.pr (.int .i64) (.int .i64))) (.pr (.pr (.int .i64) (.pr (.int .i64) (.int .i64))) (.pr (.int .i64) (.int .i64))))) [.slice (some ad32) list_0.length clist_0] list_0, .own 73 .raw (.slice A9 (((List.replicate (list_0.length : Int).toNat (Value.slice none 0 0))).length) c10) hsqf14_1, .box g64 105 [.int .i64 x30.1.1, .int .i64 x30.1.2.1, .int .i64 x30.1.2.2, .int .i64 x30.2.1.1, .int .i64 x30.2.1.2.1, .int .i64 x30.2.1.2.2, .int .i64 x30.2.2.1, .int .i64 x30.2.2.2], .box g116 105 [.int .i64 x82.1.1, .int .i64 x82.1.2.1, .int .i64 x82.1.2.2, .int .i64 x82.2.1.1, .int .i64 x82.2.1.2.1, .int .i64 x82.2.1.2.2, .int .i64 x82.2.2.1, .int .i64 x82.2.2.2]] ++ (rowsF 107 (.pr (.int .i64) .bool) hsqf14_1 qf14_1 ++ ([] : List Fact))) := hC
 refine lp (.bool y138) (pu_pickT (q := (!(decide (x82.2.2.1 = x30.2.2.2)))) rfl hq137 rfl) ?_
 refine ln ?_
 refine hK136 _ _ ?_
 refine Wc.fresh fun E141 hE => ?_
 have e1 := (congrFun hE 1).trans e1
 have e2 := (congrFun hE 2).trans e2
 have e3 := (congrFun hE 3).trans e3
 have e4 := (congrFun hE 4).trans e4
 have e5 := (congrFun hE 5).trans e5
 have e6 := (congrFun hE 6).trans e6
 have e7 := (congrFun hE 7).trans e7
 have e8 := (congrFun hE 8).trans e8
 have e17 := (congrFun hE 17).trans e17
 have e18 := (congrFun hE 18).trans e18
 have e19 := (congrFun hE 19).trans e19
 have e20 := (congrFun hE 20).trans e20
 have e24 := (congrFun hE 24).trans e24
 have e25 := (congrFun hE 25).trans e25
 have e26 := (congrFun hE 26).trans e26
 have e27 := (congrFun hE 27).trans e27
 have e33 := (congrFun hE 33).trans e33
 have e49 := (congrFun hE 49).trans e49
 have e63 : E141 63 = .bool y138 := (congrFun hE 63).trans rfl
 clear hE
 refine Wc.cond (t := y138) (e63) (fun hq142 => ?_) (fun hq142 => ?_)
 replace hb := tt hq142 hb
 refine Wc.seq fun K143 hK143 => ?_
 refine rg ?_
 refine lp (.slice none 0 0) (pu_assign rfl) ?_
 refine lp (.bool false) (pu_assign rfl) ?_
 refine ln ?_
 refine hK143 _ _ ?_
 obtain rfl := os hb
 obtain rfl := (lX hl1).symm
 replace hb := hbK1
 obtain rfl := os hb
 obtain rfl := (lX hl0).symm
 replace hb := hbK0
 replace hC := hC.ro (show Rep _ _ (.sl (.sl (.pr (.int .i64) .bool))) [.slice none 0 0] [] from ⟨none, 0, rfl, Nat.le_refl _, by omega, fun h => absurd h (by simp)⟩)
 replace hC : Cx (fun _ => False) O0 w w140 ([.ro (.sl (.sl (.pr (.int .i64) .bool))) [.slice none 0 0] ([] : List (List (Int × Bool))), .box g3 68 [.slice (some ad32) list_0.length clist_0], .ro (.sl (.pr (.pr (.int .i64) (.pr (.int .i64) (.int .i64))) (.pr (.pr (.int .i64) (.pr (.int .i64) (.int .i64))) (.pr (.int .i64) (.int .i64))))) [.slice (some ad32) list_0.length clist_0] list_0, .own 73 .raw (.slice A9 (((List.replicate (list_0.length : Int).toNat (Value.slice none 0 0))).length) c10) hsqf14_1, .box g64 105 [.int .i64 x30.1.1, .int .i64 x30.1.2.1, .int .i64 x30.1.2.2, .int .i64 x30.2.1.1, .int .i64 x30.2.1.2.1, .int .i64 x30.2.1.2.2, .int .i64 x30.2.2.1, .int .i64 x30.2.2.2], .box g116 105 [.int .i64 x82.1.1, .int .i64 x82.1.2.1, .int .i64 x82.1.2.2, .int .i64 x82.2.1.1, .int .i64 x82.2.1.2.1, .int .i64 x82.2.1.2.2, .int .i64 x82.2.2.1, .int .i64 x82.2.2.2]] ++ (rowsF 107 (.pr (.int .i64) .bool) hsqf14_1 qf14_1 ++ ([] : List Fact))) := hC
 obtain rfl := os hb
 refine Wc.ret ?_
 refine hKR _ _ ?_
 refine ⟨_, res2 Try.results53 (show RV _ _ _ (.tmp _) (.slice none 0 0) from rfl) (show RV _ _ _ (.tmp _) (.bool false) from rfl), _, rfl, none, 0, 0, rfl, hC.sel [0] (by decide)⟩
 replace hb := tf hq142 hb
 refine Wc.skip ?_
 exact hK135 _ _ ⟨y138, e1, e2, e3, e4, e5, e6, e7, e8, e17, e18, e19, e20, e24, e25, e26, e27, e33, e49, e63, hC.selT [0, 1, 2, 3, 4] (by decide), hb⟩
 replace hb := tf hq137 hb
 refine gs rfl rfl (!(decide (x82.2.2.1 = x30.2.2.2))) rfl hq137 ?_
 refine gs rfl rfl (!(decide (x82.2.2.1 = x30.2.2.2))) rfl hq137 ?_
 refine gs rfl rfl (!(decide (x82.2.2.1 = x30.2.2.2))) rfl hq137 ?_
 refine gs rfl rfl (!(decide (x82.2.2.1 = x30.2.2.2))) rfl hq137 ?_
 refine gs rfl rfl (!(decide (x82.2.2.1 = x30.2.2.2))) rfl hq137 ?_
 refine gs rfl rfl (!(decide (x82.2.2.1 = x30.2.2.2))) rfl hq137 ?_
 refine gs rfl rfl (!(decide (x82.2.2.1 = x30.2.2.2))) rfl hq137 ?_
 refine lp (.bool false) (pu_pickF (q := (!(decide (x82.2.2.1 = x30.2.2.2)))) rfl hq137 rfl) ?_
 refine ln ?_
 refine hK136 _ _ ?_
 refine Wc.cond_false (rfl) ?_
 refine Wc.skip ?_
 exact hK135 _ _ ⟨false, e1, e2, e3, e4, e5, e6, e7, e8, e17, e18, e19, e20, e24, e25, e26, e27, e33, e49, rfl, hC.selT [0, 1, 2, 3, 4] (by decide), hb⟩
 clear hb hC
 rintro E146 w145 ⟨v63_3, e1, e2, e3, e4, e5, e6, e7, e8, e17, e18, e19, e20, e24, e25, e26, e27, e33, e49, e63, hC, hb⟩
 unfold F.polygon_cross_j3 at hb
 refine Wc.seq fun K147 hK147 => ?_
 refine Wc.seq fun K148 hK148 => ?_
 refine rg ?_
 replace hC : Cx (fun _ => False) O0 w w145 ([.box g3 68 [.slice (some ad32) list_0.length clist_0], .ro (.sl (.pr (.pr (.int .i64) (.pr (.int .i64) (.int .i64))) (.pr (.pr (.int .i64) (.pr (.int .i64) (.int .i64))) (.pr (.int .i64) (.int .i64))))) [.slice (some ad32) list_0.length clist_0] list_0, .own 73 .raw (.slice A9 (((List.replicate (list_0.length : Int).toNat (Value.slice none 0 0))).length) c10) hsqf14_1, .box g64 105 [.int .i64 x30.1.1, .int .i64 x30.1.2.1, .int .i64 x30.1.2.2, .int .i64 x30.2.1.1, .int .i64 x30.2.1.2.1, .int .i64 x30.2.1.2.2, .int .i64 x30.2.2.1, .int .i64 x30.2.2.2], .box g116 105 [.int .i64 x82.1.1, .int .i64 x82.1.2.1, .int .i64 x82.1.2.2, .int .i64 x82.2.1.1, .int .i64 x82.2.1.2.1, .int .i64 x82.2.1.2.2, .int .i64 x82.2.2.1, .int .i64 x82.2.2.2]] ++ (rowsF 107 (.pr (.int .i64) .bool) hsqf14_1 qf14_1 ++ ([] : List Fact))) := hC
 refine lp (.pointer (some ((⟨g116, 0, none⟩ : Addr).add 6))) (pu_field (sz := 1) Try.underlying105 rfl Try.sizeOf3 (by decide) rfl e8) ?_
 refine lv (.int .i64 x82.2.2.1) (ld_fld (hC.bx (i := 4) rfl) Try.isAgg3 rfl rfl) ?_
 refine lp (.pointer (some ((⟨g64, 0, none⟩ : Addr).add 7))) (pu_field (sz := 1) Try.underlying105 rfl Try.sizeOf3 (by decide) rfl e6) ?_
 refine lv (.int .i64 x30.2.2.2) (ld_fld (hC.bx (i := 3) rfl) Try.isAgg3 rfl rfl) ?_
 refine lp (.bool (decide (x82.2.2.1 = x30.2.2.2))) (pu_eql (k := .i64) (a := x82.2.2.1) (b := x30.2.2.2) rfl rfl) ?_
 refine lp (.bool (decide (x82.2.2.1 = x30.2.2.2))) (pu_move rfl) ?_
 rcases bS (decide (x82.2.2.1 = x30.2.2.2)) with hq149 | hq149
 replace hb := tt hq149 hb
 refine gs rfl rfl (decide (x82.2.2.1 = x30.2.2.2)) rfl hq149 ?_
 refine gs rfl rfl (decide (x82.2.2.1 = x30.2.2.2)) rfl hq149 ?_
 refine gs rfl rfl (decide (x82.2.2.1 = x30.2.2.2)) rfl hq149 ?_
 refine gs rfl rfl (decide (x82.2.2.1 = x30.2.2.2)) rfl hq149 ?_
 refine gs rfl rfl (decide (x82.2.2.1 = x30.2.2.2)) rfl hq149 ?_
 refine lp (.bool true) (pu_pickT (q := (decide (x82.2.2.1 = x30.2.2.2))) rfl hq149 rfl) ?_
 refine ln ?_
 refine hK148 _ _ ?_
 refine Wc.cond_true (rfl) ?_
 refine Wc.exit rfl ?_
 refine hK80 _ _ ?_
 refine rg ?_
 obtain ⟨z150, h151, hb⟩ := bd hb
 refine lp (.int .i64 z150) (pu_addc (a := v26_1) (b := 1) e26 rfl h151) ?_
 refine lp (.int .i64 z150) (pu_move rfl) ?_
 refine ln ?_
 obtain rfl := os hb
 exact hK72 m73' _ _ (Nat.lt_succ_self _) ⟨z150, qf14_1, hsqf14_1, e1, e2, e3, e4, e5, e6, e17, e18, e19, e20, e24, e25, rfl, (chk_rng h151), hNqf14_1, hC.selT [0, 1, 2, 3] (by decide), lN hl1⟩
 replace hb := tf hq149 hb
 refine gp rfl rfl (decide (x82.2.2.1 = x30.2.2.2)) rfl hq149 (.pointer (some ((⟨g116, 0, none⟩ : Addr).add 7))) (pu_field (sz := 1) Try.underlying105 rfl Try.sizeOf3 (by decide) rfl e8) ?_
 refine gv rfl rfl (decide (x82.2.2.1 = x30.2.2.2)) rfl hq149 (.int .i64 x82.2.2.2) (ld_fld (hC.bx (i := 4) rfl) Try.isAgg3 rfl rfl) ?_
 refine gp rfl rfl (decide (x82.2.2.1 = x30.2.2.2)) rfl hq149 (.pointer (some ((⟨g64, 0, none⟩ : Addr).add 6))) (pu_field (sz := 1) Try.underlying105 rfl Try.sizeOf3 (by decide) rfl e6) ?_
 refine gv rfl rfl (decide (x82.2.2.1 = x30.2.2.2)) rfl hq149 (.int .i64 x30.2.2.1) (ld_fld (hC.bx (i := 3) rfl) Try.isAgg3 rfl rfl) ?_
 refine gp rfl rfl (decide (x82.2.2.1 = x30.2.2.2)) rfl hq149 (.bool (decide (x82.2.2.2 = x30.2.2.1))) (pu_eql (k := .i64) (a := x82.2.2.2) (b := x30.2.2.1) rfl rfl) ?_
 refine lp (.bool (decide (x82.2.2.2 = x30.2.2.1))) (pu_pickF (q := (decide (x82.2.2.1 = x30.2.2.2))) rfl hq149 rfl) ?_
 refine ln ?_
 refine hK148 _ _ ?_
 refine Wc.cond (t := (decide (x82.2.2.2 = x30.2.2.1))) (rfl) (fun hq152 => ?_) (fun hq152 => ?_)
 replace hb := tt hq152 hb
 refine Wc.exit rfl ?_
 refine hK80 _ _ ?_
 refine rg ?_
 obtain ⟨z153, h154, hb⟩ := bd hb
 refine lp (.int .i64 z153) (pu_addc (a := v26_1) (b := 1) e26 rfl h154) ?_
 refine lp (.int .i64 z153) (pu_move rfl) ?_
 refine ln ?_
 obtain rfl := os hb
 exact hK72 m73' _ _ (Nat.lt_succ_self _) ⟨z153, qf14_1, hsqf14_1, e1, e2, e3, e4, e5, e6, e17, e18, e19, e20, e24, e25, rfl, (chk_rng h154), hNqf14_1, hC.selT [0, 1, 2, 3] (by decide), lN hl1⟩
 replace hb := tf hq152 hb
 refine Wc.skip ?_
 refine hK147 _ _ ?_
 refine Wc.fresh fun E155 hE => ?_
 have e1 := (congrFun hE 1).trans e1
 have e2 := (congrFun hE 2).trans e2
 have e3 := (congrFun hE 3).trans e3
 have e4 := (congrFun hE 4).trans e4
 have e5 := (congrFun hE 5).trans e5
 have e6 := (congrFun hE 6).trans e6
 have e7 := (congrFun hE 7).trans e7
 have e8 := (congrFun hE 8).trans e8
 have e17 := (congrFun hE 17).trans e17
 have e18 := (congrFun hE 18).trans e18
 have e19 := (congrFun hE 19).trans e19
 have e20 := (congrFun hE 20).trans e20
 have e24 := (congrFun hE 24).trans e24
 have e25 := (congrFun hE 25).trans e25
 have e26 := (congrFun hE 26).trans e26
 have e27 := (congrFun hE 27).trans e27
 have e33 := (congrFun hE 33).trans e33
 have e49 := (congrFun hE 49).trans e49
 have e63 := (congrFun hE 63).trans e63
 have e75 : E155 75 = .bool (decide (x82.2.2.2 = x30.2.2.1)) := (congrFun hE 75).trans rfl
 clear hE
 refine Wc.seq fun K156 hK156 => ?_
 refine rg ?_
 refine lp (.pointer (some ((⟨g64, 0, none⟩ : Addr).add 0))) (pu_field (sz := 3) Try.underlying105 rfl Try.sizeOf23 (by decide) rfl e6) ?_
 refine lv (.agg #[.int .i64 x30.1.1, .int .i64 x30.1.2.1, .int .i64 x30.1.2.2]) (ld_part (o := 0) (hC.bx (i := 3) rfl) Try.isAgg23 Try.sizeOf23 rfl rfl rfl) ?_
 refine lp (.pointer (some ((⟨g64, 0, none⟩ : Addr).add 3))) (pu_field (sz := 3) Try.underlying105 rfl Try.sizeOf23 (by decide) rfl e6) ?_
 refine lv (.agg #[.int .i64 x30.2.1.1, .int .i64 x30.2.1.2.1, .int .i64 x30.2.1.2.2]) (ld_part (o := 3) (hC.bx (i := 3) rfl) Try.isAgg23 Try.sizeOf23 rfl rfl rfl) ?_
 refine lp (.pointer (some ((⟨g116, 0, none⟩ : Addr).add 0))) (pu_field (sz := 3) Try.underlying105 rfl Try.sizeOf23 (by decide) rfl e8) ?_
 refine lv (.agg #[.int .i64 x82.1.1, .int .i64 x82.1.2.1, .int .i64 x82.1.2.2]) (ld_part (o := 0) (hC.bx (i := 4) rfl) Try.isAgg23 Try.sizeOf23 rfl rfl rfl) ?_
 refine lp (.pointer (some ((⟨g116, 0, none⟩ : Addr).add 3))) (pu_field (sz := 3) Try.underlying105 rfl Try.sizeOf23 (by decide) rfl e8) ?_
 refine lv (.agg #[.int .i64 x82.2.1.1, .int .i64 x82.2.1.2.1, .int .i64 x82.2.1.2.2]) (ld_part (o := 3) (hC.bx (i := 4) rfl) Try.isAgg23 Try.sizeOf23 rfl rfl rfl) ?_
 obtain ⟨y157, h158, hb⟩ := bd hb
 refine lex.cl (⟨_, _, op_call (vs := [.agg #[.int .i64 x30.1.1, .int .i64 x30.1.2.1, .int .i64 x30.1.2.2], .agg #[.int .i64 x30.2.1.1, .int .i64 x30.2.1.2.1, .int .i64 x30.2.1.2.2], .agg #[.int .i64 x82.1.1, .int .i64 x82.1.2.1, .int .i64 x82.1.2.2], .agg #[.int .i64 x82.2.1.1, .int .i64 x82.2.1.2.1, .int .i64 x82.2.1.2.2]]) Try.call12 rfl rfl rfl, polygon_Cross_ok n hC.lt (wrap_I64 hr42) (wrap_I64 hr46) (wrap_I64 hr47) (wrap_I64 hr54) (wrap_I64 hr58) (wrap_I64 hr59) (wrap_I64 hr94) (wrap_I64 hr98) (wrap_I64 hr99) (wrap_I64 hr106) (wrap_I64 hr110) (wrap_I64 hr111) h158⟩) ?_
 rintro _ w160 ⟨rfl, hr159, hK⟩
 replace hC := hC.merge hK
 clear hK
 replace hC : Cx (fun _ => False) O0 w w160 ([.box g3 68 [.slice (some ad32) list_0.length clist_0], .ro (.sl (.pr (.pr (.int .i64) (.pr (.int .i64) (.int .i64))) (.pr (.pr (.int .i64) (.pr (.int .i64) (.int .i64))) (.pr (.int .i64) (.int .i64))))) [.slice (some ad32) list_0.length clist_0] list_0, .own 73 .raw (.slice A9 (((List.replicate (list_0.length : Int).toNat (Value.slice none 0 0))).length) c10) hsqf14_1, .box g64 105 [.int .i64 x30.1.1, .int .i64 x30.1.2.1, .int .i64 x30.1.2.2, .int .i64 x30.2.1.1, .int .i64 x30.2.1.2.1, .int .i64 x30.2.1.2.2, .int .i64 x30.2.2.1, .int .i64 x30.2.2.2], .box g116 105 [.int .i64 x82.1.1, .int .i64 x82.1.2.1, .int .i64 x82.1.2.2, .int .i64 x82.2.1.1, .int .i64 x82.2.1.2.1, .int .i64 x82.2.1.2.2, .int .i64 x82.2.2.1, .int .i64 x82.2.2.2]] ++ (rowsF 107 (.pr (.int .i64) .bool) hsqf14_1 qf14_1 ++ ([] : List Fact))) := hC
 refine lp (.tuple #[.int .i64 y157.1, .bool y157.2]) (pu_move rfl) ?_
 refine lp (.int .i64 y157.1) (pu_extract rfl rfl) ?_
 refine lp (.bool y157.2) (pu_extract rfl rfl) ?_
 refine lp (.int .i64 y157.1) (pu_assign rfl) ?_
 refine lp (.bool y157.2) (pu_assign rfl) ?_
 refine ln ?_
 refine hK156 _ _ ?_
 refine Wc.fresh fun E161 hE => ?_
 have e1 := (congrFun hE 1).trans e1
 have e2 := (congrFun hE 2).trans e2
 have e3 := (congrFun hE 3).trans e3
 have e4 := (congrFun hE 4).trans e4
 have e5 := (congrFun hE 5).trans e5
 have e6 := (congrFun hE 6).trans e6
 have e7 := (congrFun hE 7).trans e7
 have e8 := (congrFun hE 8).trans e8
 have e9 : E161 9 = .int .i64 y157.1 := (congrFun hE 9).trans rfl
 have e10 : E161 10 = .bool y157.2 := (congrFun hE 10).trans rfl
 have e17 := (congrFun hE 17).trans e17
 have e18 := (congrFun hE 18).trans e18
 have e19 := (congrFun hE 19).trans e19
 have e20 := (congrFun hE 20).trans e20
 have e24 := (congrFun hE 24).trans e24
 have e25 := (congrFun hE 25).trans e25
 have e26 := (congrFun hE 26).trans e26
 have e27 := (congrFun hE 27).trans e27
 have e33 := (congrFun hE 33).trans e33
 have e49 := (congrFun hE 49).trans e49
 have e63 := (congrFun hE 63).trans e63
 have e75 := (congrFun hE 75).trans e75
 clear hE
 refine Wc.seq fun K162 hK162 => ?_
 refine rg ?_
 refine lp (.int .i64 y157.1) (pu_move e9) ?_
 refine ln ?_
 refine hK162 _ _ ?_
 refine Wc.block ?_
 refine Wc.seq fun K163 hK163 => ?_
 refine rg ?_
 refine lp (.bool (decide (y157.1 = 2))) (pu_eql (k := .i64) (a := y157.1) (b := 2) rfl rfl) ?_
 refine lp (.bool (decide (y157.1 = 2))) (pu_assign rfl) ?_
 refine ln ?_
 refine hK163 _ _ ?_
 refine Wc.cond (t := (decide (y157.1 = 2))) (rfl) (fun hq164 => ?_) (fun hq164 => ?_)
 replace hb := tt hq164 hb
 refine Wc.seq fun K165 hK165 => ?_
 refine rg ?_
 refine lp (.slice none 0 0) (pu_assign rfl) ?_
 refine lp (.bool false) (pu_assign rfl) ?_
 refine ln ?_
 refine hK165 _ _ ?_
 obtain rfl := os hb
 obtain rfl := (lX hl1).symm
 replace hb := hbK1
 obtain rfl := os hb
 obtain rfl := (lX hl0).symm
 replace hb := hbK0
 replace hC := hC.ro (show Rep _ _ (.sl (.sl (.pr (.int .i64) .bool))) [.slice none 0 0] [] from ⟨none, 0, rfl, Nat.le_refl _, by omega, fun h => absurd h (by simp)⟩)
 replace hC : Cx (fun _ => False) O0 w w160 ([.ro (.sl (.sl (.pr (.int .i64) .bool))) [.slice none 0 0] ([] : List (List (Int × Bool))), .box g3 68 [.slice (some ad32) list_0.length clist_0], .ro (.sl (.pr (.pr (.int .i64) (.pr (.int .i64) (.int .i64))) (.pr (.pr (.int .i64) (.pr (.int .i64) (.int .i64))) (.pr (.int .i64) (.int .i64))))) [.slice (some ad32) list_0.length clist_0] list_0, .own 73 .raw (.slice A9 (((List.replicate (list_0.length : Int).toNat (Value.slice none 0 0))).length) c10) hsqf14_1, .box g64 105 [.int .i64 x30.1.1, .int .i64 x30.1.2.1, .int .i64 x30.1.2.2, .int .i64 x30.2.1.1, .int .i64 x30.2.1.2.1, .int .i64 x30.2.1.2.2, .int .i64 x30.2.2.1, .int .i64 x30.2.2.2], .box g116 105 [.int .i64 x82.1.1, .int .i64 x82.1.2.1, .int .i64 x82.1.2.2, .int .i64 x82.2.1.1, .int .i64 x82.2.1.2.1, .int .i64 x82.2.1.2.2, .int .i64 x82.2.2.1, .int .i64 x82.2.2.2]] ++ (rowsF 107 (.pr (.int .i64) .bool) hsqf14_1 qf14_1 ++ ([] : List Fact))) := hC
 obtain rfl := os hb
 refine Wc.ret ?_
 refine hKR _ _ ?_
 refine ⟨_, res2 Try.results53 (show RV _ _ _ (.tmp _) (.slice none 0 0) from rfl) (show RV _ _ _ (.tmp _) (.bool false) from rfl), _, rfl, none, 0, 0, rfl, hC.sel [0] (by decide)⟩
 replace hb := tf hq164 hb
 refine Wc.seq fun K167 hK167 => ?_
 refine rg ?_
 refine lp (.bool (decide (y157.1 = 1))) (pu_eql (k := .i64) (a := y157.1) (b := 1) rfl rfl) ?_
 refine lp (.bool (decide (y157.1 = 1))) (pu_assign rfl) ?_
 refine ln ?_
 refine hK167 _ _ ?_
 refine Wc.cond (t := (decide (y157.1 = 1))) (rfl) (fun hq168 => ?_) (fun hq168 => ?_)
 replace hb := tt hq168 hb
 refine rg ?_
 refine lp (.slice A9 (((List.replicate (list_0.length : Int).toNat (Value.slice none 0 0))).length) c10) (pu_move e4) ?_
 refine lp (.int .i64 v19_0) (pu_move e5) ?_
 refine lp (.slice A9 (((List.replicate (list_0.length : Int).toNat (Value.slice none 0 0))).length) c10) (pu_move e4) ?_
 refine lp (.int .i64 v19_0) (pu_move e5) ?_
 obtain ⟨x169, h170, hb⟩ := bd hb
 obtain ⟨v175, hv176, -⟩ := rowsF_get (e := 107) (s := (.pr (.int .i64) .bool)) hNqf14_1 (get_some h170).2
 obtain ⟨ad171, cs172, hA, hc173, hr174⟩ := hC.elo (i := 2) rfl hv176
 subst hA
 refine lp (.pointer (some (ad171.add (v19_0.toNat * 1)))) (pu_index (a := v19_0) Try.underlying70 Try.sizeOf73 rfl rfl (by rw [(hC.ow (i := 2) rfl).sl_len.1, hNqf14_1]; exact (get_some h170).1)) ?_
 replace hC : Cx (fun _ => False) O0 w w160 ([.box g3 68 [.slice (some ad32) list_0.length clist_0], .ro (.sl (.pr (.pr (.int .i64) (.pr (.int .i64) (.int .i64))) (.pr (.pr (.int .i64) (.pr (.int .i64) (.int .i64))) (.pr (.int .i64) (.int .i64))))) [.slice (some ad32) list_0.length clist_0] list_0, .own 73 .raw (.slice (some ad171) (((List.replicate (list_0.length : Int).toNat (Value.slice none 0 0))).length) c10) hsqf14_1, .box g64 105 [.int .i64 x30.1.1, .int .i64 x30.1.2.1, .int .i64 x30.1.2.2, .int .i64 x30.2.1.1, .int .i64 x30.2.1.2.1, .int .i64 x30.2.1.2.2, .int .i64 x30.2.2.1, .int .i64 x30.2.2.2], .box g116 105 [.int .i64 x82.1.1, .int .i64 x82.1.2.1, .int .i64 x82.1.2.2, .int .i64 x82.2.1.1, .int .i64 x82.2.1.2.1, .int .i64 x82.2.1.2.2, .int .i64 x82.2.2.1, .int .i64 x82.2.2.2]] ++ (rowsF 107 (.pr (.int .i64) .bool) hsqf14_1 qf14_1 ++ ([] : List Fact))) := hC
 replace hC := Cx.takeRow hC hv176 (get_some h170).2
 obtain ⟨A177, c178, hvf181, hl179, hc180⟩ := (hC.ow (i := 0) rfl).form
 subst hvf181
 obtain ⟨rfl, -⟩ := hr174
 replace hC : Cx (fun _ => False) O0 w w160 ([.own 107 (.pr (.int .i64) .bool) (.slice A177 x169.length c178) x169, .box g3 68 [.slice (some ad32) list_0.length clist_0], .ro (.sl (.pr (.pr (.int .i64) (.pr (.int .i64) (.int .i64))) (.pr (.pr (.int .i64) (.pr (.int .i64) (.int .i64))) (.pr (.int .i64) (.int .i64))))) [.slice (some ad32) list_0.length clist_0] list_0, .own 73 .raw (.slice (some ad171) (((List.replicate (list_0.length : Int).toNat (Value.slice none 0 0))).length) c10) hsqf14_1, .box g64 105 [.int .i64 x30.1.1, .int .i64 x30.1.2.1, .int .i64 x30.1.2.2, .int .i64 x30.2.1.1, .int .i64 x30.2.1.2.1, .int .i64 x30.2.1.2.2, .int .i64 x30.2.2.1, .int .i64 x30.2.2.2], .box g116 105 [.int .i64 x82.1.1, .int .i64 x82.1.2.1, .int .i64 x82.1.2.2, .int .i64 x82.2.1.1, .int .i64 x82.2.1.2.1, .int .i64 x82.2.1.2.2, .int .i64 x82.2.2.1, .int .i64 x82.2.2.2]] ++ ((rowsF 107 (.pr (.int .i64) .bool) hsqf14_1 qf14_1).eraseIdx v19_0.toNat ++ ([] : List Fact))) := hC
 refine lv (.slice A177 x169.length c178) (ld_one Try.isAgg73 rfl (hc173 0 _ rfl)) ?_
 refine lp (.int .i64 v26_1) (pu_move e7) ?_
 refine lp (.bool y157.2) (pu_move e10) ?_
 refine lp (.agg #[.int .i64 v26_1, .bool y157.2]) (pu_builds (places := [(0, 1), (1, 1)]) (pv := [(0, .int .i64 v26_1), (1, .bool y157.2)]) Try.type107 Try.underlying107 rfl (mp_cons Try.type3 (mp_cons Try.type4 mp_nil rfl rfl) rfl rfl) rfl (by simp [Instr.fill, Value.cells])) ?_
 refine lex.op (hC.lit (s := (.pr (.int .i64) .bool)) (vs := [.agg #[.int .i64 v26_1, .bool y157.2]]) (xs := [(v26_1, y157.2)]) Try.underlying73 Try.type107 rfl rfl (Nat.le_of_ble_eq_true rfl) rfl rfl (by simp [Value.cells, Sh.n]) rfl (show Elems _ _ (.pr (.int .i64) .bool) ([.int .i64 v26_1, .bool y157.2] ++ ([])) ([(v26_1, y157.2)] : List (Int × Bool)) from Elems.cons (⟨[.int .i64 v26_1], [.bool y157.2], rfl, ⟨rfl, I64.wr hrv26_1⟩, show Rep _ _ .bool _ _ from rfl⟩) (Elems.nil _ _ _))) ?_
 rintro _ w187 ⟨A183, c184, rfl, hl185, hc186, hC, hF, hN⟩
 clear hF hN
 replace hC : Cx (fun _ => False) O0 w w187 ([.own 107 (.pr (.int .i64) .bool) (.slice A183 ((([(v26_1, y157.2)] : List (Int × Bool))).length) c184) ([(v26_1, y157.2)] : List (Int × Bool)), .own 107 (.pr (.int .i64) .bool) (.slice A177 x169.length c178) x169, .box g3 68 [.slice (some ad32) list_0.length clist_0], .ro (.sl (.pr (.pr (.int .i64) (.pr (.int .i64) (.int .i64))) (.pr (.pr (.int .i64) (.pr (.int .i64) (.int .i64))) (.pr (.int .i64) (.int .i64))))) [.slice (some ad32) list_0.length clist_0] list_0, .own 73 .raw (.slice (some ad171) (((List.replicate (list_0.length : Int).toNat (Value.slice none 0 0))).length) c10) hsqf14_1, .box g64 105 [.int .i64 x30.1.1, .int .i64 x30.1.2.1, .int .i64 x30.1.2.2, .int .i64 x30.2.1.1, .int .i64 x30.2.1.2.1, .int .i64 x30.2.1.2.2, .int .i64 x30.2.2.1, .int .i64 x30.2.2.2], .box g116 105 [.int .i64 x82.1.1, .int .i64 x82.1.2.1, .int .i64 x82.1.2.2, .int .i64 x82.2.1.1, .int .i64 x82.2.1.2.1, .int .i64 x82.2.1.2.2, .int .i64 x82.2.2.1, .int .i64 x82.2.2.2]] ++ ((rowsF 107 (.pr (.int .i64) .bool) hsqf14_1 qf14_1).eraseIdx v19_0.toNat ++ ([] : List Fact))) := hC
 obtain ⟨u189, h190, hb⟩ := bd hb
 refine lex.op (hC.app (i := 1) (s := (.pr (.int .i64) .bool)) (xs := x169) (ys := ([(v26_1, y157.2)] : List (Int × Bool))) (m := ((([(v26_1, y157.2)] : List (Int × Bool))).length)) rfl Try.underlying73 Try.underlying73 Try.type107 rfl rfl rfl (hC.srco (i := 0) rfl) rfl rfl (by have := lim_some h190; simp at this ⊢ <;> omega) (by decide)) ?_
 rintro _ w195 ⟨A191, c192, rfl, hl193, hc194, hC, hF, hN⟩
 clear hF hN
 replace hC : Cx (fun _ => False) O0 w w195 ([.own 107 (.pr (.int .i64) .bool) (.slice A183 ((([(v26_1, y157.2)] : List (Int × Bool))).length) c184) ([(v26_1, y157.2)] : List (Int × Bool)), .own 107 (.pr (.int .i64) .bool) (.slice A191 ((x169 ++ ([(v26_1, y157.2)] : List (Int × Bool))).length) c192) (x169 ++ ([(v26_1, y157.2)] : List (Int × Bool))), .box g3 68 [.slice (some ad32) list_0.length clist_0], .ro (.sl (.pr (.pr (.int .i64) (.pr (.int .i64) (.int .i64))) (.pr (.pr (.int .i64) (.pr (.int .i64) (.int .i64))) (.pr (.int .i64) (.int .i64))))) [.slice (some ad32) list_0.length clist_0] list_0, .own 73 .raw (.slice (some ad171) (((List.replicate (list_0.length : Int).toNat (Value.slice none 0 0))).length) c10) hsqf14_1, .box g64 105 [.int .i64 x30.1.1, .int .i64 x30.1.2.1, .int .i64 x30.1.2.2, .int .i64 x30.2.1.1, .int .i64 x30.2.1.2.1, .int .i64 x30.2.1.2.2, .int .i64 x30.2.2.1, .int .i64 x30.2.2.2], .box g116 105 [.int .i64 x82.1.1, .int .i64 x82.1.2.1, .int .i64 x82.1.2.2, .int .i64 x82.2.1.1, .int .i64 x82.2.1.2.1, .int .i64 x82.2.1.2.2, .int .i64 x82.2.2.1, .int .i64 x82.2.2.2]] ++ ((rowsF 107 (.pr (.int .i64) .bool) hsqf14_1 qf14_1).eraseIdx v19_0.toNat ++ ([] : List Fact))) := hC
 obtain ⟨x196, h197, hb⟩ := bd hb
 obtain ⟨v202, hv203, -⟩ := rowsF_get (e := 107) (s := (.pr (.int .i64) .bool)) hNqf14_1 (get_some h197).2
 obtain ⟨ad198, cs199, hA, hc200, hr201⟩ := hC.elo (i := 4) rfl hv203
 obtain rfl := Option.some.inj hA
 refine lp (.pointer (some (ad171.add (v19_0.toNat * 1)))) (pu_index (a := v19_0) Try.underlying70 Try.sizeOf73 rfl rfl (by rw [(hC.ow (i := 4) rfl).sl_len.1, hNqf14_1]; exact (get_some h197).1)) ?_
 refine lex.sk (hC.put (i := 4) (s := .raw) rfl rfl Try.sizeOf73 (k := v19_0.toNat) (a := Value.slice A191 ((x169 ++ ([(v26_1, y157.2)] : List (Int × Bool))).length) c192) (by rw [hNqf14_1]; exact (List.getElem?_eq_some_iff.1 (get_some h197).2).1) (show Rep _ _ .raw [Value.slice A191 ((x169 ++ ([(v26_1, y157.2)] : List (Int × Bool))).length) c192] (Value.slice A191 ((x169 ++ ([(v26_1, y157.2)] : List (Int × Bool))).length) c192) from ⟨rfl, rfl⟩) rfl rfl rfl) ?_
 rintro w204 ⟨hC, hF⟩
 clear hF
 replace hC : Cx (fun _ => False) O0 w w204 ([.own 107 (.pr (.int .i64) .bool) (.slice A183 ((([(v26_1, y157.2)] : List (Int × Bool))).length) c184) ([(v26_1, y157.2)] : List (Int × Bool)), .own 107 (.pr (.int .i64) .bool) (.slice A191 ((x169 ++ ([(v26_1, y157.2)] : List (Int × Bool))).length) c192) (x169 ++ ([(v26_1, y157.2)] : List (Int × Bool))), .box g3 68 [.slice (some ad32) list_0.length clist_0], .ro (.sl (.pr (.pr (.int .i64) (.pr (.int .i64) (.int .i64))) (.pr (.pr (.int .i64) (.pr (.int .i64) (.int .i64))) (.pr (.int .i64) (.int .i64))))) [.slice (some ad32) list_0.length clist_0] list_0, .own 73 .raw (.slice (some ad171) (((List.replicate (list_0.length : Int).toNat (Value.slice none 0 0))).length) c10) (hsqf14_1.set v19_0.toNat (Value.slice A191 ((x169 ++ ([(v26_1, y157.2)] : List (Int × Bool))).length) c192)), .box g64 105 [.int .i64 x30.1.1, .int .i64 x30.1.2.1, .int .i64 x30.1.2.2, .int .i64 x30.2.1.1, .int .i64 x30.2.1.2.1, .int .i64 x30.2.1.2.2, .int .i64 x30.2.2.1, .int .i64 x30.2.2.2], .box g116 105 [.int .i64 x82.1.1, .int .i64 x82.1.2.1, .int .i64 x82.1.2.2, .int .i64 x82.2.1.1, .int .i64 x82.2.1.2.1, .int .i64 x82.2.1.2.2, .int .i64 x82.2.2.1, .int .i64 x82.2.2.2]] ++ ((rowsF 107 (.pr (.int .i64) .bool) hsqf14_1 qf14_1).eraseIdx v19_0.toNat ++ ([] : List Fact))) := hC
 replace hC := hC.selT [1, 0, 2, 3, 4, 5, 6] (by decide)
 replace hC := Cx.putRow hC hNqf14_1 (List.getElem?_eq_some_iff.1 (get_some h197).2).1
 have hN205 : (hsqf14_1.set v19_0.toNat (Value.slice A191 ((x169 ++ ([(v26_1, y157.2)] : List (Int × Bool))).length) c192)).length = (qf14_1.set v19_0.toNat (x169 ++ ([(v26_1, y157.2)] : List (Int × Bool)))).length := lenset hNqf14_1 _ _ _ _
 replace hC : Cx (fun _ => False) O0 w w204 ([.own 107 (.pr (.int .i64) .bool) (.slice A183 ((([(v26_1, y157.2)] : List (Int × Bool))).length) c184) ([(v26_1, y157.2)] : List (Int × Bool)), .box g3 68 [.slice (some ad32) list_0.length clist_0], .ro (.sl (.pr (.pr (.int .i64) (.pr (.int .i64) (.int .i64))) (.pr (.pr (.int .i64) (.pr (.int .i64) (.int .i64))) (.pr (.int .i64) (.int .i64))))) [.slice (some ad32) list_0.length clist_0] list_0, .own 73 .raw (.slice (some ad171) (((List.replicate (list_0.length : Int).toNat (Value.slice none 0 0))).length) c10) (hsqf14_1.set v19_0.toNat (Value.slice A191 ((x169 ++ ([(v26_1, y157.2)] : List (Int × Bool))).length) c192)), .box g64 105 [.int .i64 x30.1.1, .int .i64 x30.1.2.1, .int .i64 x30.1.2.2, .int .i64 x30.2.1.1, .int .i64 x30.2.1.2.1, .int .i64 x30.2.1.2.2, .int .i64 x30.2.2.1, .int .i64 x30.2.2.2], .box g116 105 [.int .i64 x82.1.1, .int .i64 x82.1.2.1, .int .i64 x82.1.2.2, .int .i64 x82.2.1.1, .int .i64 x82.2.1.2.1, .int .i64 x82.2.1.2.2, .int .i64 x82.2.2.1, .int .i64 x82.2.2.2]] ++ (rowsF 107 (.pr (.int .i64) .bool) (hsqf14_1.set v19_0.toNat (Value.slice A191 ((x169 ++ ([(v26_1, y157.2)] : List (Int × Bool))).length) c192)) (qf14_1.set v19_0.toNat (x169 ++ ([(v26_1, y157.2)] : List (Int × Bool)))) ++ ([] : List Fact))) := hC
 refine ln ?_
 refine hK80 _ _ ?_
 refine rg ?_
 obtain ⟨z206, h207, hb⟩ := bd hb
 refine lp (.int .i64 z206) (pu_addc (a := v26_1) (b := 1) e26 rfl h207) ?_
 refine lp (.int .i64 z206) (pu_move rfl) ?_
 refine ln ?_
 obtain rfl := os hb
 exact hK72 m73' _ _ (Nat.lt_succ_self _) ⟨z206, (qf14_1.set v19_0.toNat (x169 ++ ([(v26_1, y157.2)] : List (Int × Bool)))), (hsqf14_1.set v19_0.toNat (Value.slice A191 ((x169 ++ ([(v26_1, y157.2)] : List (Int × Bool))).length) c192)), e1, e2, e3, e4, e5, e6, e17, e18, e19, e20, e24, e25, rfl, (chk_rng h207), hN205, hC.selT [1, 2, 3, 4] (by decide), lN hl1⟩
 replace hb := tf hq168 hb
 refine Wc.skip ?_
 refine hK80 _ _ ?_
 refine rg ?_
 obtain ⟨z208, h209, hb⟩ := bd hb
 refine lp (.int .i64 z208) (pu_addc (a := v26_1) (b := 1) e26 rfl h209) ?_
 refine lp (.int .i64 z208) (pu_move rfl) ?_
 refine ln ?_
 obtain rfl := os hb
 exact hK72 m73' _ _ (Nat.lt_succ_self _) ⟨z208, qf14_1, hsqf14_1, e1, e2, e3, e4, e5, e6, e17, e18, e19, e20, e24, e25, rfl, (chk_rng h209), hNqf14_1, hC.selT [0, 1, 2, 3] (by decide), lN hl1⟩
 replace hb := tf hq79 hb
 refine Wc.exit rfl ?_
 obtain rfl := os hb
 obtain rfl := (lX hl1).symm
 exact hK71 _ _ ⟨v26_1, qf14_1, hsqf14_1, e1, e2, e3, e4, e5, e6, e17, e18, e19, e20, e24, e25, e26, hrv26_1, hNqf14_1, hC.selT [0, 1, 2, 3] (by decide), hbK1⟩
 clear hb hC hl1
 rintro E211 w210 ⟨v26_1, qf14_1, hsqf14_1, e1, e2, e3, e4, e5, e6, e17, e18, e19, e20, e24, e25, e26, hrv26_1, hNqf14_1, hC, hb⟩
 refine hK68 _ _ ?_
 refine Wc.seq fun K212 hK212 => ?_
 refine rg ?_
 replace hC : Cx (fun _ => False) O0 w w210 ([.box g3 68 [.slice (some ad32) list_0.length clist_0], .ro (.sl (.pr (.pr (.int .i64) (.pr (.int .i64) (.int .i64))) (.pr (.pr (.int .i64) (.pr (.int .i64) (.int .i64))) (.pr (.int .i64) (.int .i64))))) [.slice (some ad32) list_0.length clist_0] list_0, .own 73 .raw (.slice A9 (((List.replicate (list_0.length : Int).toNat (Value.slice none 0 0))).length) c10) hsqf14_1, .box g64 105 [.int .i64 x30.1.1, .int .i64 x30.1.2.1, .int .i64 x30.1.2.2, .int .i64 x30.2.1.1, .int .i64 x30.2.1.2.1, .int .i64 x30.2.1.2.2, .int .i64 x30.2.2.1, .int .i64 x30.2.2.2]] ++ (rowsF 107 (.pr (.int .i64) .bool) hsqf14_1 qf14_1 ++ ([] : List Fact))) := hC
 refine lp (.func (.func 80) #[] #[.pointer (some ⟨g3, 0, none⟩), .pointer (some ⟨g64, 0, none⟩)]) (pu_funcc (map_of (m2_cons e1 (m2_cons e6 m2_nil)))) ?_
 refine lex.op (hC.alloc (cs := [.nilFunc]) Try.zeroValue108 rfl) ?_
 rintro _ w214 ⟨g213, rfl, hC, hF, hG⟩
 clear hG
 replace hC : Cx (fun _ => False) O0 w w214 ([.box g213 108 [.nilFunc], .box g3 68 [.slice (some ad32) list_0.length clist_0], .ro (.sl (.pr (.pr (.int .i64) (.pr (.int .i64) (.int .i64))) (.pr (.pr (.int .i64) (.pr (.int .i64) (.int .i64))) (.pr (.int .i64) (.int .i64))))) [.slice (some ad32) list_0.length clist_0] list_0, .own 73 .raw (.slice A9 (((List.replicate (list_0.length : Int).toNat (Value.slice none 0 0))).length) c10) hsqf14_1, .box g64 105 [.int .i64 x30.1.1, .int .i64 x30.1.2.1, .int .i64 x30.1.2.2, .int .i64 x30.2.1.1, .int .i64 x30.2.1.2.1, .int .i64 x30.2.1.2.2, .int .i64 x30.2.2.1, .int .i64 x30.2.2.2]] ++ (rowsF 107 (.pr (.int .i64) .bool) hsqf14_1 qf14_1 ++ ([] : List Fact))) := hC
 refine lex.sk (hC.setf (i := 0) (k := 0) (v := .func (.func 80) #[] #[.pointer (some ⟨g3, 0, none⟩), .pointer (some ⟨g64, 0, none⟩)]) rfl Try.sizeOf108 rfl (by rw [Addr.add_zero']; exact rfl) rfl rfl) ?_
 rintro w216 ⟨hC, hF⟩
 refine ln ?_
 refine hK212 _ _ ?_
 refine Wc.seq fun K217 hK217 => ?_
 refine rg ?_
 replace hC : Cx (fun _ => False) O0 w w216 ([.box g213 108 [.func (.func 80) #[] #[.pointer (some ⟨g3, 0, none⟩), .pointer (some ⟨g64, 0, none⟩)]], .box g3 68 [.slice (some ad32) list_0.length clist_0], .ro (.sl (.pr (.pr (.int .i64) (.pr (.int .i64) (.int .i64))) (.pr (.pr (.int .i64) (.pr (.int .i64) (.int .i64))) (.pr (.int .i64) (.int .i64))))) [.slice (some ad32) list_0.length clist_0] list_0, .own 73 .raw (.slice A9 (((List.replicate (list_0.length : Int).toNat (Value.slice none 0 0))).length) c10) hsqf14_1, .box g64 105 [.int .i64 x30.1.1, .int .i64 x30.1.2.1, .int .i64 x30.1.2.2, .int .i64 x30.2.1.1, .int .i64 x30.2.1.2.1, .int .i64 x30.2.1.2.2, .int .i64 x30.2.2.1, .int .i64 x30.2.2.2]] ++ (rowsF 107 (.pr (.int .i64) .bool) hsqf14_1 qf14_1 ++ ([] : List Fact))) := hC
 refine lp (.func (.func 81) #[] #[.pointer (some ⟨g213, 0, none⟩)]) (pu_funcc rfl) ?_
 refine lp (.func (.func 81) #[] #[.pointer (some ⟨g213, 0, none⟩)]) (pu_assign rfl) ?_
 refine ln ?_
 refine hK217 _ _ ?_
 refine Wc.seq fun K218 hK218 => ?_
 refine rg ?_
 refine lp (.slice A9 (((List.replicate (list_0.length : Int).toNat (Value.slice none 0 0))).length) c10) (pu_move e4) ?_
 refine lp (.int .i64 v19_0) (pu_move e5) ?_
 obtain ⟨x219, h220, hb⟩ := bd hb
 obtain ⟨v225, hv226, -⟩ := rowsF_get (e := 107) (s := (.pr (.int .i64) .bool)) hNqf14_1 (get_some h220).2
 obtain ⟨ad221, cs222, hA, hc223, hr224⟩ := hC.elo (i := 3) rfl hv226
 subst hA
 refine lp (.pointer (some (ad221.add (v19_0.toNat * 1)))) (pu_index (a := v19_0) Try.underlying70 Try.sizeOf73 rfl rfl (by rw [(hC.ow (i := 3) rfl).sl_len.1, hNqf14_1]; exact (get_some h220).1)) ?_
 replace hC : Cx (fun _ => False) O0 w w216 ([.box g213 108 [.func (.func 80) #[] #[.pointer (some ⟨g3, 0, none⟩), .pointer (some ⟨g64, 0, none⟩)]], .box g3 68 [.slice (some ad32) list_0.length clist_0], .ro (.sl (.pr (.pr (.int .i64) (.pr (.int .i64) (.int .i64))) (.pr (.pr (.int .i64) (.pr (.int .i64) (.int .i64))) (.pr (.int .i64) (.int .i64))))) [.slice (some ad32) list_0.length clist_0] list_0, .own 73 .raw (.slice (some ad221) (((List.replicate (list_0.length : Int).toNat (Value.slice none 0 0))).length) c10) hsqf14_1, .box g64 105 [.int .i64 x30.1.1, .int .i64 x30.1.2.1, .int .i64 x30.1.2.2, .int .i64 x30.2.1.1, .int .i64 x30.2.1.2.1, .int .i64 x30.2.1.2.2, .int .i64 x30.2.2.1, .int .i64 x30.2.2.2]] ++ (rowsF 107 (.pr (.int .i64) .bool) hsqf14_1 qf14_1 ++ ([] : List Fact))) := hC
 replace hC := Cx.takeRow hC hv226 (get_some h220).2
 obtain ⟨A227, c228, hvf231, hl229, hc230⟩ := (hC.ow (i := 0) rfl).form
 subst hvf231
 obtain ⟨rfl, -⟩ := hr224
 replace hC : Cx (fun _ => False) O0 w w216 ([.own 107 (.pr (.int .i64) .bool) (.slice A227 x219.length c228) x219, .box g213 108 [.func (.func 80) #[] #[.pointer (some ⟨g3, 0, none⟩), .pointer (some ⟨g64, 0, none⟩)]], .box g3 68 [.slice (some ad32) list_0.length clist_0], .ro (.sl (.pr (.pr (.int .i64) (.pr (.int .i64) (.int .i64))) (.pr (.pr (.int .i64) (.pr (.int .i64) (.int .i64))) (.pr (.int .i64) (.int .i64))))) [.slice (some ad32) list_0.length clist_0] list_0, .own 73 .raw (.slice (some ad221) (((List.replicate (list_0.length : Int).toNat (Value.slice none 0 0))).length) c10) hsqf14_1, .box g64 105 [.int .i64 x30.1.1, .int .i64 x30.1.2.1, .int .i64 x30.1.2.2, .int .i64 x30.2.1.1, .int .i64 x30.2.1.2.1, .int .i64 x30.2.1.2.2, .int .i64 x30.2.2.1, .int .i64 x30.2.2.2]] ++ ((rowsF 107 (.pr (.int .i64) .bool) hsqf14_1 qf14_1).eraseIdx v19_0.toNat ++ ([] : List Fact))) := hC
 refine lv (.slice A227 x219.length c228) (ld_one Try.isAgg73 rfl (hc223 0 _ rfl)) ?_
 refine lp (.func (.func 81) #[] #[.pointer (some ⟨g213, 0, none⟩)]) (pu_move rfl) ?_
 replace hC := hC.selT [0, 1, 2, 5, 3, 4] (by decide)
 replace hC : Cx (fun _ => False) O0 w w216 ([.own 107 (.pr (.int .i64) .bool) (.slice A227 x219.length c228) x219, .box g213 108 [.func (.func 80) #[] #[.pointer (some ⟨g3, 0, none⟩), .pointer (some ⟨g64, 0, none⟩)]], .box g3 68 [.slice (some ad32) list_0.length clist_0], .box g64 105 [.int .i64 x30.1.1, .int .i64 x30.1.2.1, .int .i64 x30.1.2.2, .int .i64 x30.2.1.1, .int .i64 x30.2.1.2.1, .int .i64 x30.2.1.2.2, .int .i64 x30.2.2.1, .int .i64 x30.2.2.2]] ++ ([.ro (.sl (.pr (.pr (.int .i64) (.pr (.int .i64) (.int .i64))) (.pr (.pr (.int .i64) (.pr (.int .i64) (.int .i64))) (.pr (.int .i64) (.int .i64))))) [.slice (some ad32) list_0.length clist_0] list_0, .own 73 .raw (.slice (some ad221) (((List.replicate (list_0.length : Int).toNat (Value.slice none 0 0))).length) c10) hsqf14_1] ++ ((rowsF 107 (.pr (.int .i64) .bool) hsqf14_1 qf14_1).eraseIdx v19_0.toNat ++ ([] : List Fact)))) := hC
 obtain ⟨y233, h234, hb⟩ := bd hb
 refine lex.cl (⟨_, _, op_call (vs := [.slice A227 x219.length c228, .func (.func 81) #[] #[.pointer (some ⟨g213, 0, none⟩)]]) Try.call82 rfl rfl rfl, slices_SortFunc_passage_passage_polygon_cross_c2_ok n hC.lt (hC.rd (i := 4) rfl) (wrap_I64 hr42) (wrap_I64 hr46) (wrap_I64 hr47) (wrap_I64 hr54) (wrap_I64 hr58) (wrap_I64 hr59) (wrap_I64 hr62) (wrap_I64 hr63) hC.give h234⟩) ?_
 rintro _ w235 ⟨rfl, hK⟩
 replace hC := hC.back hK
 clear hK
 refine ln ?_
 refine hK218 _ _ ?_
 refine Wc.fresh fun E236 hE => ?_
 have e1 := (congrFun hE 1).trans e1
 have e2 := (congrFun hE 2).trans e2
 have e3 := (congrFun hE 3).trans e3
 have e4 := (congrFun hE 4).trans e4
 have e5 := (congrFun hE 5).trans e5
 have e6 := (congrFun hE 6).trans e6
 have e11 : E236 11 = .pointer (some ⟨g213, 0, none⟩) := (congrFun hE 11).trans rfl
 have e12 : E236 12 = .func (.func 81) #[] #[.pointer (some ⟨g213, 0, none⟩)] := (congrFun hE 12).trans rfl
 have e17 := (congrFun hE 17).trans e17
 have e18 := (congrFun hE 18).trans e18
 have e19 := (congrFun hE 19).trans e19
 have e20 := (congrFun hE 20).trans e20
 have e24 := (congrFun hE 24).trans e24
 have e25 := (congrFun hE 25).trans e25
 have e26 := (congrFun hE 26).trans e26
 clear hE
 refine Wc.seq fun K237 hK237 => ?_
 refine rg ?_
 replace hC : Cx (fun _ => False) O0 w w235 ([.own 107 (.pr (.int .i64) .bool) (.slice A227 x219.length c228) y233, .box g213 108 [.func (.func 80) #[] #[.pointer (some ⟨g3, 0, none⟩), .pointer (some ⟨g64, 0, none⟩)]], .box g3 68 [.slice (some ad32) list_0.length clist_0], .box g64 105 [.int .i64 x30.1.1, .int .i64 x30.1.2.1, .int .i64 x30.1.2.2, .int .i64 x30.2.1.1, .int .i64 x30.2.1.2.1, .int .i64 x30.2.1.2.2, .int .i64 x30.2.2.1, .int .i64 x30.2.2.2], .ro (.sl (.pr (.pr (.int .i64) (.pr (.int .i64) (.int .i64))) (.pr (.pr (.int .i64) (.pr (.int .i64) (.int .i64))) (.pr (.int .i64) (.int .i64))))) [.slice (some ad32) list_0.length clist_0] list_0, .own 73 .raw (.slice (some ad221) (((List.replicate (list_0.length : Int).toNat (Value.slice none 0 0))).length) c10) hsqf14_1] ++ ((rowsF 107 (.pr (.int .i64) .bool) hsqf14_1 qf14_1).eraseIdx v19_0.toNat ++ ([] : List Fact))) := hC
 refine lp (.int .i64 1) (pu_assign rfl) ?_
 refine ln ?_
 refine hK237 _ _ ?_
 replace hC := hC.selT [0, 1, 2, 3, 4, 5] (by decide)
 replace hC := Cx.putSame hC hNqf14_1 (List.getElem?_eq_some_iff.1 (get_some h220).2).1 hv226
 have hN238 : hsqf14_1.length = (qf14_1.set v19_0.toNat y233).length := by rw [List.length_set]; exact hNqf14_1
 replace hC : Cx (fun _ => False) O0 w w235 ([.box g213 108 [.func (.func 80) #[] #[.pointer (some ⟨g3, 0, none⟩), .pointer (some ⟨g64, 0, none⟩)]], .box g3 68 [.slice (some ad32) list_0.length clist_0], .box g64 105 [.int .i64 x30.1.1, .int .i64 x30.1.2.1, .int .i64 x30.1.2.2, .int .i64 x30.2.1.1, .int .i64 x30.2.1.2.1, .int .i64 x30.2.1.2.2, .int .i64 x30.2.2.1, .int .i64 x30.2.2.2], .ro (.sl (.pr (.pr (.int .i64) (.pr (.int .i64) (.int .i64))) (.pr (.pr (.int .i64) (.pr (.int .i64) (.int .i64))) (.pr (.int .i64) (.int .i64))))) [.slice (some ad32) list_0.length clist_0] list_0, .own 73 .raw (.slice (some ad221) (((List.replicate (list_0.length : Int).toNat (Value.slice none 0 0))).length) c10) hsqf14_1] ++ (rowsF 107 (.pr (.int .i64) .bool) hsqf14_1 (qf14_1.set v19_0.toNat y233) ++ ([] : List Fact))) := hC
 obtain ⟨o239, hl4, hb⟩ := bd hb
 refine Wc.cut (fun E wv => ∃ (v13_4 : Int), E 1 = .pointer (some ⟨g3, 0, none⟩) ∧ E 2 = .slice none 0 0 ∧ E 3 = .bool false ∧ E 4 = .slice (some ad221) (((List.replicate (list_0.length : Int).toNat (Value.slice none 0 0))).length) c10 ∧ E 5 = .int .i64 v19_0 ∧ E 6 = .pointer (some ⟨g64, 0, none⟩) ∧ E 11 = .pointer (some ⟨g213, 0, none⟩) ∧ E 12 = .func (.func 81) #[] #[.pointer (some ⟨g213, 0, none⟩)] ∧ E 13 = .int .i64 v13_4 ∧ E 17 = .slice (some ad32) list_0.length clist_0 ∧ E 18 = .int .i64 (list_0.length : Int) ∧ E 19 = .int .i64 v19_0 ∧ E 20 = .bool (decide (v19_0 < (list_0.length : Int))) ∧ E 24 = .slice (some ad32) list_0.length clist_0 ∧ E 25 = .int .i64 (list_0.length : Int) ∧ E 26 = .int .i64 v26_1 ∧ I64 v13_4 ∧ Cx (fun _ => False) O0 w wv ([.box g3 68 [.slice (some ad32) list_0.length clist_0], .ro (.sl (.pr (.pr (.int .i64) (.pr (.int .i64) (.int .i64))) (.pr (.pr (.int .i64) (.pr (.int .i64) (.int .i64))) (.pr (.int .i64) (.int .i64))))) [.slice (some ad32) list_0.length clist_0] list_0, .own 73 .raw (.slice (some ad221) (((List.replicate (list_0.length : Int).toNat (Value.slice none 0 0))).length) c10) hsqf14_1, .box g64 105 [.int .i64 x30.1.1, .int .i64 x30.1.2.1, .int .i64 x30.1.2.2, .int .i64 x30.2.1.1, .int .i64 x30.2.1.2.1, .int .i64 x30.2.1.2.2, .int .i64 x30.2.2.1, .int .i64 x30.2.2.2], .box g213 108 [.func (.func 80) #[] #[.pointer (some ⟨g3, 0, none⟩), .pointer (some ⟨g64, 0, none⟩)]]] ++ (rowsF 107 (.pr (.int .i64) .bool) hsqf14_1 (qf14_1.set v19_0.toNat y233) ++ ([] : List Fact))) ∧ ((chk (v19_0 + 1)).bind fun z322 => some (.inl (z322, (qf14_1.set v19_0.toNat y233))) : Option ((Int × (List (List (Int × Bool)))) ⊕ ((Int × (List (List (Int × Bool)))) ⊕ ((List (List (Int × Bool))) × Bool)))) = some o24) (fun K240 hK240 => ?_) ?_
 refine Wc.block ?_
 refine Wc.loop (fun m E wv => ∃ (v13_4 : Int), E 1 = .pointer (some ⟨g3, 0, none⟩) ∧ E 2 = .slice none 0 0 ∧ E 3 = .bool false ∧ E 4 = .slice (some ad221) (((List.replicate (list_0.length : Int).toNat (Value.slice none 0 0))).length) c10 ∧ E 5 = .int .i64 v19_0 ∧ E 6 = .pointer (some ⟨g64, 0, none⟩) ∧ E 11 = .pointer (some ⟨g213, 0, none⟩) ∧ E 12 = .func (.func 81) #[] #[.pointer (some ⟨g213, 0, none⟩)] ∧ E 13 = .int .i64 v13_4 ∧ E 17 = .slice (some ad32) list_0.length clist_0 ∧ E 18 = .int .i64 (list_0.length : Int) ∧ E 19 = .int .i64 v19_0 ∧ E 20 = .bool (decide (v19_0 < (list_0.length : Int))) ∧ E 24 = .slice (some ad32) list_0.length clist_0 ∧ E 25 = .int .i64 (list_0.length : Int) ∧ E 26 = .int .i64 v26_1 ∧ I64 v13_4 ∧ Cx (fun _ => False) O0 w wv ([.box g3 68 [.slice (some ad32) list_0.length clist_0], .ro (.sl (.pr (.pr (.int .i64) (.pr (.int .i64) (.int .i64))) (.pr (.pr (.int .i64) (.pr (.int .i64) (.int .i64))) (.pr (.int .i64) (.int .i64))))) [.slice (some ad32) list_0.length clist_0] list_0, .own 73 .raw (.slice (some ad221) (((List.replicate (list_0.length : Int).toNat (Value.slice none 0 0))).length) c10) hsqf14_1, .box g64 105 [.int .i64 x30.1.1, .int .i64 x30.1.2.1, .int .i64 x30.1.2.2, .int .i64 x30.2.1.1, .int .i64 x30.2.1.2.1, .int .i64 x30.2.1.2.2, .int .i64 x30.2.2.1, .int .i64 x30.2.2.2], .box g213 108 [.func (.func 80) #[] #[.pointer (some ⟨g3, 0, none⟩), .pointer (some ⟨g64, 0, none⟩)]]] ++ (rowsF 107 (.pr (.int .i64) .bool) hsqf14_1 (qf14_1.set v19_0.toNat y233) ++ ([] : List Fact))) ∧ loopN m (F.polygon_cross_b4 n list_0 v19_0 x30 qf14_1 y233) v13_4 = some o239) n ⟨1, e1, e2, e3, e4, e5, e6, e11, e12, rfl, e17, e18, e19, e20, e24, e25, e26, (show I64 1 from by unfold I64; omega), hC.selT [1, 3, 4, 2, 0] (by decide), hl4⟩ ?_
 have hbK4 := hb
 clear hb hC hl4
 rintro m242 E244 w243 ⟨v13_4, e1, e2, e3, e4, e5, e6, e11, e12, e13, e17, e18, e19, e20, e24, e25, e26, hrv13_4, hC, hl4⟩ K241 hK241
 obtain ⟨m242', o245, rfl, hb, hl4⟩ := loopN_some hl4
 unfold F.polygon_cross_b4 at hb
 refine Wc.seq fun K246 hK246 => ?_
 refine Wc.seq fun K247 hK247 => ?_
 refine rg ?_
 replace hC : Cx (fun _ => False) O0 w w243 ([.box g3 68 [.slice (some ad32) list_0.length clist_0], .ro (.sl (.pr (.pr (.int .i64) (.pr (.int .i64) (.int .i64))) (.pr (.pr (.int .i64) (.pr (.int .i64) (.int .i64))) (.pr (.int .i64) (.int .i64))))) [.slice (some ad32) list_0.length clist_0] list_0, .own 73 .raw (.slice (some ad221) (((List.replicate (list_0.length : Int).toNat (Value.slice none 0 0))).length) c10) hsqf14_1, .box g64 105 [.int .i64 x30.1.1, .int .i64 x30.1.2.1, .int .i64 x30.1.2.2, .int .i64 x30.2.1.1, .int .i64 x30.2.1.2.1, .int .i64 x30.2.1.2.2, .int .i64 x30.2.2.1, .int .i64 x30.2.2.2], .box g213 108 [.func (.func 80) #[] #[.pointer (some ⟨g3, 0, none⟩), .pointer (some ⟨g64, 0, none⟩)]]] ++ (rowsF 107 (.pr (.int .i64) .bool) hsqf14_1 (qf14_1.set v19_0.toNat y233) ++ ([] : List Fact))) := hC
 refine lp (.int .i64 v13_4) (pu_move e13) ?_
 refine lp (.slice (some ad221) (((List.replicate (list_0.length : Int).toNat (Value.slice none 0 0))).length) c10) (pu_move e4) ?_
 refine lp (.int .i64 v19_0) (pu_move e5) ?_
 obtain ⟨x248, h249, hb⟩ := bd hb
 obtain ⟨v254, hv255, -⟩ := rowsF_get (e := 107) (s := (.pr (.int .i64) .bool)) hN238 (get_some h249).2
 obtain ⟨ad250, cs251, hA, hc252, hr253⟩ := hC.elo (i := 2) rfl hv255
 obtain rfl := Option.some.inj hA
 refine lp (.pointer (some (ad221.add (v19_0.toNat * 1)))) (pu_index (a := v19_0) Try.underlying70 Try.sizeOf73 rfl rfl (by rw [(hC.ow (i := 2) rfl).sl_len.1, hN238]; exact (get_some h249).1)) ?_
 replace hC := Cx.takeRow hC hv255 (get_some h249).2
 obtain ⟨A256, c257, hvf260, hl258, hc259⟩ := (hC.ow (i := 0) rfl).form
 subst hvf260
 obtain ⟨rfl, -⟩ := hr253
 replace hC : Cx (fun _ => False) O0 w w243 ([.own 107 (.pr (.int .i64) .bool) (.slice A256 x248.length c257) x248, .box g3 68 [.slice (some ad32) list_0.length clist_0], .ro (.sl (.pr (.pr (.int .i64) (.pr (.int .i64) (.int .i64))) (.pr (.pr (.int .i64) (.pr (.int .i64) (.int .i64))) (.pr (.int .i64) (.int .i64))))) [.slice (some ad32) list_0.length clist_0] list_0, .own 73 .raw (.slice (some ad221) (((List.replicate (list_0.length : Int).toNat (Value.slice none 0 0))).length) c10) hsqf14_1, .box g64 105 [.int .i64 x30.1.1, .int .i64 x30.1.2.1, .int .i64 x30.1.2.2, .int .i64 x30.2.1.1, .int .i64 x30.2.1.2.1, .int .i64 x30.2.1.2.2, .int .i64 x30.2.2.1, .int .i64 x30.2.2.2], .box g213 108 [.func (.func 80) #[] #[.pointer (some ⟨g3, 0, none⟩), .pointer (some ⟨g64, 0, none⟩)]]] ++ ((rowsF 107 (.pr (.int .i64) .bool) hsqf14_1 (qf14_1.set v19_0.toNat y233)).eraseIdx v19_0.toNat ++ ([] : List Fact))) := hC
 refine lv (.slice A256 x248.length c257) (ld_one Try.isAgg73 rfl (hc252 0 _ rfl)) ?_
 refine lp (.int .i64 (x248.length : Int)) (pu_len (A := A256) (n := x248.length) (m := c257) Try.underlying73 rfl) ?_
 refine lp (.bool (decide (v13_4 < (x248.length : Int)))) (pu_lss (k := .i64) (a := v13_4) (b := (x248.length : Int)) rfl rfl) ?_
 refine ln ?_
 refine hK247 _ _ ?_
 refine Wc.cond (t := (decide (v13_4 < (x248.length : Int)))) (rfl) (fun hq262 => ?_) (fun hq262 => ?_)
 replace hb := tt hq262 hb
 refine Wc.skip ?_
 refine hK246 _ _ ?_
 refine Wc.seq fun K263 hK263 => ?_
 refine Wc.block ?_
 refine Wc.seq fun K264 hK264 => ?_
 refine Wc.regionMix [] (frm [] [.box g213 108 [.func (.func 80) #[] #[.pointer (some ⟨g3, 0, none⟩), .pointer (some ⟨g64, 0, none⟩)]], .box g3 68 [.slice (some ad32) list_0.length clist_0], .box g64 105 [.int .i64 x30.1.1, .int .i64 x30.1.2.1, .int .i64 x30.1.2.2, .int .i64 x30.2.1.1, .int .i64 x30.2.1.2.1, .int .i64 x30.2.1.2.2, .int .i64 x30.2.2.1, .int .i64 x30.2.2.2]] ([] : List Fact)) (fun _ => rfl) mixed (by decide +kernel) (by decide +kernel) fun w266 hw265 => ?_
 replace hC := hC.step (Fr.of_drew hw265)
 have hM := Fr.refl (fun k => k ∈ blocks [.box g213 108 [.func (.func 80) #[] #[.pointer (some ⟨g3, 0, none⟩), .pointer (some ⟨g64, 0, none⟩)]], .box g3 68 [.slice (some ad32) list_0.length clist_0], .box g64 105 [.int .i64 x30.1.1, .int .i64 x30.1.2.1, .int .i64 x30.1.2.2, .int .i64 x30.2.1.1, .int .i64 x30.2.1.2.1, .int .i64 x30.2.1.2.2, .int .i64 x30.2.2.1, .int .i64 x30.2.2.2]]) w266
 clear hw265
 have hS := hC
 have hBf215 : ∀ g, g < w266.heap.size → some g213 = some g → g ∈ blocks [.box g213 108 [.func (.func 80) #[] #[.pointer (some ⟨g3, 0, none⟩), .pointer (some ⟨g64, 0, none⟩)]], .box g3 68 [.slice (some ad32) list_0.length clist_0], .box g64 105 [.int .i64 x30.1.1, .int .i64 x30.1.2.1, .int .i64 x30.1.2.2, .int .i64 x30.2.1.1, .int .i64 x30.2.1.2.1, .int .i64 x30.2.1.2.2, .int .i64 x30.2.2.1, .int .i64 x30.2.2.2]] := fun g _ hg => Option.some.inj hg ▸ box_in (i := 0) rfl
 have hBf5 : ∀ g, g < w266.heap.size → some g3 = some g → g ∈ blocks [.box g213 108 [.func (.func 80) #[] #[.pointer (some ⟨g3, 0, none⟩), .pointer (some ⟨g64, 0, none⟩)]], .box g3 68 [.slice (some ad32) list_0.length clist_0], .box g64 105 [.int .i64 x30.1.1, .int .i64 x30.1.2.1, .int .i64 x30.1.2.2, .int .i64 x30.2.1.1, .int .i64 x30.2.1.2.1, .int .i64 x30.2.1.2.2, .int .i64 x30.2.2.1, .int .i64 x30.2.2.2]] := fun g _ hg => Option.some.inj hg ▸ box_in (i := 1) rfl
 have hBf66 : ∀ g, g < w266.heap.size → some g64 = some g → g ∈ blocks [.box g213 108 [.func (.func 80) #[] #[.pointer (some ⟨g3, 0, none⟩), .pointer (some ⟨g64, 0, none⟩)]], .box g3 68 [.slice (some ad32) list_0.length clist_0], .box g64 105 [.int .i64 x30.1.1, .int .i64 x30.1.2.1, .int .i64 x30.1.2.2, .int .i64 x30.2.1.1, .int .i64 x30.2.1.2.1, .int .i64 x30.2.1.2.2, .int .i64 x30.2.2.1, .int .i64 x30.2.2.2]] := fun g _ hg => Option.some.inj hg ▸ box_in (i := 2) rfl
 replace hC : Cx (fun _ => False) O0 w w266 ([.own 107 (.pr (.int .i64) .bool) (.slice A256 x248.length c257) x248, .box g3 68 [.slice (some ad32) list_0.length clist_0], .ro (.sl (.pr (.pr (.int .i64) (.pr (.int .i64) (.int .i64))) (.pr (.pr (.int .i64) (.pr (.int .i64) (.int .i64))) (.pr (.int .i64) (.int .i64))))) [.slice (some ad32) list_0.length clist_0] list_0, .own 73 .raw (.slice (some ad221) (((List.replicate (list_0.length : Int).toNat (Value.slice none 0 0))).length) c10) hsqf14_1, .box g64 105 [.int .i64 x30.1.1, .int .i64 x30.1.2.1, .int .i64 x30.1.2.2, .int .i64 x30.2.1.1, .int .i64 x30.2.1.2.1, .int .i64 x30.2.1.2.2, .int .i64 x30.2.2.1, .int .i64 x30.2.2.2], .box g213 108 [.func (.func 80) #[] #[.pointer (some ⟨g3, 0, none⟩), .pointer (some ⟨g64, 0, none⟩)]]] ++ ((rowsF 107 (.pr (.int .i64) .bool) hsqf14_1 (qf14_1.set v19_0.toNat y233)).eraseIdx v19_0.toNat ++ ([] : List Fact))) := hC
 refine mp (.func (.func 81) #[] #[.pointer (some ⟨g213, 0, none⟩)]) (pu_move e12) ?_
 refine mp (.slice (some ad221) (((List.replicate (list_0.length : Int).toNat (Value.slice none 0 0))).length) c10) (pu_move e4) ?_
 refine mp (.int .i64 v19_0) (pu_move e5) ?_
 obtain ⟨x267, h268, hb⟩ := bd hb
 obtain ⟨v273, hv274, -⟩ := rowsF_get (e := 107) (s := (.pr (.int .i64) .bool)) hN238 (get_some h268).2
 obtain ⟨ad269, cs270, hA, ho275, hc271, hr272⟩ := hS.elo2 (i := 3) rfl hv274 [5, 1, 4] (by decide)
 obtain rfl := Option.some.inj hA
 refine mp (.pointer (some (ad221.add (v19_0.toNat * 1)))) (pu_index (a := v19_0) Try.underlying70 Try.sizeOf73 rfl rfl (by rw [(hC.ow (i := 3) rfl).sl_len.1, hN238]; exact (get_some h268).1)) ?_
 obtain rfl := Option.some.inj (hv274.symm.trans hv255)
 obtain ⟨rfl, -⟩ := hr272
 refine mixE.load hM (v := .slice A256 x248.length c257) (fun _ hF => ld_one Try.isAgg73 rfl (hF.cell (hc271 0 _ rfl) (off1 ho275))) ?_
 refine mp (.int .i64 v13_4) (pu_move e13) ?_
 obtain ⟨z276, h277, hb⟩ := bd hb
 refine mp (.int .i64 z276) (pu_subc (a := v13_4) (b := 1) rfl rfl h277) ?_
 obtain ⟨x278, h279, hb⟩ := bd hb
 obtain ⟨ad280, cs281, hA, ho284, hc282, hr283⟩ := hS.elo2 (i := 0) rfl (get_some h279).2 [5, 1, 4] (by decide)
 subst hA
 refine mp (.pointer (some (ad280.add (z276.toNat * 2)))) (pu_index (a := z276) Try.underlying73 Try.sizeOf107 rfl rfl (get_some h279).1) ?_
 replace hC : Cx (fun _ => False) O0 w w266 ([.own 107 (.pr (.int .i64) .bool) (.slice (some ad280) x248.length c257) x248, .box g3 68 [.slice (some ad32) list_0.length clist_0], .ro (.sl (.pr (.pr (.int .i64) (.pr (.int .i64) (.int .i64))) (.pr (.pr (.int .i64) (.pr (.int .i64) (.int .i64))) (.pr (.int .i64) (.int .i64))))) [.slice (some ad32) list_0.length clist_0] list_0, .own 73 .raw (.slice (some ad221) (((List.replicate (list_0.length : Int).toNat (Value.slice none 0 0))).length) c10) hsqf14_1, .box g64 105 [.int .i64 x30.1.1, .int .i64 x30.1.2.1, .int .i64 x30.1.2.2, .int .i64 x30.2.1.1, .int .i64 x30.2.1.2.1, .int .i64 x30.2.1.2.2, .int .i64 x30.2.2.1, .int .i64 x30.2.2.2], .box g213 108 [.func (.func 80) #[] #[.pointer (some ⟨g3, 0, none⟩), .pointer (some ⟨g64, 0, none⟩)]]] ++ ((rowsF 107 (.pr (.int .i64) .bool) hsqf14_1 (qf14_1.set v19_0.toNat y233)).eraseIdx v19_0.toNat ++ ([] : List Fact))) := hC
 obtain ⟨k285, k286, rfl, hr287, hr288⟩ := hr283
 obtain ⟨rfl, hr287⟩ := hr287
 obtain rfl := (show _ = _ from hr288)
 refine mixE.load hM (v := .agg #[.int .i64 x278.1, .bool x278.2]) (fun _ hF => ld_agg Try.isAgg107 Try.sizeOf107 rfl rfl (fun j u hu => hF.cell (hc282 j u hu) (off2 ho284))) ?_
 refine mp (.slice (some ad221) (((List.replicate (list_0.length : Int).toNat (Value.slice none 0 0))).length) c10) (pu_move e4) ?_
 refine mp (.int .i64 v19_0) (pu_move e5) ?_
 obtain ⟨x289, h290, hb⟩ := bd hb
 obtain ⟨v295, hv296, -⟩ := rowsF_get (e := 107) (s := (.pr (.int .i64) .bool)) hN238 (get_some h290).2
 obtain ⟨ad291, cs292, hA, ho297, hc293, hr294⟩ := hS.elo2 (i := 3) rfl hv296 [5, 1, 4] (by decide)
 obtain rfl := Option.some.inj hA
 refine mp (.pointer (some (ad221.add (v19_0.toNat * 1)))) (pu_index (a := v19_0) Try.underlying70 Try.sizeOf73 rfl rfl (by rw [(hC.ow (i := 3) rfl).sl_len.1, hN238]; exact (get_some h290).1)) ?_
 obtain rfl := Option.some.inj (hv296.symm.trans hv255)
 obtain ⟨rfl, -⟩ := hr294
 refine mixE.load hM (v := .slice (some ad280) x248.length c257) (fun _ hF => ld_one Try.isAgg73 rfl (hF.cell (hc293 0 _ rfl) (off1 ho297))) ?_
 refine mp (.int .i64 v13_4) (pu_move e13) ?_
 obtain ⟨x298, h299, hb⟩ := bd hb
 obtain ⟨ad300, cs301, hA, ho304, hc302, hr303⟩ := hS.elo2 (i := 0) rfl (get_some h299).2 [5, 1, 4] (by decide)
 obtain rfl := Option.some.inj hA
 refine mp (.pointer (some (ad280.add (v13_4.toNat * 2)))) (pu_index (a := v13_4) Try.underlying73 Try.sizeOf107 rfl rfl (get_some h299).1) ?_
 obtain ⟨k305, k306, rfl, hr307, hr308⟩ := hr303
 obtain ⟨rfl, hr307⟩ := hr307
 obtain rfl := (show _ = _ from hr308)
 refine mixE.load hM (v := .agg #[.int .i64 x298.1, .bool x298.2]) (fun _ hF => ld_agg Try.isAgg107 Try.sizeOf107 rfl rfl (fun j u hu => hF.cell (hc302 j u hu) (off2 ho304))) ?_
 replace hC := hC.selT [5, 1, 4, 0, 2, 3] (by decide)
 replace hC : Cx (fun _ => False) O0 w w266 ([.box g213 108 [.func (.func 80) #[] #[.pointer (some ⟨g3, 0, none⟩), .pointer (some ⟨g64, 0, none⟩)]], .box g3 68 [.slice (some ad32) list_0.length clist_0], .box g64 105 [.int .i64 x30.1.1, .int .i64 x30.1.2.1, .int .i64 x30.1.2.2, .int .i64 x30.2.1.1, .int .i64 x30.2.1.2.1, .int .i64 x30.2.1.2.2, .int .i64 x30.2.2.1, .int .i64 x30.2.2.2]] ++ ([.own 107 (.pr (.int .i64) .bool) (.slice (some ad280) x248.length c257) x248, .ro (.sl (.pr (.pr (.int .i64) (.pr (.int .i64) (.int .i64))) (.pr (.pr (.int .i64) (.pr (.int .i64) (.int .i64))) (.pr (.int .i64) (.int .i64))))) [.slice (some ad32) list_0.length clist_0] list_0, .own 73 .raw (.slice (some ad221) (((List.replicate (list_0.length : Int).toNat (Value.slice none 0 0))).length) c10) hsqf14_1] ++ ((rowsF 107 (.pr (.int .i64) .bool) hsqf14_1 (qf14_1.set v19_0.toNat y233)).eraseIdx v19_0.toNat ++ ([] : List Fact)))) := hC
 obtain ⟨y309, h310, hb⟩ := bd hb
 refine mixE.cl hM (⟨_, _, op_callv (vs := [.agg #[.int .i64 x278.1, .bool x278.2], .agg #[.int .i64 x298.1, .bool x298.2], .pointer (some ⟨g213, 0, none⟩)]) (ca := #[.pointer (some ⟨g213, 0, none⟩)]) Try.call81 rfl rfl rfl, polygon_cross_c2_ok n hC.lt (wrap_I64 hr287) (wrap_I64 hr307) (hC.rd (i := 4) rfl) (wrap_I64 hr42) (wrap_I64 hr46) (wrap_I64 hr47) (wrap_I64 hr54) (wrap_I64 hr58) (wrap_I64 hr59) (wrap_I64 hr62) (wrap_I64 hr63) hC.give h310⟩) ?_
 rintro _ w312 ⟨rfl, hr311, hK⟩
 have hL313 : ∀ f ∈ ([.box g213 108 [.func (.func 80) #[] #[.pointer (some ⟨g3, 0, none⟩), .pointer (some ⟨g64, 0, none⟩)]], .box g3 68 [.slice (some ad32) list_0.length clist_0], .box g64 105 [.int .i64 x30.1.1, .int .i64 x30.1.2.1, .int .i64 x30.1.2.2, .int .i64 x30.2.1.1, .int .i64 x30.2.1.2.1, .int .i64 x30.2.1.2.2, .int .i64 x30.2.2.1, .int .i64 x30.2.2.2]] : List Fact), ∀ g, g < w266.heap.size → f.blk = some g → g ∈ blocks [.box g213 108 [.func (.func 80) #[] #[.pointer (some ⟨g3, 0, none⟩), .pointer (some ⟨g64, 0, none⟩)]], .box g3 68 [.slice (some ad32) list_0.length clist_0], .box g64 105 [.int .i64 x30.1.1, .int .i64 x30.1.2.1, .int .i64 x30.1.2.2, .int .i64 x30.2.1.1, .int .i64 x30.2.1.2.1, .int .i64 x30.2.1.2.2, .int .i64 x30.2.2.1, .int .i64 x30.2.2.2]] := List.forall_mem_cons.2 ⟨hBf215, List.forall_mem_cons.2 ⟨hBf5, List.forall_mem_cons.2 ⟨hBf66, fun _ h => absurd h List.not_mem_nil⟩⟩⟩
 replace hM := hM.besideL hL313 hK.fr
 refine ⟨hM, ?_⟩
 replace hC := hC.back hK
 clear hK
 replace hC : Cx (fun _ => False) O0 w w312 ([.box g213 108 [.func (.func 80) #[] #[.pointer (some ⟨g3, 0, none⟩), .pointer (some ⟨g64, 0, none⟩)]], .box g3 68 [.slice (some ad32) list_0.length clist_0], .box g64 105 [.int .i64 x30.1.1, .int .i64 x30.1.2.1, .int .i64 x30.1.2.2, .int .i64 x30.2.1.1, .int .i64 x30.2.1.2.1, .int .i64 x30.2.1.2.2, .int .i64 x30.2.2.1, .int .i64 x30.2.2.2], .own 107 (.pr (.int .i64) .bool) (.slice (some ad280) x248.length c257) x248, .ro (.sl (.pr (.pr (.int .i64) (.pr (.int .i64) (.int .i64))) (.pr (.pr (.int .i64) (.pr (.int .i64) (.int .i64))) (.pr (.int .i64) (.int .i64))))) [.slice (some ad32) list_0.length clist_0] list_0, .own 73 .raw (.slice (some ad221) (((List.replicate (list_0.length : Int).toNat (Value.slice none 0 0))).length) c10) hsqf14_1] ++ ((rowsF 107 (.pr (.int .i64) .bool) hsqf14_1 (qf14_1.set v19_0.toNat y233)).eraseIdx v19_0.toNat ++ ([] : List Fact))) := hC
 refine mp (.bool (decide (y309 = 0))) (pu_eql (k := .i64) (a := y309) (b := 0) rfl rfl) ?_
 refine mixE.nil ?_
 clear hS hM
 refine hK264 _ _ ?_
 refine Wc.fresh fun E314 hE => ?_
 have e1 := (congrFun hE 1).trans e1
 have e2 := (congrFun hE 2).trans e2
 have e3 := (congrFun hE 3).trans e3
 have e4 := (congrFun hE 4).trans e4
 have e5 := (congrFun hE 5).trans e5
 have e6 := (congrFun hE 6).trans e6
 have e11 := (congrFun hE 11).trans e11
 have e12 := (congrFun hE 12).trans e12
 have e13 := (congrFun hE 13).trans e13
 have e17 := (congrFun hE 17).trans e17
 have e18 := (congrFun hE 18).trans e18
 have e19 := (congrFun hE 19).trans e19
 have e20 := (congrFun hE 20).trans e20
 have e24 := (congrFun hE 24).trans e24
 have e25 := (congrFun hE 25).trans e25
 have e26 := (congrFun hE 26).trans e26
 have e120 : E314 120 = .bool (decide (v13_4 < (x248.length : Int))) := (congrFun hE 120).trans rfl
 have e140 : E314 140 = .bool (decide (y309 = 0)) := (congrFun hE 140).trans rfl
 clear hE
 refine Wc.cond (t := (decide (y309 = 0))) (e140) (fun hq315 => ?_) (fun hq315 => ?_)
 replace hb := tt hq315 hb
 refine Wc.seq fun K316 hK316 => ?_
 refine rg ?_
 refine lp (.slice none 0 0) (pu_assign rfl) ?_
 refine lp (.bool false) (pu_assign rfl) ?_
 refine ln ?_
 refine hK316 _ _ ?_
 replace hC := hC.selT [3, 0, 1, 2, 4, 5] (by decide)
 replace hC := Cx.putOld hC hN238 hv255 (get_some h249).2
 replace hC : Cx (fun _ => False) O0 w w312 ([.box g213 108 [.func (.func 80) #[] #[.pointer (some ⟨g3, 0, none⟩), .pointer (some ⟨g64, 0, none⟩)]], .box g3 68 [.slice (some ad32) list_0.length clist_0], .box g64 105 [.int .i64 x30.1.1, .int .i64 x30.1.2.1, .int .i64 x30.1.2.2, .int .i64 x30.2.1.1, .int .i64 x30.2.1.2.1, .int .i64 x30.2.1.2.2, .int .i64 x30.2.2.1, .int .i64 x30.2.2.2], .ro (.sl (.pr (.pr (.int .i64) (.pr (.int .i64) (.int .i64))) (.pr (.pr (.int .i64) (.pr (.int .i64) (.int .i64))) (.pr (.int .i64) (.int .i64))))) [.slice (some ad32) list_0.length clist_0] list_0, .own 73 .raw (.slice (some ad221) (((List.replicate (list_0.length : Int).toNat (Value.slice none 0 0))).length) c10) hsqf14_1] ++ (rowsF 107 (.pr (.int .i64) .bool) hsqf14_1 (qf14_1.set v19_0.toNat y233) ++ ([] : List Fact))) := hC
 obtain rfl := os hb
 obtain rfl := (lX hl4).symm
 replace hb := hbK4
 obtain rfl := os hb
 obtain rfl := (lX hl0).symm
 replace hb := hbK0
 replace hC := hC.ro (show Rep _ _ (.sl (.sl (.pr (.int .i64) .bool))) [.slice none 0 0] [] from ⟨none, 0, rfl, Nat.le_refl _, by omega, fun h => absurd h (by simp)⟩)
 replace hC : Cx (fun _ => False) O0 w w312 ([.ro (.sl (.sl (.pr (.int .i64) .bool))) [.slice none 0 0] ([] : List (List (Int × Bool))), .box g213 108 [.func (.func 80) #[] #[.pointer (some ⟨g3, 0, none⟩), .pointer (some ⟨g64, 0, none⟩)]], .box g3 68 [.slice (some ad32) list_0.length clist_0], .box g64 105 [.int .i64 x30.1.1, .int .i64 x30.1.2.1, .int .i64 x30.1.2.2, .int .i64 x30.2.1.1, .int .i64 x30.2.1.2.1, .int .i64 x30.2.1.2.2, .int .i64 x30.2.2.1, .int .i64 x30.2.2.2], .ro (.sl (.pr (.pr (.int .i64) (.pr (.int .i64) (.int .i64))) (.pr (.pr (.int .i64) (.pr (.int .i64) (.int .i64))) (.pr (.int .i64) (.int .i64))))) [.slice (some ad32) list_0.length clist_0] list_0, .own 73 .raw (.slice (some ad221) (((List.replicate (list_0.length : Int).toNat (Value.slice none 0 0))).length) c10) hsqf14_1] ++ (rowsF 107 (.pr (.int .i64) .bool) hsqf14_1 (qf14_1.set v19_0.toNat y233) ++ ([] : List Fact))) := hC
 obtain rfl := os hb
 refine Wc.ret ?_
 refine hKR _ _ ?_
 refine ⟨_, res2 Try.results53 (show RV _ _ _ (.tmp _) (.slice none 0 0) from rfl) (show RV _ _ _ (.tmp _) (.bool false) from rfl), _, rfl, none, 0, 0, rfl, hC.sel [0] (by decide)⟩
 replace hb := tf hq315 hb
 refine Wc.skip ?_
 refine hK263 _ _ ?_
 refine rg ?_
 refine lp (.int .i64 v13_4) (pu_move e13) ?_
 obtain ⟨z318, h319, hb⟩ := bd hb
 refine lp (.int .i64 z318) (pu_addc (a := v13_4) (b := 1) rfl rfl h319) ?_
 refine lp (.int .i64 z318) (pu_assign rfl) ?_
 refine ln ?_
 replace hC := hC.selT [3, 0, 1, 2, 4, 5] (by decide)
 replace hC := Cx.putOld hC hN238 hv255 (get_some h249).2
 replace hC : Cx (fun _ => False) O0 w w312 ([.box g213 108 [.func (.func 80) #[] #[.pointer (some ⟨g3, 0, none⟩), .pointer (some ⟨g64, 0, none⟩)]], .box g3 68 [.slice (some ad32) list_0.length clist_0], .box g64 105 [.int .i64 x30.1.1, .int .i64 x30.1.2.1, .int .i64 x30.1.2.2, .int .i64 x30.2.1.1, .int .i64 x30.2.1.2.1, .int .i64 x30.2.1.2.2, .int .i64 x30.2.2.1, .int .i64 x30.2.2.2], .ro (.sl (.pr (.pr (.int .i64) (.pr (.int .i64) (.int .i64))) (.pr (.pr (.int .i64) (.pr (.int .i64) (.int .i64))) (.pr (.int .i64) (.int .i64))))) [.slice (some ad32) list_0.length clist_0] list_0, .own 73 .raw (.slice (some ad221) (((List.replicate (list_0.length : Int).toNat (Value.slice none 0 0))).length) c10) hsqf14_1] ++ (rowsF 107 (.pr (.int .i64) .bool) hsqf14_1 (qf14_1.set v19_0.toNat y233) ++ ([] : List Fact))) := hC
 obtain rfl := os hb
 exact hK241 m242' _ _ (Nat.lt_succ_self _) ⟨z318, e1, e2, e3, e4, e5, e6, e11, e12, rfl, e17, e18, e19, e20, e24, e25, e26, (chk_rng h319), hC.selT [1, 3, 4, 2, 0] (by decide), lN hl4⟩
 replace hb := tf hq262 hb
 refine Wc.exit rfl ?_
 replace hC := hC.selT [0, 1, 2, 3, 4, 5] (by decide)
 replace hC := Cx.putOld hC hN238 hv255 (get_some h249).2
 replace hC : Cx (fun _ => False) O0 w w243 ([.box g3 68 [.slice (some ad32) list_0.length clist_0], .ro (.sl (.pr (.pr (.int .i64) (.pr (.int .i64) (.int .i64))) (.pr (.pr (.int .i64) (.pr (.int .i64) (.int .i64))) (.pr (.int .i64) (.int .i64))))) [.slice (some ad32) list_0.length clist_0] list_0, .own 73 .raw (.slice (some ad221) (((List.replicate (list_0.length : Int).toNat (Value.slice none 0 0))).length) c10) hsqf14_1, .box g64 105 [.int .i64 x30.1.1, .int .i64 x30.1.2.1, .int .i64 x30.1.2.2, .int .i64 x30.2.1.1, .int .i64 x30.2.1.2.1, .int .i64 x30.2.1.2.2, .int .i64 x30.2.2.1, .int .i64 x30.2.2.2], .box g213 108 [.func (.func 80) #[] #[.pointer (some ⟨g3, 0, none⟩), .pointer (some ⟨g64, 0, none⟩)]]] ++ (rowsF 107 (.pr (.int .i64) .bool) hsqf14_1 (qf14_1.set v19_0.toNat y233) ++ ([] : List Fact))) := hC
 obtain rfl := os hb
 obtain rfl := (lX hl4).symm
 exact hK240 _ _ ⟨v13_4, e1, e2, e3, e4, e5, e6, e11, e12, e13, e17, e18, e19, e20, e24, e25, e26, hrv13_4, hC.selT [0, 1, 2, 3, 4] (by decide), hbK4⟩
 clear hb hC hl4
 rintro E321 w320 ⟨v13_4, e1, e2, e3, e4, e5, e6, e11, e12, e13, e17, e18, e19, e20, e24, e25, e26, hrv13_4, hC, hb⟩
 refine hK28 _ _ ?_
 refine rg ?_
 replace hC : Cx (fun _ => False) O0 w w320 ([.box g3 68 [.slice (some ad32) list_0.length clist_0], .ro (.sl (.pr (.pr (.int .i64) (.pr (.int .i64) (.int .i64))) (.pr (.pr (.int .i64) (.pr (.int .i64) (.int .i64))) (.pr (.int .i64) (.int .i64))))) [.slice (some ad32) list_0.length clist_0] list_0, .own 73 .raw (.slice (some ad221) (((List.replicate (list_0.length : Int).toNat (Value.slice none 0 0))).length) c10) hsqf14_1, .box g64 105 [.int .i64 x30.1.1, .int .i64 x30.1.2.1, .int .i64 x30.1.2.2, .int .i64 x30.2.1.1, .int .i64 x30.2.1.2.1, .int .i64 x30.2.1.2.2, .int .i64 x30.2.2.1, .int .i64 x30.2.2.2], .box g213 108 [.func (.func 80) #[] #[.pointer (some ⟨g3, 0, none⟩), .pointer (some ⟨g64, 0, none⟩)]]] ++ (rowsF 107 (.pr (.int .i64) .bool) hsqf14_1 (qf14_1.set v19_0.toNat y233) ++ ([] : List Fact))) := hC
 obtain ⟨z322, h323, hb⟩ := bd hb
 refine lp (.int .i64 z322) (pu_addc (a := v19_0) (b := 1) e19 rfl h323) ?_
 refine lp (.int .i64 z322) (pu_move rfl) ?_
 refine ln ?_
 obtain rfl := os hb
 exact hK20 m21' _ _ (Nat.lt_succ_self _) ⟨z322, (qf14_1.set v19_0.toNat y233), hsqf14_1, e1, e2, e3, e4, e17, e18, rfl, (chk_rng h323), hN238, hC.selT [0, 1, 2] (by decide), lN hl0⟩
 replace hb := tf hq27 hb
 refine Wc.exit rfl ?_
 obtain rfl := os hb
 obtain rfl := (lX hl0).symm
 exact hK19 _ _ ⟨v19_0, qf14_0, hsqf14_0, e2, e3, e4, hrv19_0, hNqf14_0, hC.selT [2] (by decide), hbK0⟩
 clear hb hC hl0
 rintro E325 w324 ⟨v19_0, qf14_0, hsqf14_0, e2, e3, e4, hrv19_0, hNqf14_0, hC, hb⟩
 refine hK15 _ _ ?_
 refine Wc.seq fun K326 hK326 => ?_
 refine rg ?_
 replace hC : Cx (fun _ => False) O0 w w324 ([.own 73 .raw (.slice A9 (((List.replicate (list_0.length : Int).toNat (Value.slice none 0 0))).length) c10) hsqf14_0] ++ (rowsF 107 (.pr (.int .i64) .bool) hsqf14_0 qf14_0 ++ ([] : List Fact))) := hC
 refine lp (.slice A9 (((List.replicate (list_0.length : Int).toNat (Value.slice none 0 0))).length) c10) (pu_move e4) ?_
 refine lp (.slice A9 (((List.replicate (list_0.length : Int).toNat (Value.slice none 0 0))).length) c10) (pu_assign rfl) ?_
 refine lp (.bool true) (pu_assign rfl) ?_
 refine ln ?_
 refine hK326 _ _ ?_
 replace hC := hC.selT [0] (by decide)
 replace hC := Cx.freezeR hC hNqf14_0
 replace hC : Cx (fun _ => False) O0 w w324 ([.ro (.sl (.sl (.pr (.int .i64) .bool))) [.slice A9 (((List.replicate (list_0.length : Int).toNat (Value.slice none 0 0))).length) c10] qf14_0] ++ ([] : List Fact)) := hC
 obtain rfl := os hb
 refine Wc.ret ?_
 refine hKR _ _ ?_
 refine ⟨_, res2 Try.results53 (show RV _ _ _ (.tmp _) (.slice A9 (((List.replicate (list_0.length : Int).toNat (Value.slice none 0 0))).length) c10) from rfl) (show RV _ _ _ (.tmp _) (.bool true) from rfl), _, rfl, A9, ((List.replicate (list_0.length : Int).toNat (Value.slice none 0 0))).length, c10, rfl, hC.sel [0] (by decide)⟩
end Go.Proofs.Yteajmbanlohncaa
