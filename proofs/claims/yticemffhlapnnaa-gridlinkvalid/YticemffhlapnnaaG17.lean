/- The walks: part 17. -/
import Derived.Test.YticemffhlapnnaaS
set_option linter.unusedVariables false
set_option linter.unusedSimpArgs false
namespace Go.Proofs.Yticemffhlapnnaa
open Ev
set_option maxRecDepth 100000 in
set_option maxHeartbeats 4000000 in
theorem diagram_outgoing_ok (n : Nat) {w : World} {O0 : List Nat} (hO : ∀ k ∈ O0, k < w.heap.size) {Ad_0_0 : Option Addr} {md_0_0 cd_0_0 : Nat} {d_0_0 : List Int} (hd_0_0 : Rep O0 w (.sl (.int .i64)) [.slice Ad_0_0 md_0_0 cd_0_0] d_0_0) {Ad_0_1 : Option Addr} {md_0_1 cd_0_1 : Nat} {d_0_1 : List Int} (hd_0_1 : Rep O0 w (.sl (.int .i64)) [.slice Ad_0_1 md_0_1 cd_0_1] d_0_1) {d_0_2 : Int} (hd_0_2 : I64 d_0_2) {h_1 : Int} (hh_1 : I64 h_1) {r : Bool} (hb : F.diagram_outgoing n d_0_0 d_0_1 d_0_2 h_1 = some r) :
    Calls Try.prog 52 #[.agg #[.slice Ad_0_0 md_0_0 cd_0_0, .slice Ad_0_1 md_0_1 cd_0_1, .int .i64 d_0_2], .int .i64 h_1] w fun e w' => ∃ v, e = .returned v ∧ v = .bool r ∧ Cx (fun _ => False) O0 w w' [] := by
 unfold F.diagram_outgoing at hb
 have hC := Cx.start hO
 replace hC := hC.arg rfl hd_0_0
 replace hC := hC.arg rfl hd_0_1
 clear hO
 obtain ⟨rfl, hld_0_0, hcd_0_0⟩ := hd_0_0.sl_len
 obtain ⟨rfl, hld_0_1, hcd_0_1⟩ := hd_0_1.sl_len
 refine calls_of_Wc Try.func52 rfl (by rw [Try.ntmps52]; exact Nat.le_of_ble_eq_true rfl) fun KR hKR => ?_
 refine Wc.seq fun K3 hK3 => ?_
 refine rg ?_
 refine lex.op (hC.box (cs := [.slice Ad_0_0 d_0_0.length cd_0_0, .slice Ad_0_1 d_0_1.length cd_0_1, .int .i64 d_0_2]) rfl rfl) ?_
 rintro _ w5 ⟨g4, rfl, hC, hF, hG⟩
 clear hG
 refine lp (.bool false) (pu_assign rfl) ?_
 refine ln ?_
 refine hK3 _ _ ?_
 refine Wc.seq fun K7 hK7 => ?_
 refine Wc.seq fun K8 hK8 => ?_
 refine rg ?_
 refine lp (.int .i64 h_1) (pu_move rfl) ?_
 obtain ⟨u9, h10, hb⟩ := bd hb
 refine lp (.int .i64 (Int.tmod h_1 4)) (pu_remc (a := h_1) (b := 4) rfl rfl h10) ?_
 refine ln ?_
 refine hK8 _ _ ?_
 refine Wc.block ?_
 refine Wc.seq fun K11 hK11 => ?_
 refine rg ?_
 refine lp (.bool (decide ((Int.tmod h_1 4) = 1))) (pu_eql (k := .i64) (a := (Int.tmod h_1 4)) (b := 1) rfl rfl) ?_
 refine lp (.bool (decide ((Int.tmod h_1 4) = 1))) (pu_assign rfl) ?_
 refine ln ?_
 refine hK11 _ _ ?_
 refine Wc.cond (t := (decide ((Int.tmod h_1 4) = 1))) (rfl) (fun hq12 => ?_) (fun hq12 => ?_)
 replace hb := tt hq12 hb
 refine Wc.seq fun K13 hK13 => ?_
 refine rg ?_
 refine lp (.pointer (some ((⟨g4, 0, none⟩ : Addr).add 0))) (pu_field (sz := 1) Try.underlying28 rfl Try.sizeOf22 (by decide) rfl rfl) ?_
 refine lv (.slice Ad_0_0 d_0_0.length cd_0_0) (ld_fld (hC.bx (i := 0) rfl) Try.isAgg22 rfl rfl) ?_
 refine lp (.int .i64 h_1) (pu_move rfl) ?_
 obtain ⟨u14, h15, hb⟩ := bd hb
 obtain ⟨z16, h17, hb⟩ := bd hb
 refine lp (.int .i64 z16) (pu_quoc (a := h_1) (b := 4) rfl rfl h15 h17) ?_
 obtain ⟨x18, h19, hb⟩ := bd hb
 obtain ⟨ad20, cs21, hA, hc22, hr23⟩ := hC.elr (i := 2) rfl (get_some h19).2
 subst hA
 refine lp (.pointer (some (ad20.add (z16.toNat * 1)))) (pu_index (a := z16) Try.underlying22 Try.sizeOf3 rfl rfl (get_some h19).1) ?_
 obtain ⟨rfl, hr23'⟩ := hr23
 refine lv (.int .i64 x18) (ld_one Try.isAgg3 rfl (hc22 0 _ rfl)) ?_
 refine lp (.bool (decide (x18 = 1))) (pu_eql (k := .i64) (a := x18) (b := 1) rfl rfl) ?_
 refine lp (.bool (decide (x18 = 1))) (pu_assign rfl) ?_
 refine ln ?_
 refine hK13 _ _ ?_
 obtain rfl := os hb
 refine Wc.ret ?_
 refine hKR _ _ ?_
 refine ⟨_, res1 Try.results52 (show RV _ _ _ (.tmp _) (.bool (decide (x18 = 1))) from rfl), _, rfl, rfl, hC.sel [] (by decide)⟩
 replace hb := tf hq12 hb
 refine Wc.seq fun K24 hK24 => ?_
 refine rg ?_
 refine lp (.bool (decide ((Int.tmod h_1 4) = 2))) (pu_eql (k := .i64) (a := (Int.tmod h_1 4)) (b := 2) rfl rfl) ?_
 refine lp (.bool (decide ((Int.tmod h_1 4) = 2))) (pu_assign rfl) ?_
 refine ln ?_
 refine hK24 _ _ ?_
 refine Wc.cond (t := (decide ((Int.tmod h_1 4) = 2))) (rfl) (fun hq25 => ?_) (fun hq25 => ?_)
 replace hb := tt hq25 hb
 refine Wc.seq fun K26 hK26 => ?_
 refine rg ?_
 refine lp (.bool true) (pu_assign rfl) ?_
 refine ln ?_
 refine hK26 _ _ ?_
 obtain rfl := os hb
 refine Wc.ret ?_
 refine hKR _ _ ?_
 refine ⟨_, res1 Try.results52 (show RV _ _ _ (.tmp _) (.bool true) from rfl), _, rfl, rfl, hC.sel [] (by decide)⟩
 replace hb := tf hq25 hb
 refine Wc.seq fun K27 hK27 => ?_
 refine rg ?_
 refine lp (.bool (decide ((Int.tmod h_1 4) = 3))) (pu_eql (k := .i64) (a := (Int.tmod h_1 4)) (b := 3) rfl rfl) ?_
 refine lp (.bool (decide ((Int.tmod h_1 4) = 3))) (pu_assign rfl) ?_
 refine ln ?_
 refine hK27 _ _ ?_
 refine Wc.fresh fun E28 hE => ?_
 have e1 : E28 1 = .int .i64 h_1 := (congrFun hE 1).trans rfl
 have e2 : E28 2 = .pointer (some ⟨g4, 0, none⟩) := (congrFun hE 2).trans rfl
 have e4 : E28 4 = .bool false := (congrFun hE 4).trans rfl
 have e18 : E28 18 = .bool (decide ((Int.tmod h_1 4) = 3)) := (congrFun hE 18).trans rfl
 clear hE
 refine Wc.cond (t := (decide ((Int.tmod h_1 4) = 3))) (e18) (fun hq29 => ?_) (fun hq29 => ?_)
 replace hb := tt hq29 hb
 refine Wc.seq fun K30 hK30 => ?_
 refine rg ?_
 refine lp (.pointer (some ((⟨g4, 0, none⟩ : Addr).add 0))) (pu_field (sz := 1) Try.underlying28 rfl Try.sizeOf22 (by decide) rfl e2) ?_
 refine lv (.slice Ad_0_0 d_0_0.length cd_0_0) (ld_fld (hC.bx (i := 0) rfl) Try.isAgg22 rfl rfl) ?_
 refine lp (.int .i64 h_1) (pu_move e1) ?_
 obtain ⟨u31, h32, hb⟩ := bd hb
 obtain ⟨z33, h34, hb⟩ := bd hb
 refine lp (.int .i64 z33) (pu_quoc (a := h_1) (b := 4) rfl rfl h32 h34) ?_
 obtain ⟨x35, h36, hb⟩ := bd hb
 obtain ⟨ad37, cs38, hA, hc39, hr40⟩ := hC.elr (i := 2) rfl (get_some h36).2
 subst hA
 refine lp (.pointer (some (ad37.add (z33.toNat * 1)))) (pu_index (a := z33) Try.underlying22 Try.sizeOf3 rfl rfl (get_some h36).1) ?_
 obtain ⟨rfl, hr40'⟩ := hr40
 refine lv (.int .i64 x35) (ld_one Try.isAgg3 rfl (hc39 0 _ rfl)) ?_
 refine lp (.bool (decide (x35 = (-1)))) (pu_eql (k := .i64) (a := x35) (b := (-1)) rfl rfl) ?_
 refine lp (.bool (decide (x35 = (-1)))) (pu_assign rfl) ?_
 refine ln ?_
 refine hK30 _ _ ?_
 obtain rfl := os hb
 refine Wc.ret ?_
 refine hKR _ _ ?_
 refine ⟨_, res1 Try.results52 (show RV _ _ _ (.tmp _) (.bool (decide (x35 = (-1)))) from rfl), _, rfl, rfl, hC.sel [] (by decide)⟩
 replace hb := tf hq29 hb
 refine Wc.skip ?_
 refine hK7 _ _ ?_
 refine Wc.seq fun K41 hK41 => ?_
 refine rg ?_
 refine lp (.bool false) (pu_assign rfl) ?_
 refine ln ?_
 refine hK41 _ _ ?_
 obtain rfl := os hb
 refine Wc.ret ?_
 refine hKR _ _ ?_
 refine ⟨_, res1 Try.results52 (show RV _ _ _ (.tmp _) (.bool false) from rfl), _, rfl, rfl, hC.sel [] (by decide)⟩

set_option maxRecDepth 100000 in
set_option maxHeartbeats 4000000 in
theorem diagram_label_ok (n : Nat) {w : World} {O0 : List Nat} (hO : ∀ k ∈ O0, k < w.heap.size) {Ad_0_0 : Option Addr} {md_0_0 cd_0_0 : Nat} {d_0_0 : List Int} (hd_0_0 : Rep O0 w (.sl (.int .i64)) [.slice Ad_0_0 md_0_0 cd_0_0] d_0_0) {Ad_0_1 : Option Addr} {md_0_1 cd_0_1 : Nat} {d_0_1 : List Int} (hd_0_1 : Rep O0 w (.sl (.int .i64)) [.slice Ad_0_1 md_0_1 cd_0_1] d_0_1) {d_0_2 : Int} (hd_0_2 : I64 d_0_2) {r : (List Int) × Int} (hb : F.diagram_label n d_0_0 d_0_1 d_0_2 = some r) :
    Calls Try.prog 74 #[.agg #[.slice Ad_0_0 md_0_0 cd_0_0, .slice Ad_0_1 md_0_1 cd_0_1, .int .i64 d_0_2]] w fun e w' => ∃ v, e = .returned v ∧ ∃ (A0 : Option Addr) (m0 c0 : Nat), v = .tuple #[.slice A0 m0 c0, .int .i64 r.2] ∧ I64 r.2 ∧ Cx (fun _ => False) O0 w w' [.own 3 (.int .i64) (.slice A0 m0 c0) r.1] := by
 unfold F.diagram_label at hb
 have hC := Cx.start hO
 replace hC := hC.arg rfl hd_0_0
 replace hC := hC.arg rfl hd_0_1
 clear hO
 obtain ⟨rfl, hld_0_0, hcd_0_0⟩ := hd_0_0.sl_len
 obtain ⟨rfl, hld_0_1, hcd_0_1⟩ := hd_0_1.sl_len
 refine calls_of_Wc Try.func74 rfl (by rw [Try.ntmps74]; exact Nat.le_of_ble_eq_true rfl) fun KR hKR => ?_
 refine Wc.seq fun K3 hK3 => ?_
 refine rg ?_
 refine lex.op (hC.box (cs := [.slice Ad_0_0 d_0_0.length cd_0_0, .slice Ad_0_1 d_0_1.length cd_0_1, .int .i64 d_0_2]) rfl rfl) ?_
 rintro _ w5 ⟨g4, rfl, hC, hF, hG⟩
 clear hG
 refine lp (.slice none 0 0) (pu_assign rfl) ?_
 refine lp (.int .i64 0) (pu_assign rfl) ?_
 refine ln ?_
 refine hK3 _ _ ?_
 refine Wc.seq fun K7 hK7 => ?_
 refine rg ?_
 refine lp (.pointer (some ((⟨g4, 0, none⟩ : Addr).add 0))) (pu_field (sz := 1) Try.underlying28 rfl Try.sizeOf22 (by decide) rfl rfl) ?_
 refine lv (.slice Ad_0_0 d_0_0.length cd_0_0) (ld_fld (hC.bx (i := 0) rfl) Try.isAgg22 rfl rfl) ?_
 refine lp (.int .i64 (d_0_0.length : Int)) (pu_len (A := Ad_0_0) (n := d_0_0.length) (m := cd_0_0) Try.underlying22 rfl) ?_
 obtain ⟨u8, h9, hb⟩ := bd hb
 refine lex.op (hC.make (s := (.int .i64)) (n := (d_0_0.length : Int)) Try.underlying22 Try.type3 rfl rfl rfl rfl rfl (pos_some h9).1 (pos_some h9).2 (by decide)) ?_
 rintro _ w14 ⟨A10, c11, rfl, hl12, hc13, hC, hF, hN⟩
 clear hF hN
 refine lp (.slice A10 (((List.replicate (d_0_0.length : Int).toNat (0 : Int))).length) c11) (pu_assign rfl) ?_
 refine ln ?_
 refine hK7 _ _ ?_
 refine Wc.seq fun K16 hK16 => ?_
 refine Wc.seq fun K17 hK17 => ?_
 refine rg ?_
 refine lp (.slice A10 (((List.replicate (d_0_0.length : Int).toNat (0 : Int))).length) c11) (pu_move rfl) ?_
 refine lp (.int .i64 (((List.replicate (d_0_0.length : Int).toNat (0 : Int))).length : Int)) (pu_len (A := A10) (n := ((List.replicate (d_0_0.length : Int).toNat (0 : Int))).length) (m := c11) Try.underlying22 rfl) ?_
 refine lp (.int .i64 0) (pu_move rfl) ?_
 refine ln ?_
 refine hK17 _ _ ?_
 refine Wc.fresh fun E18 hE => ?_
 have e1 : E18 1 = .pointer (some ⟨g4, 0, none⟩) := (congrFun hE 1).trans rfl
 have e2 : E18 2 = .slice none 0 0 := (congrFun hE 2).trans rfl
 have e3 : E18 3 = .int .i64 0 := (congrFun hE 3).trans rfl
 have e4 : E18 4 = .slice A10 (((List.replicate (d_0_0.length : Int).toNat (0 : Int))).length) c11 := (congrFun hE 4).trans rfl
 have e17 : E18 17 = .int .i64 (((List.replicate (d_0_0.length : Int).toNat (0 : Int))).length : Int) := (congrFun hE 17).trans rfl
 have e18 : E18 18 = .int .i64 0 := (congrFun hE 18).trans rfl
 clear hE
 obtain ⟨o19, hl0, hb⟩ := bd hb
 refine Wc.cut (fun E wv => ∃ (v18_0 : Int) (qf15_0 : List Int), E 1 = .pointer (some ⟨g4, 0, none⟩) ∧ E 2 = .slice none 0 0 ∧ E 3 = .int .i64 0 ∧ E 4 = .slice A10 (((List.replicate (d_0_0.length : Int).toNat (0 : Int))).length) c11 ∧ I64 v18_0 ∧ Cx (fun _ => False) O0 w wv [.box g4 28 [.slice Ad_0_0 d_0_0.length cd_0_0, .slice Ad_0_1 d_0_1.length cd_0_1, .int .i64 d_0_2], .ro (.sl (.int .i64)) [.slice Ad_0_0 d_0_0.length cd_0_0] d_0_0, .ro (.sl (.int .i64)) [.slice Ad_0_1 d_0_1.length cd_0_1] d_0_1, .own 3 (.int .i64) (.slice A10 (((List.replicate (d_0_0.length : Int).toNat (0 : Int))).length) c11) qf15_0] ∧ (((loopN n (F.diagram_label_b1 n d_0_0 d_0_1) (0, 0, qf15_0)).bind fun o45 => match o45 with     | (v6_1, v27_1, qf15_1) => some (qf15_1, v6_1)) : Option ((List Int) × Int)) = some r) (fun K20 hK20 => ?_) ?_
 refine Wc.block ?_
 refine Wc.loop (fun m E wv => ∃ (v18_0 : Int) (qf15_0 : List Int), E 1 = .pointer (some ⟨g4, 0, none⟩) ∧ E 2 = .slice none 0 0 ∧ E 3 = .int .i64 0 ∧ E 4 = .slice A10 (((List.replicate (d_0_0.length : Int).toNat (0 : Int))).length) c11 ∧ E 17 = .int .i64 (((List.replicate (d_0_0.length : Int).toNat (0 : Int))).length : Int) ∧ E 18 = .int .i64 v18_0 ∧ I64 v18_0 ∧ Cx (fun _ => False) O0 w wv [.box g4 28 [.slice Ad_0_0 d_0_0.length cd_0_0, .slice Ad_0_1 d_0_1.length cd_0_1, .int .i64 d_0_2], .ro (.sl (.int .i64)) [.slice Ad_0_0 d_0_0.length cd_0_0] d_0_0, .ro (.sl (.int .i64)) [.slice Ad_0_1 d_0_1.length cd_0_1] d_0_1, .own 3 (.int .i64) (.slice A10 (((List.replicate (d_0_0.length : Int).toNat (0 : Int))).length) c11) qf15_0] ∧ loopN m (F.diagram_label_b0 n d_0_0) (v18_0, qf15_0) = some o19) n ⟨0, (List.replicate (d_0_0.length : Int).toNat (0 : Int)), e1, e2, e3, e4, e17, e18, (show I64 0 from by unfold I64; omega), hC.sel [1, 3, 2, 0] (by decide), hl0⟩ ?_
 have hbK0 := hb
 clear hb hC hl0
 rintro m22 E24 w23 ⟨v18_0, qf15_0, e1, e2, e3, e4, e17, e18, hrv18_0, hC, hl0⟩ K21 hK21
 obtain ⟨m22', o25, rfl, hb, hl0⟩ := loopN_some hl0
 unfold F.diagram_label_b0 at hb
 refine Wc.seq fun K26 hK26 => ?_
 refine rg ?_
 refine lp (.bool (decide (v18_0 < (((List.replicate (d_0_0.length : Int).toNat (0 : Int))).length : Int)))) (pu_lss (k := .i64) (a := v18_0) (b := (((List.replicate (d_0_0.length : Int).toNat (0 : Int))).length : Int)) e18 e17) ?_
 refine ln ?_
 refine hK26 _ _ ?_
 refine Wc.seq fun K27 hK27 => ?_
 refine Wc.cond (t := (decide (v18_0 < (((List.replicate (d_0_0.length : Int).toNat (0 : Int))).length : Int)))) (rfl) (fun hq28 => ?_) (fun hq28 => ?_)
 replace hb := tt hq28 hb
 refine Wc.skip ?_
 refine hK27 _ _ ?_
 refine Wc.seq fun K29 hK29 => ?_
 refine Wc.block ?_
 refine Wc.seq fun K30 hK30 => ?_
 refine rg ?_
 refine lp (.int .i64 v18_0) (pu_move e18) ?_
 refine lp (.int .i64 v18_0) (pu_assign rfl) ?_
 refine ln ?_
 refine hK30 _ _ ?_
 refine rg ?_
 refine lp (.slice A10 (((List.replicate (d_0_0.length : Int).toNat (0 : Int))).length) c11) (pu_move e4) ?_
 refine lp (.int .i64 v18_0) (pu_move rfl) ?_
 obtain ⟨x31, h32, hb⟩ := bd hb
 obtain ⟨ad33, cs34, hA, hc35, hr36⟩ := hC.elo (i := 3) rfl (get_some h32).2
 subst hA
 refine lp (.pointer (some (ad33.add (v18_0.toNat * 1)))) (pu_index (a := v18_0) Try.underlying22 Try.sizeOf3 rfl rfl (by rw [(hC.ow (i := 3) rfl).sl_len.1]; exact (get_some h32).1)) ?_
 refine lex.sk (hC.put (i := 3) rfl rfl Try.sizeOf3 (k := v18_0.toNat) (a := (-1)) (by have := (get_some h32).1; simp at this ⊢; omega) (⟨rfl, I64.wr (show I64 (-1) from by unfold I64; omega)⟩) rfl rfl rfl) ?_
 rintro w37 ⟨hC, hF⟩
 refine ln ?_
 refine hK29 _ _ ?_
 refine rg ?_
 obtain ⟨z38, h39, hb⟩ := bd hb
 refine lp (.int .i64 z38) (pu_addc (a := v18_0) (b := 1) e18 rfl h39) ?_
 refine lp (.int .i64 z38) (pu_move rfl) ?_
 refine ln ?_
 obtain rfl := os hb
 exact hK21 m22' _ _ (Nat.lt_succ_self _) ⟨z38, (qf15_0.set v18_0.toNat (-1)), e1, e2, e3, e4, e17, rfl, (chk_rng h39), hC.sel [0, 1, 2, 3] (by decide), lN hl0⟩
 replace hb := tf hq28 hb
 refine Wc.exit rfl ?_
 obtain rfl := os hb
 obtain rfl := (lX hl0).symm
 exact hK20 _ _ ⟨v18_0, qf15_0, e1, e2, e3, e4, hrv18_0, hC.sel [0, 1, 2, 3] (by decide), hbK0⟩
 clear hb hC hl0
 rintro E41 w40 ⟨v18_0, qf15_0, e1, e2, e3, e4, hrv18_0, hC, hb⟩
 refine hK16 _ _ ?_
 refine Wc.seq fun K42 hK42 => ?_
 refine rg ?_
 refine lp (.int .i64 0) (pu_assign rfl) ?_
 refine ln ?_
 refine hK42 _ _ ?_
 refine Wc.seq fun K43 hK43 => ?_
 refine Wc.seq fun K44 hK44 => ?_
 refine rg ?_
 refine lp (.slice A10 (((List.replicate (d_0_0.length : Int).toNat (0 : Int))).length) c11) (pu_move e4) ?_
 refine lp (.int .i64 (((List.replicate (d_0_0.length : Int).toNat (0 : Int))).length : Int)) (pu_len (A := A10) (n := ((List.replicate (d_0_0.length : Int).toNat (0 : Int))).length) (m := c11) Try.underlying22 rfl) ?_
 refine lp (.int .i64 0) (pu_move rfl) ?_
 refine ln ?_
 refine hK44 _ _ ?_
 obtain ⟨o45, hl1, hb⟩ := bd hb
 refine Wc.cut (fun E wv => ∃ (v6_1 : Int) (v27_1 : Int) (qf15_1 : List Int), E 2 = .slice none 0 0 ∧ E 3 = .int .i64 0 ∧ E 4 = .slice A10 (((List.replicate (d_0_0.length : Int).toNat (0 : Int))).length) c11 ∧ E 6 = .int .i64 v6_1 ∧ I64 v6_1 ∧ I64 v27_1 ∧ Cx (fun _ => False) O0 w wv [.own 3 (.int .i64) (.slice A10 (((List.replicate (d_0_0.length : Int).toNat (0 : Int))).length) c11) qf15_1] ∧ (some (qf15_1, v6_1) : Option ((List Int) × Int)) = some r) (fun K46 hK46 => ?_) ?_
 refine Wc.block ?_
 refine Wc.loop (fun m E wv => ∃ (v6_1 : Int) (v27_1 : Int) (qf15_1 : List Int), E 1 = .pointer (some ⟨g4, 0, none⟩) ∧ E 2 = .slice none 0 0 ∧ E 3 = .int .i64 0 ∧ E 4 = .slice A10 (((List.replicate (d_0_0.length : Int).toNat (0 : Int))).length) c11 ∧ E 6 = .int .i64 v6_1 ∧ E 26 = .int .i64 (((List.replicate (d_0_0.length : Int).toNat (0 : Int))).length : Int) ∧ E 27 = .int .i64 v27_1 ∧ I64 v6_1 ∧ I64 v27_1 ∧ Cx (fun _ => False) O0 w wv [.box g4 28 [.slice Ad_0_0 d_0_0.length cd_0_0, .slice Ad_0_1 d_0_1.length cd_0_1, .int .i64 d_0_2], .ro (.sl (.int .i64)) [.slice Ad_0_0 d_0_0.length cd_0_0] d_0_0, .ro (.sl (.int .i64)) [.slice Ad_0_1 d_0_1.length cd_0_1] d_0_1, .own 3 (.int .i64) (.slice A10 (((List.replicate (d_0_0.length : Int).toNat (0 : Int))).length) c11) qf15_1] ∧ loopN m (F.diagram_label_b1 n d_0_0 d_0_1) (v6_1, v27_1, qf15_1) = some o45) n ⟨0, 0, qf15_0, e1, e2, e3, e4, rfl, rfl, rfl, (show I64 0 from by unfold I64; omega), (show I64 0 from by unfold I64; omega), hC.sel [0, 1, 2, 3] (by decide), hl1⟩ ?_
 have hbK1 := hb
 clear hb hC hl1
 rintro m48 E50 w49 ⟨v6_1, v27_1, qf15_1, e1, e2, e3, e4, e6, e26, e27, hrv6_1, hrv27_1, hC, hl1⟩ K47 hK47
 obtain ⟨m48', o51, rfl, hb, hl1⟩ := loopN_some hl1
 unfold F.diagram_label_b1 at hb
 refine Wc.seq fun K52 hK52 => ?_
 refine rg ?_
 refine lp (.bool (decide (v27_1 < (((List.replicate (d_0_0.length : Int).toNat (0 : Int))).length : Int)))) (pu_lss (k := .i64) (a := v27_1) (b := (((List.replicate (d_0_0.length : Int).toNat (0 : Int))).length : Int)) e27 e26) ?_
 refine ln ?_
 refine hK52 _ _ ?_
 refine Wc.seq fun K53 hK53 => ?_
 refine Wc.cond (t := (decide (v27_1 < (((List.replicate (d_0_0.length : Int).toNat (0 : Int))).length : Int)))) (rfl) (fun hq54 => ?_) (fun hq54 => ?_)
 replace hb := tt hq54 hb
 refine Wc.skip ?_
 refine hK53 _ _ ?_
 refine Wc.seq fun K55 hK55 => ?_
 refine Wc.block ?_
 refine Wc.seq fun K56 hK56 => ?_
 refine rg ?_
 refine lp (.int .i64 v27_1) (pu_move e27) ?_
 refine lp (.int .i64 v27_1) (pu_assign rfl) ?_
 refine ln ?_
 refine hK56 _ _ ?_
 refine Wc.seq fun K57 hK57 => ?_
 refine Wc.seq fun K58 hK58 => ?_
 refine rg ?_
 refine lp (.slice A10 (((List.replicate (d_0_0.length : Int).toNat (0 : Int))).length) c11) (pu_move e4) ?_
 refine lp (.int .i64 v27_1) (pu_move rfl) ?_
 obtain ⟨x59, h60, hb⟩ := bd hb
 obtain ⟨ad61, cs62, hA, hc63, hr64⟩ := hC.elo (i := 3) rfl (get_some h60).2
 subst hA
 refine lp (.pointer (some (ad61.add (v27_1.toNat * 1)))) (pu_index (a := v27_1) Try.underlying22 Try.sizeOf3 rfl rfl (by rw [(hC.ow (i := 3) rfl).sl_len.1]; exact (get_some h60).1)) ?_
 obtain ⟨rfl, hr64'⟩ := hr64
 refine lv (.int .i64 x59) (ld_one Try.isAgg3 rfl (hc63 0 _ rfl)) ?_
 refine lp (.bool (decide (0 ≤ x59))) (pu_geq (k := .i64) (a := x59) (b := 0) rfl rfl) ?_
 refine ln ?_
 refine hK58 _ _ ?_
 refine Wc.cond (t := (decide (0 ≤ x59))) (rfl) (fun hq65 => ?_) (fun hq65 => ?_)
 replace hb := tt hq65 hb
 refine Wc.exit rfl ?_
 refine hK55 _ _ ?_
 refine rg ?_
 obtain ⟨z66, h67, hb⟩ := bd hb
 refine lp (.int .i64 z66) (pu_addc (a := v27_1) (b := 1) e27 rfl h67) ?_
 refine lp (.int .i64 z66) (pu_move rfl) ?_
 refine ln ?_
 obtain rfl := os hb
 exact hK47 m48' _ _ (Nat.lt_succ_self _) ⟨v6_1, z66, qf15_1, e1, e2, e3, e4, e6, e26, rfl, hrv6_1, (chk_rng h67), hC.sel [0, 1, 2, 3] (by decide), lN hl1⟩
 replace hb := tf hq65 hb
 refine Wc.skip ?_
 refine hK57 _ _ ?_
 refine Wc.seq fun K68 hK68 => ?_
 refine rg ?_
 refine lp (.slice (some ad61) (((List.replicate (d_0_0.length : Int).toNat (0 : Int))).length) c11) (pu_move e4) ?_
 refine lp (.int .i64 v27_1) (pu_move rfl) ?_
 refine lp (.int .i64 v6_1) (pu_move e6) ?_
 obtain ⟨x69, h70, hb⟩ := bd hb
 obtain ⟨ad71, cs72, hA, hc73, hr74⟩ := hC.elo (i := 3) rfl (get_some h70).2
 obtain rfl := Option.some.inj hA
 refine lp (.pointer (some (ad61.add (v27_1.toNat * 1)))) (pu_index (a := v27_1) Try.underlying22 Try.sizeOf3 rfl rfl (by rw [(hC.ow (i := 3) rfl).sl_len.1]; exact (get_some h70).1)) ?_
 refine lex.sk (hC.put (i := 3) rfl rfl Try.sizeOf3 (k := v27_1.toNat) (a := v6_1) (by have := (get_some h70).1; simp at this ⊢; omega) (⟨rfl, I64.wr hrv6_1⟩) rfl rfl rfl) ?_
 rintro w75 ⟨hC, hF⟩
 refine ln ?_
 refine hK68 _ _ ?_
 refine Wc.fresh fun E76 hE => ?_
 have e1 := (congrFun hE 1).trans e1
 have e2 := (congrFun hE 2).trans e2
 have e3 := (congrFun hE 3).trans e3
 have e4 := (congrFun hE 4).trans e4
 have e6 := (congrFun hE 6).trans e6
 have e7 : E76 7 = .int .i64 v27_1 := (congrFun hE 7).trans rfl
 have e26 := (congrFun hE 26).trans e26
 have e27 := (congrFun hE 27).trans e27
 have e28 : E76 28 = .bool (decide (v27_1 < (((List.replicate (d_0_0.length : Int).toNat (0 : Int))).length : Int))) := (congrFun hE 28).trans rfl
 have e34 : E76 34 = .bool (decide (0 ≤ x59)) := (congrFun hE 34).trans rfl
 clear hE
 refine Wc.seq fun K77 hK77 => ?_
 refine rg ?_
 refine lp (.int .i64 v27_1) (pu_move e7) ?_
 refine lex.op (hC.lit (s := (.int .i64)) (vs := [.int .i64 v27_1]) (xs := [v27_1]) Try.underlying22 Try.type3 rfl rfl (Nat.le_of_ble_eq_true rfl) rfl rfl (by simp [Value.cells, Sh.n]) rfl (show Elems _ _ (.int .i64) ([.int .i64 v27_1] ++ ([])) ([v27_1] : List Int) from Elems.cons (⟨rfl, I64.wr hrv27_1⟩) (Elems.nil _ _ _))) ?_
 rintro _ w82 ⟨A78, c79, rfl, hl80, hc81, hC, hF, hN⟩
 clear hF hN
 refine lp (.slice A78 ((([v27_1] : List Int)).length) c79) (pu_assign rfl) ?_
 refine ln ?_
 refine hK77 _ _ ?_
 refine Wc.seq fun K84 hK84 => ?_
 obtain ⟨o85, hl2, hb⟩ := bd hb
 refine Wc.cut (fun E wv => ∃ (l8_2 : List Int) (qf15_2 : List Int) (Al8_2 : Option Addr) (ml8_2 cl8_2 : Nat), E 1 = .pointer (some ⟨g4, 0, none⟩) ∧ E 2 = .slice none 0 0 ∧ E 3 = .int .i64 0 ∧ E 4 = .slice (some ad61) (((List.replicate (d_0_0.length : Int).toNat (0 : Int))).length) c11 ∧ E 6 = .int .i64 v6_1 ∧ E 7 = .int .i64 v27_1 ∧ E 8 = .slice Al8_2 ml8_2 cl8_2 ∧ E 26 = .int .i64 (((List.replicate (d_0_0.length : Int).toNat (0 : Int))).length : Int) ∧ E 27 = .int .i64 v27_1 ∧ E 28 = .bool (decide (v27_1 < (((List.replicate (d_0_0.length : Int).toNat (0 : Int))).length : Int))) ∧ E 34 = .bool (decide (0 ≤ x59)) ∧ Cx (fun _ => False) O0 w wv [.box g4 28 [.slice Ad_0_0 d_0_0.length cd_0_0, .slice Ad_0_1 d_0_1.length cd_0_1, .int .i64 d_0_2], .ro (.sl (.int .i64)) [.slice Ad_0_0 d_0_0.length cd_0_0] d_0_0, .ro (.sl (.int .i64)) [.slice Ad_0_1 d_0_1.length cd_0_1] d_0_1, .own 3 (.int .i64) (.slice (some ad61) (((List.replicate (d_0_0.length : Int).toNat (0 : Int))).length) c11) qf15_2, .own 3 (.int .i64) (.slice Al8_2 ml8_2 cl8_2) l8_2] ∧ ((chk (v6_1 + 1)).bind fun z177 => (chk (v27_1 + 1)).bind fun z179 => some (.inl (z177, z179, qf15_2)) : Option ((Int × Int × (List Int)) ⊕ ((Int × Int × (List Int))))) = some o51) (fun K86 hK86 => ?_) ?_
 refine Wc.block ?_
 refine Wc.loop (fun m E wv => ∃ (l8_2 : List Int) (qf15_2 : List Int) (Al8_2 : Option Addr) (ml8_2 cl8_2 : Nat), E 1 = .pointer (some ⟨g4, 0, none⟩) ∧ E 2 = .slice none 0 0 ∧ E 3 = .int .i64 0 ∧ E 4 = .slice (some ad61) (((List.replicate (d_0_0.length : Int).toNat (0 : Int))).length) c11 ∧ E 6 = .int .i64 v6_1 ∧ E 7 = .int .i64 v27_1 ∧ E 8 = .slice Al8_2 ml8_2 cl8_2 ∧ E 26 = .int .i64 (((List.replicate (d_0_0.length : Int).toNat (0 : Int))).length : Int) ∧ E 27 = .int .i64 v27_1 ∧ E 28 = .bool (decide (v27_1 < (((List.replicate (d_0_0.length : Int).toNat (0 : Int))).length : Int))) ∧ E 34 = .bool (decide (0 ≤ x59)) ∧ Cx (fun _ => False) O0 w wv [.box g4 28 [.slice Ad_0_0 d_0_0.length cd_0_0, .slice Ad_0_1 d_0_1.length cd_0_1, .int .i64 d_0_2], .ro (.sl (.int .i64)) [.slice Ad_0_0 d_0_0.length cd_0_0] d_0_0, .ro (.sl (.int .i64)) [.slice Ad_0_1 d_0_1.length cd_0_1] d_0_1, .own 3 (.int .i64) (.slice (some ad61) (((List.replicate (d_0_0.length : Int).toNat (0 : Int))).length) c11) qf15_2, .own 3 (.int .i64) (.slice Al8_2 ml8_2 cl8_2) l8_2] ∧ loopN m (F.diagram_label_b2 n d_0_1 v6_1) (l8_2, qf15_2) = some o85) n ⟨([v27_1] : List Int), (qf15_1.set v27_1.toNat v6_1), A78, (([v27_1] : List Int)).length, c79, e1, e2, e3, e4, e6, e7, rfl, e26, e27, e28, e34, hC.sel [1, 2, 3, 4, 0] (by decide), hl2⟩ ?_
 have hbK2 := hb
 clear hb hC hl2
 rintro m88 E90 w89 ⟨l8_2, qf15_2, Al8_2, ml8_2, cl8_2, e1, e2, e3, e4, e6, e7, e8, e26, e27, e28, e34, hC, hl2⟩ K87 hK87
 obtain ⟨m88', o91, rfl, hb, hl2⟩ := loopN_some hl2
 unfold F.diagram_label_b2 at hb
 obtain ⟨rfl, hll8_2, hcl8_2⟩ := (hC.ow (i := 4) rfl).sl_len
 refine Wc.seq fun K92 hK92 => ?_
 refine Wc.seq fun K93 hK93 => ?_
 refine rg ?_
 refine lp (.slice Al8_2 l8_2.length cl8_2) (pu_move e8) ?_
 refine lp (.int .i64 (l8_2.length : Int)) (pu_len (A := Al8_2) (n := l8_2.length) (m := cl8_2) Try.underlying22 rfl) ?_
 refine lp (.bool (decide (0 < (l8_2.length : Int)))) (pu_gtr (k := .i64) (a := (l8_2.length : Int)) (b := 0) rfl rfl) ?_
 refine ln ?_
 refine hK93 _ _ ?_
 refine Wc.cond (t := (decide (0 < (l8_2.length : Int)))) (rfl) (fun hq94 => ?_) (fun hq94 => ?_)
 replace hb := tt hq94 hb
 refine Wc.skip ?_
 refine hK92 _ _ ?_
 refine Wc.block ?_
 refine Wc.seq fun K95 hK95 => ?_
 refine rg ?_
 refine lp (.slice Al8_2 l8_2.length cl8_2) (pu_move e8) ?_
 obtain ⟨x96, h97, hb⟩ := bd hb
 obtain ⟨ad98, cs99, hA, hc100, hr101⟩ := hC.elo (i := 4) rfl (get_some h97).2
 subst hA
 refine lp (.pointer (some (ad98.add ((0 : Int).toNat * 1)))) (pu_index (a := 0) Try.underlying22 Try.sizeOf3 rfl rfl (get_some h97).1) ?_
 obtain ⟨rfl, hr101'⟩ := hr101
 refine lv (.int .i64 x96) (ld_one Try.isAgg3 rfl (hc100 0 _ rfl)) ?_
 refine lp (.int .i64 x96) (pu_assign rfl) ?_
 refine ln ?_
 refine hK95 _ _ ?_
 refine Wc.seq fun K102 hK102 => ?_
 refine rg ?_
 refine lp (.slice (some ad98) l8_2.length cl8_2) (pu_move e8) ?_
 obtain ⟨u103, h104, hb⟩ := bd hb
 obtain ⟨A105, c106, hp107, hl108, hc109, hC2⟩ := hC.cutl (i := 4) rfl Try.underlying22 Try.sizeOf3 (cut_some h104)
 refine lp (.slice A105 ((l8_2.drop (1 : Int).toNat).length) c106) (hp107 rfl rfl) ?_
 replace hC := hC2
 clear hC2
 refine lp (.slice A105 ((l8_2.drop (1 : Int).toNat).length) c106) (pu_assign rfl) ?_
 refine ln ?_
 refine hK102 _ _ ?_
 refine Wc.fresh fun E110 hE => ?_
 have e1 := (congrFun hE 1).trans e1
 have e2 := (congrFun hE 2).trans e2
 have e3 := (congrFun hE 3).trans e3
 have e4 := (congrFun hE 4).trans e4
 have e6 := (congrFun hE 6).trans e6
 have e7 := (congrFun hE 7).trans e7
 have e8 : E110 8 = .slice A105 ((l8_2.drop (1 : Int).toNat).length) c106 := (congrFun hE 8).trans rfl
 have e9 : E110 9 = .int .i64 x96 := (congrFun hE 9).trans rfl
 have e26 := (congrFun hE 26).trans e26
 have e27 := (congrFun hE 27).trans e27
 have e28 := (congrFun hE 28).trans e28
 have e34 := (congrFun hE 34).trans e34
 have e43 : E110 43 = .bool (decide (0 < (l8_2.length : Int))) := (congrFun hE 43).trans rfl
 clear hE
 refine Wc.seq fun K111 hK111 => ?_
 refine rg ?_
 refine lp (.int .i64 0) (pu_move rfl) ?_
 refine ln ?_
 refine hK111 _ _ ?_
 obtain ⟨o112, hl3, hb⟩ := bd hb
 refine Wc.cut (fun E wv => ∃ (l8_3 : List Int) (v49_3 : Int) (qf15_3 : List Int) (Al8_3 : Option Addr) (ml8_3 cl8_3 : Nat), E 1 = .pointer (some ⟨g4, 0, none⟩) ∧ E 2 = .slice none 0 0 ∧ E 3 = .int .i64 0 ∧ E 4 = .slice (some ad61) (((List.replicate (d_0_0.length : Int).toNat (0 : Int))).length) c11 ∧ E 6 = .int .i64 v6_1 ∧ E 7 = .int .i64 v27_1 ∧ E 8 = .slice Al8_3 ml8_3 cl8_3 ∧ E 9 = .int .i64 x96 ∧ E 26 = .int .i64 (((List.replicate (d_0_0.length : Int).toNat (0 : Int))).length : Int) ∧ E 27 = .int .i64 v27_1 ∧ E 28 = .bool (decide (v27_1 < (((List.replicate (d_0_0.length : Int).toNat (0 : Int))).length : Int))) ∧ E 34 = .bool (decide (0 ≤ x59)) ∧ E 43 = .bool (decide (0 < (l8_2.length : Int))) ∧ E 49 = .int .i64 v49_3 ∧ I64 v49_3 ∧ Cx (fun _ => False) O0 w wv [.box g4 28 [.slice Ad_0_0 d_0_0.length cd_0_0, .slice Ad_0_1 d_0_1.length cd_0_1, .int .i64 d_0_2], .ro (.sl (.int .i64)) [.slice Ad_0_0 d_0_0.length cd_0_0] d_0_0, .ro (.sl (.int .i64)) [.slice Ad_0_1 d_0_1.length cd_0_1] d_0_1, .own 3 (.int .i64) (.slice (some ad61) (((List.replicate (d_0_0.length : Int).toNat (0 : Int))).length) c11) qf15_3, .own 3 (.int .i64) (.slice Al8_3 ml8_3 cl8_3) l8_3] ∧ (some (.inl (l8_3, qf15_3)) : Option (((List Int) × (List Int)) ⊕ (((List Int) × (List Int))))) = some o91) (fun K113 hK113 => ?_) ?_
 refine Wc.block ?_
 refine Wc.loop (fun m E wv => ∃ (l8_3 : List Int) (v49_3 : Int) (qf15_3 : List Int) (Al8_3 : Option Addr) (ml8_3 cl8_3 : Nat), E 1 = .pointer (some ⟨g4, 0, none⟩) ∧ E 2 = .slice none 0 0 ∧ E 3 = .int .i64 0 ∧ E 4 = .slice (some ad61) (((List.replicate (d_0_0.length : Int).toNat (0 : Int))).length) c11 ∧ E 6 = .int .i64 v6_1 ∧ E 7 = .int .i64 v27_1 ∧ E 8 = .slice Al8_3 ml8_3 cl8_3 ∧ E 9 = .int .i64 x96 ∧ E 26 = .int .i64 (((List.replicate (d_0_0.length : Int).toNat (0 : Int))).length : Int) ∧ E 27 = .int .i64 v27_1 ∧ E 28 = .bool (decide (v27_1 < (((List.replicate (d_0_0.length : Int).toNat (0 : Int))).length : Int))) ∧ E 34 = .bool (decide (0 ≤ x59)) ∧ E 43 = .bool (decide (0 < (l8_2.length : Int))) ∧ E 49 = .int .i64 v49_3 ∧ I64 v49_3 ∧ Cx (fun _ => False) O0 w wv [.box g4 28 [.slice Ad_0_0 d_0_0.length cd_0_0, .slice Ad_0_1 d_0_1.length cd_0_1, .int .i64 d_0_2], .ro (.sl (.int .i64)) [.slice Ad_0_0 d_0_0.length cd_0_0] d_0_0, .ro (.sl (.int .i64)) [.slice Ad_0_1 d_0_1.length cd_0_1] d_0_1, .own 3 (.int .i64) (.slice (some ad61) (((List.replicate (d_0_0.length : Int).toNat (0 : Int))).length) c11) qf15_3, .own 3 (.int .i64) (.slice Al8_3 ml8_3 cl8_3) l8_3] ∧ loopN m (F.diagram_label_b3 n d_0_1 v6_1 x96) (l8_3, v49_3, qf15_3) = some o112) n ⟨(l8_2.drop (1 : Int).toNat), 0, qf15_2, A105, (l8_2.drop (1 : Int).toNat).length, c106, e1, e2, e3, e4, e6, e7, e8, e9, e26, e27, e28, e34, e43, rfl, (show I64 0 from by unfold I64; omega), hC.sel [0, 1, 2, 3, 4] (by decide), hl3⟩ ?_
 have hbK3 := hb
 clear hb hC hl3
 rintro m115 E117 w116 ⟨l8_3, v49_3, qf15_3, Al8_3, ml8_3, cl8_3, e1, e2, e3, e4, e6, e7, e8, e9, e26, e27, e28, e34, e43, e49, hrv49_3, hC, hl3⟩ K114 hK114
 obtain ⟨m115', o118, rfl, hb, hl3⟩ := loopN_some hl3
 unfold F.diagram_label_b3 at hb
 obtain ⟨rfl, hll8_3, hcl8_3⟩ := (hC.ow (i := 4) rfl).sl_len
 refine Wc.seq fun K119 hK119 => ?_
 refine rg ?_
 refine lp (.bool (decide (v49_3 < 4))) (pu_lss (k := .i64) (a := v49_3) (b := 4) e49 rfl) ?_
 refine ln ?_
 refine hK119 _ _ ?_
 refine Wc.seq fun K120 hK120 => ?_
 refine Wc.cond (t := (decide (v49_3 < 4))) (rfl) (fun hq121 => ?_) (fun hq121 => ?_)
 replace hb := tt hq121 hb
 refine Wc.skip ?_
 refine hK120 _ _ ?_
 refine Wc.seq fun K122 hK122 => ?_
 refine Wc.block ?_
 refine Wc.seq fun K123 hK123 => ?_
 refine rg ?_
 refine lp (.int .i64 v49_3) (pu_move e49) ?_
 refine lp (.int .i64 v49_3) (pu_assign rfl) ?_
 refine ln ?_
 refine hK123 _ _ ?_
 refine Wc.seq fun K124 hK124 => ?_
 refine rg ?_
 refine lp (.pointer (some ((⟨g4, 0, none⟩ : Addr).add 1))) (pu_field (sz := 1) Try.underlying28 rfl Try.sizeOf22 (by decide) rfl e1) ?_
 refine lv (.slice Ad_0_1 d_0_1.length cd_0_1) (ld_fld (hC.bx (i := 0) rfl) Try.isAgg22 rfl rfl) ?_
 refine lp (.int .i64 x96) (pu_move e9) ?_
 obtain ⟨z125, h126, hb⟩ := bd hb
 refine lp (.int .i64 z125) (pu_mulc (a := 4) (b := x96) rfl rfl h126) ?_
 refine lp (.int .i64 v49_3) (pu_move rfl) ?_
 obtain ⟨z127, h128, hb⟩ := bd hb
 refine lp (.int .i64 z127) (pu_addc (a := z125) (b := v49_3) rfl rfl h128) ?_
 obtain ⟨x129, h130, hb⟩ := bd hb
 obtain ⟨ad131, cs132, hA, hc133, hr134⟩ := hC.elr (i := 2) rfl (get_some h130).2
 subst hA
 refine lp (.pointer (some (ad131.add (z127.toNat * 1)))) (pu_index (a := z127) Try.underlying22 Try.sizeOf3 rfl rfl (get_some h130).1) ?_
 obtain ⟨rfl, hr134'⟩ := hr134
 refine lv (.int .i64 x129) (ld_one Try.isAgg3 rfl (hc133 0 _ rfl)) ?_
 obtain ⟨u135, h136, hb⟩ := bd hb
 obtain ⟨z137, h138, hb⟩ := bd hb
 refine lp (.int .i64 z137) (pu_quoc (a := x129) (b := 4) rfl rfl h136 h138) ?_
 refine lp (.int .i64 z137) (pu_assign rfl) ?_
 refine ln ?_
 refine hK124 _ _ ?_
 refine Wc.fresh fun E139 hE => ?_
 have e1 := (congrFun hE 1).trans e1
 have e2 := (congrFun hE 2).trans e2
 have e3 := (congrFun hE 3).trans e3
 have e4 := (congrFun hE 4).trans e4
 have e6 := (congrFun hE 6).trans e6
 have e7 := (congrFun hE 7).trans e7
 have e8 := (congrFun hE 8).trans e8
 have e9 := (congrFun hE 9).trans e9
 have e10 : E139 10 = .int .i64 v49_3 := (congrFun hE 10).trans rfl
 have e11 : E139 11 = .int .i64 z137 := (congrFun hE 11).trans rfl
 have e26 := (congrFun hE 26).trans e26
 have e27 := (congrFun hE 27).trans e27
 have e28 := (congrFun hE 28).trans e28
 have e34 := (congrFun hE 34).trans e34
 have e43 := (congrFun hE 43).trans e43
 have e49 := (congrFun hE 49).trans e49
 have e50 : E139 50 = .bool (decide (v49_3 < 4)) := (congrFun hE 50).trans rfl
 clear hE
 refine Wc.seq fun K140 hK140 => ?_
 refine rg ?_
 refine lp (.slice (some ad61) (((List.replicate (d_0_0.length : Int).toNat (0 : Int))).length) c11) (pu_move e4) ?_
 refine lp (.int .i64 z137) (pu_move e11) ?_
 obtain ⟨x141, h142, hb⟩ := bd hb
 obtain ⟨ad143, cs144, hA, hc145, hr146⟩ := hC.elo (i := 3) rfl (get_some h142).2
 obtain rfl := Option.some.inj hA
 refine lp (.pointer (some (ad61.add (z137.toNat * 1)))) (pu_index (a := z137) Try.underlying22 Try.sizeOf3 rfl rfl (by rw [(hC.ow (i := 3) rfl).sl_len.1]; exact (get_some h142).1)) ?_
 obtain ⟨rfl, hr146'⟩ := hr146
 refine lv (.int .i64 x141) (ld_one Try.isAgg3 rfl (hc145 0 _ rfl)) ?_
 refine lp (.bool (decide (x141 < 0))) (pu_lss (k := .i64) (a := x141) (b := 0) rfl rfl) ?_
 refine ln ?_
 refine hK140 _ _ ?_
 refine Wc.cond (t := (decide (x141 < 0))) (rfl) (fun hq147 => ?_) (fun hq147 => ?_)
 replace hb := tt hq147 hb
 refine Wc.seq fun K148 hK148 => ?_
 refine rg ?_
 refine lp (.slice (some ad61) (((List.replicate (d_0_0.length : Int).toNat (0 : Int))).length) c11) (pu_move e4) ?_
 refine lp (.int .i64 z137) (pu_move e11) ?_
 refine lp (.int .i64 v6_1) (pu_move e6) ?_
 obtain ⟨x149, h150, hb⟩ := bd hb
 obtain ⟨ad151, cs152, hA, hc153, hr154⟩ := hC.elo (i := 3) rfl (get_some h150).2
 obtain rfl := Option.some.inj hA
 refine lp (.pointer (some (ad61.add (z137.toNat * 1)))) (pu_index (a := z137) Try.underlying22 Try.sizeOf3 rfl rfl (by rw [(hC.ow (i := 3) rfl).sl_len.1]; exact (get_some h150).1)) ?_
 refine lex.sk (hC.put (i := 3) rfl rfl Try.sizeOf3 (k := z137.toNat) (a := v6_1) (by have := (get_some h150).1; simp at this ⊢; omega) (⟨rfl, I64.wr hrv6_1⟩) rfl rfl rfl) ?_
 rintro w155 ⟨hC, hF⟩
 refine ln ?_
 refine hK148 _ _ ?_
 refine rg ?_
 refine lp (.slice Al8_3 l8_3.length cl8_3) (pu_move e8) ?_
 refine lp (.int .i64 z137) (pu_move e11) ?_
 refine lex.op (hC.lit (s := (.int .i64)) (vs := [.int .i64 z137]) (xs := [z137]) Try.underlying22 Try.type3 rfl rfl (Nat.le_of_ble_eq_true rfl) rfl rfl (by simp [Value.cells, Sh.n]) rfl (show Elems _ _ (.int .i64) ([.int .i64 z137] ++ ([])) ([z137] : List Int) from Elems.cons (⟨rfl, I64.wr (chk_rng h138)⟩) (Elems.nil _ _ _))) ?_
 rintro _ w160 ⟨A156, c157, rfl, hl158, hc159, hC, hF, hN⟩
 clear hF hN
 obtain ⟨u162, h163, hb⟩ := bd hb
 refine lex.op (hC.app (i := 5) (s := (.int .i64)) (xs := l8_3) (ys := ([z137] : List Int)) (m := ((([z137] : List Int)).length)) rfl Try.underlying22 Try.underlying22 Try.type3 rfl rfl rfl (hC.srco (i := 0) rfl) rfl rfl (by have := lim_some h163; simp at this ⊢ <;> omega) (by decide)) ?_
 rintro _ w168 ⟨A164, c165, rfl, hl166, hc167, hC, hF, hN⟩
 clear hF hN
 refine lp (.slice A164 ((l8_3 ++ ([z137] : List Int)).length) c165) (pu_assign rfl) ?_
 refine ln ?_
 refine hK122 _ _ ?_
 refine rg ?_
 obtain ⟨z169, h170, hb⟩ := bd hb
 refine lp (.int .i64 z169) (pu_addc (a := v49_3) (b := 1) e49 rfl h170) ?_
 refine lp (.int .i64 z169) (pu_move rfl) ?_
 refine ln ?_
 obtain rfl := os hb
 exact hK114 m115' _ _ (Nat.lt_succ_self _) ⟨(l8_3 ++ ([z137] : List Int)), z169, (qf15_3.set z137.toNat v6_1), A164, (l8_3 ++ ([z137] : List Int)).length, c165, e1, e2, e3, e4, e6, e7, rfl, e9, e26, e27, e28, e34, e43, rfl, (chk_rng h170), hC.sel [1, 2, 3, 4, 5] (by decide), lN hl3⟩
 replace hb := tf hq147 hb
 refine Wc.skip ?_
 refine hK122 _ _ ?_
 refine rg ?_
 obtain ⟨z171, h172, hb⟩ := bd hb
 refine lp (.int .i64 z171) (pu_addc (a := v49_3) (b := 1) e49 rfl h172) ?_
 refine lp (.int .i64 z171) (pu_move rfl) ?_
 refine ln ?_
 obtain rfl := os hb
 exact hK114 m115' _ _ (Nat.lt_succ_self _) ⟨l8_3, z171, qf15_3, Al8_3, l8_3.length, cl8_3, e1, e2, e3, e4, e6, e7, e8, e9, e26, e27, e28, e34, e43, rfl, (chk_rng h172), hC.sel [0, 1, 2, 3, 4] (by decide), lN hl3⟩
 replace hb := tf hq121 hb
 refine Wc.exit rfl ?_
 obtain rfl := os hb
 obtain rfl := (lX hl3).symm
 exact hK113 _ _ ⟨l8_3, v49_3, qf15_3, Al8_3, l8_3.length, cl8_3, e1, e2, e3, e4, e6, e7, e8, e9, e26, e27, e28, e34, e43, e49, hrv49_3, hC.sel [0, 1, 2, 3, 4] (by decide), hbK3⟩
 clear hb hC hl3
 rintro E174 w173 ⟨l8_3, v49_3, qf15_3, Al8_3, ml8_3, cl8_3, e1, e2, e3, e4, e6, e7, e8, e9, e26, e27, e28, e34, e43, e49, hrv49_3, hC, hb⟩
 obtain ⟨rfl, hll8_3, hcl8_3⟩ := (hC.ow (i := 4) rfl).sl_len
 obtain rfl := os hb
 exact hK87 m88' _ _ (Nat.lt_succ_self _) ⟨l8_3, qf15_3, Al8_3, l8_3.length, cl8_3, e1, e2, e3, e4, e6, e7, e8, e26, e27, e28, e34, hC.sel [0, 1, 2, 3, 4] (by decide), lN hl2⟩
 replace hb := tf hq94 hb
 refine Wc.exit rfl ?_
 obtain rfl := os hb
 obtain rfl := (lX hl2).symm
 exact hK86 _ _ ⟨l8_2, qf15_2, Al8_2, l8_2.length, cl8_2, e1, e2, e3, e4, e6, e7, e8, e26, e27, e28, e34, hC.sel [0, 1, 2, 3, 4] (by decide), hbK2⟩
 clear hb hC hl2
 rintro E176 w175 ⟨l8_2, qf15_2, Al8_2, ml8_2, cl8_2, e1, e2, e3, e4, e6, e7, e8, e26, e27, e28, e34, hC, hb⟩
 obtain ⟨rfl, hll8_2, hcl8_2⟩ := (hC.ow (i := 4) rfl).sl_len
 refine hK84 _ _ ?_
 refine rg ?_
 refine lp (.int .i64 v6_1) (pu_move e6) ?_
 obtain ⟨z177, h178, hb⟩ := bd hb
 refine lp (.int .i64 z177) (pu_addc (a := v6_1) (b := 1) rfl rfl h178) ?_
 refine lp (.int .i64 z177) (pu_assign rfl) ?_
 refine ln ?_
 refine hK55 _ _ ?_
 refine rg ?_
 obtain ⟨z179, h180, hb⟩ := bd hb
 refine lp (.int .i64 z179) (pu_addc (a := v27_1) (b := 1) e27 rfl h180) ?_
 refine lp (.int .i64 z179) (pu_move rfl) ?_
 refine ln ?_
 obtain rfl := os hb
 exact hK47 m48' _ _ (Nat.lt_succ_self _) ⟨z177, z179, qf15_2, e1, e2, e3, e4, rfl, e26, rfl, (chk_rng h178), (chk_rng h180), hC.sel [0, 1, 2, 3] (by decide), lN hl1⟩
 replace hb := tf hq54 hb
 refine Wc.exit rfl ?_
 obtain rfl := os hb
 obtain rfl := (lX hl1).symm
 exact hK46 _ _ ⟨v6_1, v27_1, qf15_1, e2, e3, e4, e6, hrv6_1, hrv27_1, hC.sel [3] (by decide), hbK1⟩
 clear hb hC hl1
 rintro E182 w181 ⟨v6_1, v27_1, qf15_1, e2, e3, e4, e6, hrv6_1, hrv27_1, hC, hb⟩
 refine hK43 _ _ ?_
 refine Wc.seq fun K183 hK183 => ?_
 refine rg ?_
 refine lp (.slice A10 (((List.replicate (d_0_0.length : Int).toNat (0 : Int))).length) c11) (pu_move e4) ?_
 refine lp (.int .i64 v6_1) (pu_move e6) ?_
 refine lp (.slice A10 (((List.replicate (d_0_0.length : Int).toNat (0 : Int))).length) c11) (pu_assign rfl) ?_
 refine lp (.int .i64 v6_1) (pu_assign rfl) ?_
 refine ln ?_
 refine hK183 _ _ ?_
 obtain rfl := os hb
 refine Wc.ret ?_
 refine hKR _ _ ?_
 refine ⟨_, res2 Try.results74 (show RV _ _ _ (.tmp _) (.slice A10 (((List.replicate (d_0_0.length : Int).toNat (0 : Int))).length) c11) from rfl) (show RV _ _ _ (.tmp _) (.int .i64 v6_1) from rfl), _, rfl, A10, ((List.replicate (d_0_0.length : Int).toNat (0 : Int))).length, c11, rfl, hrv6_1, hC.sel [0] (by decide)⟩

set_option maxRecDepth 100000 in
set_option maxHeartbeats 4000000 in
theorem diagram_Turn_ok (n : Nat) {w : World} {O0 : List Nat} (hO : ∀ k ∈ O0, k < w.heap.size) {h_0 : Int} (hh_0 : I64 h_0) {by_1 : Int} (hby_1 : I64 by_1) {r : Int} (hb : F.diagram_Turn n h_0 by_1 = some r) :
    Calls Try.prog 75 #[.int .i64 h_0, .int .i64 by_1] w fun e w' => ∃ v, e = .returned v ∧ v = .int .i64 r ∧ I64 r ∧ Cx (fun _ => False) O0 w w' [] := by
 unfold F.diagram_Turn at hb
 have hC := Cx.start hO
 clear hO
 refine calls_of_Wc Try.func75 rfl (by rw [Try.ntmps75]; exact Nat.le_of_ble_eq_true rfl) fun KR hKR => ?_
 refine Wc.seq fun K1 hK1 => ?_
 refine rg ?_
 refine lp (.int .i64 0) (pu_assign rfl) ?_
 refine ln ?_
 refine hK1 _ _ ?_
 refine Wc.seq fun K2 hK2 => ?_
 refine Wc.seq fun K3 hK3 => ?_
 refine rg ?_
 refine lp (.int .i64 h_0) (pu_move rfl) ?_
 refine lp (.bool (decide (h_0 < 0))) (pu_lss (k := .i64) (a := h_0) (b := 0) rfl rfl) ?_
 refine ln ?_
 refine hK3 _ _ ?_
 refine Wc.cond (t := (decide (h_0 < 0))) (rfl) (fun hq4 => ?_) (fun hq4 => ?_)
 replace hb := tt hq4 hb
 refine Wc.seq fun K5 hK5 => ?_
 refine rg ?_
 refine lp (.int .i64 (-1)) (pu_assign rfl) ?_
 refine ln ?_
 refine hK5 _ _ ?_
 obtain rfl := os hb
 refine Wc.ret ?_
 refine hKR _ _ ?_
 refine ⟨_, res1 Try.results75 (show RV _ _ _ (.tmp _) (.int .i64 (-1)) from rfl), _, rfl, rfl, (show I64 (-1) from by unfold I64; omega), hC.sel [] (by decide)⟩
 replace hb := tf hq4 hb
 refine Wc.skip ?_
 refine hK2 _ _ ?_
 refine Wc.seq fun K6 hK6 => ?_
 refine rg ?_
 refine lp (.int .i64 h_0) (pu_move rfl) ?_
 refine lp (.int .i64 h_0) (pu_move rfl) ?_
 obtain ⟨u7, h8, hb⟩ := bd hb
 refine lp (.int .i64 (Int.tmod h_0 4)) (pu_remc (a := h_0) (b := 4) rfl rfl h8) ?_
 obtain ⟨z9, h10, hb⟩ := bd hb
 refine lp (.int .i64 z9) (pu_subc (a := h_0) (b := (Int.tmod h_0 4)) rfl rfl h10) ?_
 refine lp (.int .i64 h_0) (pu_move rfl) ?_
 obtain ⟨u11, h12, hb⟩ := bd hb
 refine lp (.int .i64 (Int.tmod h_0 4)) (pu_remc (a := h_0) (b := 4) rfl rfl h12) ?_
 refine lp (.int .i64 by_1) (pu_move rfl) ?_
 obtain ⟨u13, h14, hb⟩ := bd hb
 refine lp (.int .i64 (Int.tmod by_1 4)) (pu_remc (a := by_1) (b := 4) rfl rfl h14) ?_
 obtain ⟨z15, h16, hb⟩ := bd hb
 refine lp (.int .i64 z15) (pu_addc (a := (Int.tmod h_0 4)) (b := (Int.tmod by_1 4)) rfl rfl h16) ?_
 obtain ⟨z17, h18, hb⟩ := bd hb
 refine lp (.int .i64 z17) (pu_addc (a := z15) (b := 4) rfl rfl h18) ?_
 obtain ⟨u19, h20, hb⟩ := bd hb
 refine lp (.int .i64 (Int.tmod z17 4)) (pu_remc (a := z17) (b := 4) rfl rfl h20) ?_
 obtain ⟨z21, h22, hb⟩ := bd hb
 refine lp (.int .i64 z21) (pu_addc (a := z9) (b := (Int.tmod z17 4)) rfl rfl h22) ?_
 refine lp (.int .i64 z21) (pu_assign rfl) ?_
 refine ln ?_
 refine hK6 _ _ ?_
 obtain rfl := os hb
 refine Wc.ret ?_
 refine hKR _ _ ?_
 refine ⟨_, res1 Try.results75 (show RV _ _ _ (.tmp _) (.int .i64 z21) from rfl), _, rfl, rfl, (chk_rng h22), hC.sel [] (by decide)⟩

set_option maxRecDepth 100000 in
set_option maxHeartbeats 4000000 in
theorem diagram_spherical_ok (n : Nat) {w : World} {O0 : List Nat} (hO : ∀ k ∈ O0, k < w.heap.size) {Ad_0_0 : Option Addr} {md_0_0 cd_0_0 : Nat} {d_0_0 : List Int} (hd_0_0 : Rep O0 w (.sl (.int .i64)) [.slice Ad_0_0 md_0_0 cd_0_0] d_0_0) {Ad_0_1 : Option Addr} {md_0_1 cd_0_1 : Nat} {d_0_1 : List Int} (hd_0_1 : Rep O0 w (.sl (.int .i64)) [.slice Ad_0_1 md_0_1 cd_0_1] d_0_1) {d_0_2 : Int} (hd_0_2 : I64 d_0_2) {r : Bool} (hb : F.diagram_spherical n d_0_0 d_0_1 d_0_2 = some r) :
    Calls Try.prog 53 #[.agg #[.slice Ad_0_0 md_0_0 cd_0_0, .slice Ad_0_1 md_0_1 cd_0_1, .int .i64 d_0_2]] w fun e w' => ∃ v, e = .returned v ∧ v = .bool r ∧ Cx (fun _ => False) O0 w w' [] := by
 unfold F.diagram_spherical at hb
 have hC := Cx.start hO
 replace hC := hC.arg rfl hd_0_0
 replace hC := hC.arg rfl hd_0_1
 clear hO
 obtain ⟨rfl, hld_0_0, hcd_0_0⟩ := hd_0_0.sl_len
 obtain ⟨rfl, hld_0_1, hcd_0_1⟩ := hd_0_1.sl_len
 refine calls_of_Wc Try.func53 rfl (by rw [Try.ntmps53]; exact Nat.le_of_ble_eq_true rfl) fun KR hKR => ?_
 refine Wc.seq fun K3 hK3 => ?_
 refine rg ?_
 refine lex.op (hC.box (cs := [.slice Ad_0_0 d_0_0.length cd_0_0, .slice Ad_0_1 d_0_1.length cd_0_1, .int .i64 d_0_2]) rfl rfl) ?_
 rintro _ w5 ⟨g4, rfl, hC, hF, hG⟩
 clear hG
 refine lp (.bool false) (pu_assign rfl) ?_
 refine ln ?_
 refine hK3 _ _ ?_
 refine Wc.seq fun K7 hK7 => ?_
 refine rg ?_
 refine lv (.agg #[.slice Ad_0_0 d_0_0.length cd_0_0, .slice Ad_0_1 d_0_1.length cd_0_1, .int .i64 d_0_2]) (ld_blk (hC.bx (i := 0) rfl) Try.isAgg28 Try.sizeOf28 rfl) ?_
 obtain ⟨y8, h9, hb⟩ := bd hb
 refine lex.cl (⟨_, _, op_call (vs := [.agg #[.slice Ad_0_0 d_0_0.length cd_0_0, .slice Ad_0_1 d_0_1.length cd_0_1, .int .i64 d_0_2]]) Try.call74 rfl rfl rfl, diagram_label_ok n hC.lt (hC.rd (i := 2) rfl) (hC.rd (i := 1) rfl) hd_0_2 h9⟩) ?_
 rintro _ w15 ⟨A10, m11, c12, rfl, hr14, hK⟩
 replace hC := hC.merge hK
 clear hK
 obtain ⟨rfl, hl16, hc17⟩ := (hC.ow (i := 0) rfl).sl_len
 refine lp (.tuple #[.slice A10 y8.1.length c12, .int .i64 y8.2]) (pu_move rfl) ?_
 refine lp (.slice A10 y8.1.length c12) (pu_extract rfl rfl) ?_
 refine lp (.int .i64 y8.2) (pu_extract rfl rfl) ?_
 refine lp (.slice A10 y8.1.length c12) (pu_assign rfl) ?_
 refine lp (.int .i64 y8.2) (pu_assign rfl) ?_
 refine ln ?_
 refine hK7 _ _ ?_
 refine Wc.seq fun K18 hK18 => ?_
 refine rg ?_
 refine lp (.int .i64 y8.2) (pu_move rfl) ?_
 obtain ⟨u19, h20, hb⟩ := bd hb
 refine lex.op (hC.make (s := (.int .i64)) (n := y8.2) Try.underlying22 Try.type3 rfl rfl rfl rfl rfl (pos_some h20).1 (pos_some h20).2 (by decide)) ?_
 rintro _ w25 ⟨A21, c22, rfl, hl23, hc24, hC, hF, hN⟩
 clear hF hN
 refine lp (.slice A21 (((List.replicate y8.2.toNat (0 : Int))).length) c22) (pu_assign rfl) ?_
 refine ln ?_
 refine hK18 _ _ ?_
 refine Wc.fresh fun E27 hE => ?_
 have e1 : E27 1 = .pointer (some ⟨g4, 0, none⟩) := (congrFun hE 1).trans rfl
 have e2 : E27 2 = .bool false := (congrFun hE 2).trans rfl
 have e3 : E27 3 = .slice A10 y8.1.length c12 := (congrFun hE 3).trans rfl
 have e5 : E27 5 = .slice A21 (((List.replicate y8.2.toNat (0 : Int))).length) c22 := (congrFun hE 5).trans rfl
 clear hE
 refine Wc.seq fun K28 hK28 => ?_
 refine Wc.seq fun K29 hK29 => ?_
 refine rg ?_
 refine lp (.slice A10 y8.1.length c12) (pu_move e3) ?_
 refine lp (.int .i64 (y8.1.length : Int)) (pu_len (A := A10) (n := y8.1.length) (m := c12) Try.underlying22 rfl) ?_
 refine lp (.int .i64 0) (pu_move rfl) ?_
 refine ln ?_
 refine hK29 _ _ ?_
 obtain ⟨o30, hl0, hb⟩ := bd hb
 refine Wc.cut (fun E wv => ∃ (v22_0 : Int) (qf26_0 : List Int), E 1 = .pointer (some ⟨g4, 0, none⟩) ∧ E 2 = .bool false ∧ E 3 = .slice A10 y8.1.length c12 ∧ E 5 = .slice A21 (((List.replicate y8.2.toNat (0 : Int))).length) c22 ∧ I64 v22_0 ∧ Cx (fun _ => False) O0 w wv [.box g4 28 [.slice Ad_0_0 d_0_0.length cd_0_0, .slice Ad_0_1 d_0_1.length cd_0_1, .int .i64 d_0_2], .ro (.sl (.int .i64)) [.slice Ad_0_0 d_0_0.length cd_0_0] d_0_0, .ro (.sl (.int .i64)) [.slice Ad_0_1 d_0_1.length cd_0_1] d_0_1, .own 3 (.int .i64) (.slice A10 y8.1.length c12) y8.1, .own 3 (.int .i64) (.slice A21 (((List.replicate y8.2.toNat (0 : Int))).length) c22) qf26_0] ∧ ((pos (d_0_1.length : Int)).bind fun u68 => ((loopN n (F.diagram_spherical_b1 n d_0_1 y8) (0, qf26_0, (List.replicate (d_0_1.length : Int).toNat false))).bind fun o78 => match o78 with     | (v40_1, qf26_1, qf75_1) => ((loopN n (F.diagram_spherical_b3 n y8 qf26_1) 0).bind fun o171 => match o171 with     | (.inl v75_3) => some true     | (.inr q) => some q)) : Option (Bool)) = some r) (fun K31 hK31 => ?_) ?_
 refine Wc.block ?_
 refine Wc.loop (fun m E wv => ∃ (v22_0 : Int) (qf26_0 : List Int), E 1 = .pointer (some ⟨g4, 0, none⟩) ∧ E 2 = .bool false ∧ E 3 = .slice A10 y8.1.length c12 ∧ E 5 = .slice A21 (((List.replicate y8.2.toNat (0 : Int))).length) c22 ∧ E 20 = .slice A10 y8.1.length c12 ∧ E 21 = .int .i64 (y8.1.length : Int) ∧ E 22 = .int .i64 v22_0 ∧ I64 v22_0 ∧ Cx (fun _ => False) O0 w wv [.box g4 28 [.slice Ad_0_0 d_0_0.length cd_0_0, .slice Ad_0_1 d_0_1.length cd_0_1, .int .i64 d_0_2], .ro (.sl (.int .i64)) [.slice Ad_0_0 d_0_0.length cd_0_0] d_0_0, .ro (.sl (.int .i64)) [.slice Ad_0_1 d_0_1.length cd_0_1] d_0_1, .own 3 (.int .i64) (.slice A10 y8.1.length c12) y8.1, .own 3 (.int .i64) (.slice A21 (((List.replicate y8.2.toNat (0 : Int))).length) c22) qf26_0] ∧ loopN m (F.diagram_spherical_b0 n y8) (v22_0, qf26_0) = some o30) n ⟨0, (List.replicate y8.2.toNat (0 : Int)), e1, e2, e3, e5, rfl, rfl, rfl, (show I64 0 from by unfold I64; omega), hC.sel [2, 4, 3, 1, 0] (by decide), hl0⟩ ?_
 have hbK0 := hb
 clear hb hC hl0
 rintro m33 E35 w34 ⟨v22_0, qf26_0, e1, e2, e3, e5, e20, e21, e22, hrv22_0, hC, hl0⟩ K32 hK32
 obtain ⟨m33', o36, rfl, hb, hl0⟩ := loopN_some hl0
 unfold F.diagram_spherical_b0 at hb
 refine Wc.seq fun K37 hK37 => ?_
 refine rg ?_
 refine lp (.bool (decide (v22_0 < (y8.1.length : Int)))) (pu_lss (k := .i64) (a := v22_0) (b := (y8.1.length : Int)) e22 e21) ?_
 refine ln ?_
 refine hK37 _ _ ?_
 refine Wc.seq fun K38 hK38 => ?_
 refine Wc.cond (t := (decide (v22_0 < (y8.1.length : Int)))) (rfl) (fun hq39 => ?_) (fun hq39 => ?_)
 replace hb := tt hq39 hb
 refine Wc.skip ?_
 refine hK38 _ _ ?_
 refine Wc.seq fun K40 hK40 => ?_
 refine Wc.block ?_
 refine Wc.seq fun K41 hK41 => ?_
 refine rg ?_
 obtain ⟨x42, h43, hb⟩ := bd hb
 obtain ⟨ad44, cs45, hA, hc46, hr47⟩ := hC.elo (i := 3) rfl (get_some h43).2
 subst hA
 refine lp (.pointer (some (ad44.add (v22_0.toNat * 1)))) (pu_index (a := v22_0) Try.underlying22 Try.sizeOf3 e20 e22 (get_some h43).1) ?_
 obtain ⟨rfl, hr47'⟩ := hr47
 refine lv (.int .i64 x42) (ld_one Try.isAgg3 rfl (hc46 0 _ rfl)) ?_
 refine lp (.int .i64 x42) (pu_assign rfl) ?_
 refine ln ?_
 refine hK41 _ _ ?_
 refine rg ?_
 refine lp (.slice A21 (((List.replicate y8.2.toNat (0 : Int))).length) c22) (pu_move e5) ?_
 refine lp (.int .i64 x42) (pu_move rfl) ?_
 obtain ⟨x48, h49, hb⟩ := bd hb
 obtain ⟨ad50, cs51, hA, hc52, hr53⟩ := hC.elo (i := 4) rfl (get_some h49).2
 subst hA
 refine lp (.pointer (some (ad50.add (x42.toNat * 1)))) (pu_index (a := x42) Try.underlying22 Try.sizeOf3 rfl rfl (by rw [(hC.ow (i := 4) rfl).sl_len.1]; exact (get_some h49).1)) ?_
 obtain ⟨rfl, hr53'⟩ := hr53
 refine lv (.int .i64 x48) (ld_one Try.isAgg3 rfl (hc52 0 _ rfl)) ?_
 obtain ⟨z54, h55, hb⟩ := bd hb
 refine lp (.int .i64 z54) (pu_subc (a := x48) (b := 1) rfl rfl h55) ?_
 obtain ⟨x56, h57, hb⟩ := bd hb
 obtain ⟨ad58, cs59, hA, hc60, hr61⟩ := hC.elo (i := 4) rfl (get_some h57).2
 obtain rfl := Option.some.inj hA
 refine lp (.pointer (some (ad50.add (x42.toNat * 1)))) (pu_index (a := x42) Try.underlying22 Try.sizeOf3 rfl rfl (by rw [(hC.ow (i := 4) rfl).sl_len.1]; exact (get_some h57).1)) ?_
 refine lex.sk (hC.put (i := 4) rfl rfl Try.sizeOf3 (k := x42.toNat) (a := z54) (by have := (get_some h57).1; simp at this ⊢; omega) (⟨rfl, I64.wr (chk_rng h55)⟩) rfl rfl rfl) ?_
 rintro w62 ⟨hC, hF⟩
 refine ln ?_
 refine hK40 _ _ ?_
 refine rg ?_
 obtain ⟨z63, h64, hb⟩ := bd hb
 refine lp (.int .i64 z63) (pu_addc (a := v22_0) (b := 1) e22 rfl h64) ?_
 refine lp (.int .i64 z63) (pu_move rfl) ?_
 refine ln ?_
 obtain rfl := os hb
 exact hK32 m33' _ _ (Nat.lt_succ_self _) ⟨z63, (qf26_0.set x42.toNat z54), e1, e2, e3, e5, e20, e21, rfl, (chk_rng h64), hC.sel [0, 1, 2, 3, 4] (by decide), lN hl0⟩
 replace hb := tf hq39 hb
 refine Wc.exit rfl ?_
 obtain rfl := os hb
 obtain rfl := (lX hl0).symm
 exact hK31 _ _ ⟨v22_0, qf26_0, e1, e2, e3, e5, hrv22_0, hC.sel [0, 1, 2, 3, 4] (by decide), hbK0⟩
 clear hb hC hl0
 rintro E66 w65 ⟨v22_0, qf26_0, e1, e2, e3, e5, hrv22_0, hC, hb⟩
 refine hK28 _ _ ?_
 refine Wc.seq fun K67 hK67 => ?_
 refine rg ?_
 refine lp (.pointer (some ((⟨g4, 0, none⟩ : Addr).add 1))) (pu_field (sz := 1) Try.underlying28 rfl Try.sizeOf22 (by decide) rfl e1) ?_
 refine lv (.slice Ad_0_1 d_0_1.length cd_0_1) (ld_fld (hC.bx (i := 0) rfl) Try.isAgg22 rfl rfl) ?_
 refine lp (.int .i64 (d_0_1.length : Int)) (pu_len (A := Ad_0_1) (n := d_0_1.length) (m := cd_0_1) Try.underlying22 rfl) ?_
 obtain ⟨u68, h69, hb⟩ := bd hb
 refine lex.op (hC.make (s := .bool) (n := (d_0_1.length : Int)) Try.underlying55 Try.type4 rfl rfl rfl rfl rfl (pos_some h69).1 (pos_some h69).2 (by decide)) ?_
 rintro _ w74 ⟨A70, c71, rfl, hl72, hc73, hC, hF, hN⟩
 clear hF hN
 refine lp (.slice A70 (((List.replicate (d_0_1.length : Int).toNat false)).length) c71) (pu_assign rfl) ?_
 refine ln ?_
 refine hK67 _ _ ?_
 refine Wc.seq fun K76 hK76 => ?_
 refine Wc.seq fun K77 hK77 => ?_
 refine rg ?_
 refine lp (.pointer (some ((⟨g4, 0, none⟩ : Addr).add 1))) (pu_field (sz := 1) Try.underlying28 rfl Try.sizeOf22 (by decide) rfl e1) ?_
 refine lv (.slice Ad_0_1 d_0_1.length cd_0_1) (ld_fld (hC.bx (i := 1) rfl) Try.isAgg22 rfl rfl) ?_
 refine lp (.int .i64 (d_0_1.length : Int)) (pu_len (A := Ad_0_1) (n := d_0_1.length) (m := cd_0_1) Try.underlying22 rfl) ?_
 refine lp (.int .i64 0) (pu_move rfl) ?_
 refine ln ?_
 refine hK77 _ _ ?_
 obtain ⟨o78, hl1, hb⟩ := bd hb
 refine Wc.cut (fun E wv => ∃ (v40_1 : Int) (qf26_1 : List Int) (qf75_1 : List Bool), E 2 = .bool false ∧ E 5 = .slice A21 (((List.replicate y8.2.toNat (0 : Int))).length) c22 ∧ I64 v40_1 ∧ Cx (fun _ => False) O0 w wv [.own 3 (.int .i64) (.slice A21 (((List.replicate y8.2.toNat (0 : Int))).length) c22) qf26_1] ∧ (((loopN n (F.diagram_spherical_b3 n y8 qf26_1) 0).bind fun o171 => match o171 with     | (.inl v75_3) => some true     | (.inr q) => some q) : Option (Bool)) = some r) (fun K79 hK79 => ?_) ?_
 refine Wc.block ?_
 refine Wc.loop (fun m E wv => ∃ (v40_1 : Int) (qf26_1 : List Int) (qf75_1 : List Bool), E 1 = .pointer (some ⟨g4, 0, none⟩) ∧ E 2 = .bool false ∧ E 3 = .slice A10 y8.1.length c12 ∧ E 5 = .slice A21 (((List.replicate y8.2.toNat (0 : Int))).length) c22 ∧ E 8 = .slice A70 (((List.replicate (d_0_1.length : Int).toNat false)).length) c71 ∧ E 39 = .int .i64 (d_0_1.length : Int) ∧ E 40 = .int .i64 v40_1 ∧ I64 v40_1 ∧ Cx (fun _ => False) O0 w wv [.box g4 28 [.slice Ad_0_0 d_0_0.length cd_0_0, .slice Ad_0_1 d_0_1.length cd_0_1, .int .i64 d_0_2], .ro (.sl (.int .i64)) [.slice Ad_0_0 d_0_0.length cd_0_0] d_0_0, .ro (.sl (.int .i64)) [.slice Ad_0_1 d_0_1.length cd_0_1] d_0_1, .own 3 (.int .i64) (.slice A10 y8.1.length c12) y8.1, .own 3 (.int .i64) (.slice A21 (((List.replicate y8.2.toNat (0 : Int))).length) c22) qf26_1, .own 4 .bool (.slice A70 (((List.replicate (d_0_1.length : Int).toNat false)).length) c71) qf75_1] ∧ loopN m (F.diagram_spherical_b1 n d_0_1 y8) (v40_1, qf26_1, qf75_1) = some o78) n ⟨0, qf26_0, (List.replicate (d_0_1.length : Int).toNat false), e1, e2, e3, e5, rfl, rfl, rfl, (show I64 0 from by unfold I64; omega), hC.sel [1, 2, 3, 4, 5, 0] (by decide), hl1⟩ ?_
 have hbK1 := hb
 clear hb hC hl1
 rintro m81 E83 w82 ⟨v40_1, qf26_1, qf75_1, e1, e2, e3, e5, e8, e39, e40, hrv40_1, hC, hl1⟩ K80 hK80
 obtain ⟨m81', o84, rfl, hb, hl1⟩ := loopN_some hl1
 unfold F.diagram_spherical_b1 at hb
 refine Wc.seq fun K85 hK85 => ?_
 refine rg ?_
 refine lp (.bool (decide (v40_1 < (d_0_1.length : Int)))) (pu_lss (k := .i64) (a := v40_1) (b := (d_0_1.length : Int)) e40 e39) ?_
 refine ln ?_
 refine hK85 _ _ ?_
 refine Wc.seq fun K86 hK86 => ?_
 refine Wc.cond (t := (decide (v40_1 < (d_0_1.length : Int)))) (rfl) (fun hq87 => ?_) (fun hq87 => ?_)
 replace hb := tt hq87 hb
 refine Wc.skip ?_
 refine hK86 _ _ ?_
 refine Wc.seq fun K88 hK88 => ?_
 refine Wc.block ?_
 refine Wc.seq fun K89 hK89 => ?_
 refine rg ?_
 refine lp (.int .i64 v40_1) (pu_move e40) ?_
 refine lp (.int .i64 v40_1) (pu_assign rfl) ?_
 refine ln ?_
 refine hK89 _ _ ?_
 refine Wc.seq fun K90 hK90 => ?_
 refine Wc.seq fun K91 hK91 => ?_
 refine rg ?_
 refine lp (.slice A70 (((List.replicate (d_0_1.length : Int).toNat false)).length) c71) (pu_move e8) ?_
 refine lp (.int .i64 v40_1) (pu_move rfl) ?_
 obtain ⟨x92, h93, hb⟩ := bd hb
 obtain ⟨ad94, cs95, hA, hc96, hr97⟩ := hC.elo (i := 5) rfl (get_some h93).2
 subst hA
 refine lp (.pointer (some (ad94.add (v40_1.toNat * 1)))) (pu_index (a := v40_1) Try.underlying55 Try.sizeOf4 rfl rfl (by rw [(hC.ow (i := 5) rfl).sl_len.1]; exact (get_some h93).1)) ?_
 obtain rfl := (show _ = _ from hr97)
 refine lv (.bool x92) (ld_one Try.isAgg4 rfl (hc96 0 _ rfl)) ?_
 refine ln ?_
 refine hK91 _ _ ?_
 refine Wc.cond (t := x92) (rfl) (fun hq98 => ?_) (fun hq98 => ?_)
 replace hb := tt hq98 hb
 refine Wc.exit rfl ?_
 refine hK88 _ _ ?_
 refine rg ?_
 obtain ⟨z99, h100, hb⟩ := bd hb
 refine lp (.int .i64 z99) (pu_addc (a := v40_1) (b := 1) e40 rfl h100) ?_
 refine lp (.int .i64 z99) (pu_move rfl) ?_
 refine ln ?_
 obtain rfl := os hb
 exact hK80 m81' _ _ (Nat.lt_succ_self _) ⟨z99, qf26_1, qf75_1, e1, e2, e3, e5, e8, e39, rfl, (chk_rng h100), hC.sel [0, 1, 2, 3, 4, 5] (by decide), lN hl1⟩
 replace hb := tf hq98 hb
 refine Wc.skip ?_
 refine hK90 _ _ ?_
 refine Wc.seq fun K101 hK101 => ?_
 refine rg ?_
 refine lp (.slice A21 (((List.replicate y8.2.toNat (0 : Int))).length) c22) (pu_move e5) ?_
 refine lp (.slice A10 y8.1.length c12) (pu_move e3) ?_
 refine lp (.int .i64 v40_1) (pu_move rfl) ?_
 obtain ⟨u102, h103, hb⟩ := bd hb
 obtain ⟨z104, h105, hb⟩ := bd hb
 refine lp (.int .i64 z104) (pu_quoc (a := v40_1) (b := 4) rfl rfl h103 h105) ?_
 obtain ⟨x106, h107, hb⟩ := bd hb
 obtain ⟨ad108, cs109, hA, hc110, hr111⟩ := hC.elo (i := 3) rfl (get_some h107).2
 subst hA
 refine lp (.pointer (some (ad108.add (z104.toNat * 1)))) (pu_index (a := z104) Try.underlying22 Try.sizeOf3 rfl rfl (get_some h107).1) ?_
 obtain ⟨rfl, hr111'⟩ := hr111
 refine lv (.int .i64 x106) (ld_one Try.isAgg3 rfl (hc110 0 _ rfl)) ?_
 obtain ⟨x112, h113, hb⟩ := bd hb
 obtain ⟨ad114, cs115, hA, hc116, hr117⟩ := hC.elo (i := 4) rfl (get_some h113).2
 subst hA
 refine lp (.pointer (some (ad114.add (x106.toNat * 1)))) (pu_index (a := x106) Try.underlying22 Try.sizeOf3 rfl rfl (by rw [(hC.ow (i := 4) rfl).sl_len.1]; exact (get_some h113).1)) ?_
 obtain ⟨rfl, hr117'⟩ := hr117
 refine lv (.int .i64 x112) (ld_one Try.isAgg3 rfl (hc116 0 _ rfl)) ?_
 obtain ⟨z118, h119, hb⟩ := bd hb
 refine lp (.int .i64 z118) (pu_addc (a := x112) (b := 1) rfl rfl h119) ?_
 obtain ⟨x120, h121, hb⟩ := bd hb
 obtain ⟨ad122, cs123, hA, hc124, hr125⟩ := hC.elo (i := 4) rfl (get_some h121).2
 obtain rfl := Option.some.inj hA
 refine lp (.pointer (some (ad114.add (x106.toNat * 1)))) (pu_index (a := x106) Try.underlying22 Try.sizeOf3 rfl rfl (by rw [(hC.ow (i := 4) rfl).sl_len.1]; exact (get_some h121).1)) ?_
 refine lex.sk (hC.put (i := 4) rfl rfl Try.sizeOf3 (k := x106.toNat) (a := z118) (by have := (get_some h121).1; simp at this ⊢; omega) (⟨rfl, I64.wr (chk_rng h119)⟩) rfl rfl rfl) ?_
 rintro w126 ⟨hC, hF⟩
 refine ln ?_
 refine hK101 _ _ ?_
 refine Wc.fresh fun E127 hE => ?_
 have e1 := (congrFun hE 1).trans e1
 have e2 := (congrFun hE 2).trans e2
 have e3 := (congrFun hE 3).trans e3
 have e5 := (congrFun hE 5).trans e5
 have e8 := (congrFun hE 8).trans e8
 have e9 : E127 9 = .int .i64 v40_1 := (congrFun hE 9).trans rfl
 have e39 := (congrFun hE 39).trans e39
 have e40 := (congrFun hE 40).trans e40
 have e41 : E127 41 = .bool (decide (v40_1 < (d_0_1.length : Int))) := (congrFun hE 41).trans rfl
 have e46 : E127 46 = .bool x92 := (congrFun hE 46).trans rfl
 clear hE
 refine Wc.seq fun K128 hK128 => ?_
 refine rg ?_
 refine lp (.int .i64 v40_1) (pu_move e9) ?_
 refine lp (.int .i64 v40_1) (pu_assign rfl) ?_
 refine ln ?_
 refine hK128 _ _ ?_
 obtain ⟨o129, hl2, hb⟩ := bd hb
 refine Wc.cut (fun E wv => ∃ (v10_2 : Int) (qf75_2 : List Bool), E 1 = .pointer (some ⟨g4, 0, none⟩) ∧ E 2 = .bool false ∧ E 3 = .slice (some ad108) y8.1.length c12 ∧ E 5 = .slice (some ad114) (((List.replicate y8.2.toNat (0 : Int))).length) c22 ∧ E 8 = .slice (some ad94) (((List.replicate (d_0_1.length : Int).toNat false)).length) c71 ∧ E 9 = .int .i64 v40_1 ∧ E 10 = .int .i64 v10_2 ∧ E 39 = .int .i64 (d_0_1.length : Int) ∧ E 40 = .int .i64 v40_1 ∧ E 41 = .bool (decide (v40_1 < (d_0_1.length : Int))) ∧ E 46 = .bool x92 ∧ I64 v10_2 ∧ Cx (fun _ => False) O0 w wv [.box g4 28 [.slice Ad_0_0 d_0_0.length cd_0_0, .slice Ad_0_1 d_0_1.length cd_0_1, .int .i64 d_0_2], .ro (.sl (.int .i64)) [.slice Ad_0_0 d_0_0.length cd_0_0] d_0_0, .ro (.sl (.int .i64)) [.slice Ad_0_1 d_0_1.length cd_0_1] d_0_1, .own 3 (.int .i64) (.slice (some ad108) y8.1.length c12) y8.1, .own 3 (.int .i64) (.slice (some ad114) (((List.replicate y8.2.toNat (0 : Int))).length) c22) (qf26_1.set x106.toNat z118), .own 4 .bool (.slice (some ad94) (((List.replicate (d_0_1.length : Int).toNat false)).length) c71) qf75_2] ∧ ((chk (v40_1 + 1)).bind fun z165 => some (.inl (z165, (qf26_1.set x106.toNat z118), qf75_2)) : Option ((Int × (List Int) × (List Bool)) ⊕ ((Int × (List Int) × (List Bool))))) = some o84) (fun K130 hK130 => ?_) ?_
 refine Wc.block ?_
 refine Wc.loop (fun m E wv => ∃ (v10_2 : Int) (qf75_2 : List Bool), E 1 = .pointer (some ⟨g4, 0, none⟩) ∧ E 2 = .bool false ∧ E 3 = .slice (some ad108) y8.1.length c12 ∧ E 5 = .slice (some ad114) (((List.replicate y8.2.toNat (0 : Int))).length) c22 ∧ E 8 = .slice (some ad94) (((List.replicate (d_0_1.length : Int).toNat false)).length) c71 ∧ E 9 = .int .i64 v40_1 ∧ E 10 = .int .i64 v10_2 ∧ E 39 = .int .i64 (d_0_1.length : Int) ∧ E 40 = .int .i64 v40_1 ∧ E 41 = .bool (decide (v40_1 < (d_0_1.length : Int))) ∧ E 46 = .bool x92 ∧ I64 v10_2 ∧ Cx (fun _ => False) O0 w wv [.box g4 28 [.slice Ad_0_0 d_0_0.length cd_0_0, .slice Ad_0_1 d_0_1.length cd_0_1, .int .i64 d_0_2], .ro (.sl (.int .i64)) [.slice Ad_0_0 d_0_0.length cd_0_0] d_0_0, .ro (.sl (.int .i64)) [.slice Ad_0_1 d_0_1.length cd_0_1] d_0_1, .own 3 (.int .i64) (.slice (some ad108) y8.1.length c12) y8.1, .own 3 (.int .i64) (.slice (some ad114) (((List.replicate y8.2.toNat (0 : Int))).length) c22) (qf26_1.set x106.toNat z118), .own 4 .bool (.slice (some ad94) (((List.replicate (d_0_1.length : Int).toNat false)).length) c71) qf75_2] ∧ loopN m (F.diagram_spherical_b2 n d_0_1) (v10_2, qf75_2) = some o129) n ⟨v40_1, qf75_1, e1, e2, e3, e5, e8, e9, rfl, e39, e40, e41, e46, hrv40_1, hC.sel [0, 1, 2, 3, 4, 5] (by decide), hl2⟩ ?_
 have hbK2 := hb
 clear hb hC hl2
 rintro m132 E134 w133 ⟨v10_2, qf75_2, e1, e2, e3, e5, e8, e9, e10, e39, e40, e41, e46, hrv10_2, hC, hl2⟩ K131 hK131
 obtain ⟨m132', o135, rfl, hb, hl2⟩ := loopN_some hl2
 unfold F.diagram_spherical_b2 at hb
 refine Wc.seq fun K136 hK136 => ?_
 refine Wc.seq fun K137 hK137 => ?_
 refine rg ?_
 refine lp (.slice (some ad94) (((List.replicate (d_0_1.length : Int).toNat false)).length) c71) (pu_move e8) ?_
 refine lp (.int .i64 v10_2) (pu_move e10) ?_
 obtain ⟨x138, h139, hb⟩ := bd hb
 obtain ⟨ad140, cs141, hA, hc142, hr143⟩ := hC.elo (i := 5) rfl (get_some h139).2
 obtain rfl := Option.some.inj hA
 refine lp (.pointer (some (ad94.add (v10_2.toNat * 1)))) (pu_index (a := v10_2) Try.underlying55 Try.sizeOf4 rfl rfl (by rw [(hC.ow (i := 5) rfl).sl_len.1]; exact (get_some h139).1)) ?_
 obtain rfl := (show _ = _ from hr143)
 refine lv (.bool x138) (ld_one Try.isAgg4 rfl (hc142 0 _ rfl)) ?_
 refine lp (.bool (!x138)) (pu_not (q := x138) rfl) ?_
 refine ln ?_
 refine hK137 _ _ ?_
 refine Wc.cond (t := (!x138)) (rfl) (fun hq144 => ?_) (fun hq144 => ?_)
 replace hb := tt hq144 hb
 refine Wc.skip ?_
 refine hK136 _ _ ?_
 refine Wc.seq fun K145 hK145 => ?_
 refine Wc.block ?_
 refine rg ?_
 refine lp (.slice (some ad94) (((List.replicate (d_0_1.length : Int).toNat false)).length) c71) (pu_move e8) ?_
 refine lp (.int .i64 v10_2) (pu_move e10) ?_
 obtain ⟨x146, h147, hb⟩ := bd hb
 obtain ⟨ad148, cs149, hA, hc150, hr151⟩ := hC.elo (i := 5) rfl (get_some h147).2
 obtain rfl := Option.some.inj hA
 refine lp (.pointer (some (ad94.add (v10_2.toNat * 1)))) (pu_index (a := v10_2) Try.underlying55 Try.sizeOf4 rfl rfl (by rw [(hC.ow (i := 5) rfl).sl_len.1]; exact (get_some h147).1)) ?_
 refine lex.sk (hC.put (i := 5) rfl rfl Try.sizeOf4 (k := v10_2.toNat) (a := true) (by have := (get_some h147).1; simp at this ⊢; omega) (show Rep _ _ .bool _ _ from rfl) rfl rfl rfl) ?_
 rintro w152 ⟨hC, hF⟩
 refine ln ?_
 refine hK145 _ _ ?_
 refine rg ?_
 refine lp (.pointer (some ((⟨g4, 0, none⟩ : Addr).add 1))) (pu_field (sz := 1) Try.underlying28 rfl Try.sizeOf22 (by decide) rfl e1) ?_
 refine lv (.slice Ad_0_1 d_0_1.length cd_0_1) (ld_fld (hC.bx (i := 0) rfl) Try.isAgg22 rfl rfl) ?_
 refine lp (.int .i64 v10_2) (pu_move e10) ?_
 obtain ⟨x153, h154, hb⟩ := bd hb
 obtain ⟨ad155, cs156, hA, hc157, hr158⟩ := hC.elr (i := 2) rfl (get_some h154).2
 subst hA
 refine lp (.pointer (some (ad155.add (v10_2.toNat * 1)))) (pu_index (a := v10_2) Try.underlying22 Try.sizeOf3 rfl rfl (get_some h154).1) ?_
 obtain ⟨rfl, hr158'⟩ := hr158
 refine lv (.int .i64 x153) (ld_one Try.isAgg3 rfl (hc157 0 _ rfl)) ?_
 obtain ⟨y159, h160, hb⟩ := bd hb
 refine lex.cl (⟨_, _, op_call (vs := [.int .i64 x153, .int .i64 (-1)]) Try.call75 rfl rfl rfl, diagram_Turn_ok n hC.lt (wrap_I64 hr158') (show I64 (-1) from by unfold I64; omega) h160⟩) ?_
 rintro _ w162 ⟨rfl, hr161, hK⟩
 replace hC := hC.merge hK
 clear hK
 refine lp (.int .i64 y159) (pu_assign rfl) ?_
 refine ln ?_
 obtain rfl := os hb
 exact hK131 m132' _ _ (Nat.lt_succ_self _) ⟨y159, (qf75_2.set v10_2.toNat true), e1, e2, e3, e5, e8, e9, rfl, e39, e40, e41, e46, hr161, hC.sel [0, 1, 2, 3, 4, 5] (by decide), lN hl2⟩
 replace hb := tf hq144 hb
 refine Wc.exit rfl ?_
 obtain rfl := os hb
 obtain rfl := (lX hl2).symm
 exact hK130 _ _ ⟨v10_2, qf75_2, e1, e2, e3, e5, e8, e9, e10, e39, e40, e41, e46, hrv10_2, hC.sel [0, 1, 2, 3, 4, 5] (by decide), hbK2⟩
 clear hb hC hl2
 rintro E164 w163 ⟨v10_2, qf75_2, e1, e2, e3, e5, e8, e9, e10, e39, e40, e41, e46, hrv10_2, hC, hb⟩
 refine hK88 _ _ ?_
 refine rg ?_
 obtain ⟨z165, h166, hb⟩ := bd hb
 refine lp (.int .i64 z165) (pu_addc (a := v40_1) (b := 1) e40 rfl h166) ?_
 refine lp (.int .i64 z165) (pu_move rfl) ?_
 refine ln ?_
 obtain rfl := os hb
 exact hK80 m81' _ _ (Nat.lt_succ_self _) ⟨z165, (qf26_1.set x106.toNat z118), qf75_2, e1, e2, e3, e5, e8, e39, rfl, (chk_rng h166), hC.sel [0, 1, 2, 3, 4, 5] (by decide), lN hl1⟩
 replace hb := tf hq87 hb
 refine Wc.exit rfl ?_
 obtain rfl := os hb
 obtain rfl := (lX hl1).symm
 exact hK79 _ _ ⟨v40_1, qf26_1, qf75_1, e2, e5, hrv40_1, hC.sel [4] (by decide), hbK1⟩
 clear hb hC hl1
 rintro E168 w167 ⟨v40_1, qf26_1, qf75_1, e2, e5, hrv40_1, hC, hb⟩
 refine hK76 _ _ ?_
 refine Wc.seq fun K169 hK169 => ?_
 refine Wc.seq fun K170 hK170 => ?_
 refine rg ?_
 refine lp (.slice A21 (((List.replicate y8.2.toNat (0 : Int))).length) c22) (pu_move e5) ?_
 refine lp (.int .i64 (((List.replicate y8.2.toNat (0 : Int))).length : Int)) (pu_len (A := A21) (n := ((List.replicate y8.2.toNat (0 : Int))).length) (m := c22) Try.underlying22 rfl) ?_
 refine lp (.int .i64 0) (pu_move rfl) ?_
 refine ln ?_
 refine hK170 _ _ ?_
 obtain ⟨o171, hl3, hb⟩ := bd hb
 refine Wc.cut (fun E wv => ∃ (v75_3 : Int), E 2 = .bool false ∧ I64 v75_3 ∧ Cx (fun _ => False) O0 w wv [] ∧ (some true : Option (Bool)) = some r) (fun K172 hK172 => ?_) ?_
 refine Wc.block ?_
 refine Wc.loop (fun m E wv => ∃ (v75_3 : Int), E 2 = .bool false ∧ E 73 = .slice A21 (((List.replicate y8.2.toNat (0 : Int))).length) c22 ∧ E 74 = .int .i64 (((List.replicate y8.2.toNat (0 : Int))).length : Int) ∧ E 75 = .int .i64 v75_3 ∧ I64 v75_3 ∧ Cx (fun _ => False) O0 w wv [.own 3 (.int .i64) (.slice A21 (((List.replicate y8.2.toNat (0 : Int))).length) c22) qf26_1] ∧ loopN m (F.diagram_spherical_b3 n y8 qf26_1) v75_3 = some o171) n ⟨0, e2, rfl, rfl, rfl, (show I64 0 from by unfold I64; omega), hC.sel [0] (by decide), hl3⟩ ?_
 have hbK3 := hb
 clear hb hC hl3
 rintro m174 E176 w175 ⟨v75_3, e2, e73, e74, e75, hrv75_3, hC, hl3⟩ K173 hK173
 obtain ⟨m174', o177, rfl, hb, hl3⟩ := loopN_some hl3
 unfold F.diagram_spherical_b3 at hb
 refine Wc.seq fun K178 hK178 => ?_
 refine rg ?_
 refine lp (.bool (decide (v75_3 < (((List.replicate y8.2.toNat (0 : Int))).length : Int)))) (pu_lss (k := .i64) (a := v75_3) (b := (((List.replicate y8.2.toNat (0 : Int))).length : Int)) e75 e74) ?_
 refine ln ?_
 refine hK178 _ _ ?_
 refine Wc.seq fun K179 hK179 => ?_
 refine Wc.cond (t := (decide (v75_3 < (((List.replicate y8.2.toNat (0 : Int))).length : Int)))) (rfl) (fun hq180 => ?_) (fun hq180 => ?_)
 replace hb := tt hq180 hb
 refine Wc.skip ?_
 refine hK179 _ _ ?_
 refine Wc.seq fun K181 hK181 => ?_
 refine Wc.block ?_
 refine Wc.seq fun K182 hK182 => ?_
 refine rg ?_
 obtain ⟨x183, h184, hb⟩ := bd hb
 obtain ⟨ad185, cs186, hA, hc187, hr188⟩ := hC.elo (i := 0) rfl (get_some h184).2
 subst hA
 refine lp (.pointer (some (ad185.add (v75_3.toNat * 1)))) (pu_index (a := v75_3) Try.underlying22 Try.sizeOf3 e73 e75 (by rw [(hC.ow (i := 0) rfl).sl_len.1]; exact (get_some h184).1)) ?_
 obtain ⟨rfl, hr188'⟩ := hr188
 refine lv (.int .i64 x183) (ld_one Try.isAgg3 rfl (hc187 0 _ rfl)) ?_
 refine lp (.int .i64 x183) (pu_assign rfl) ?_
 refine ln ?_
 refine hK182 _ _ ?_
 refine Wc.seq fun K189 hK189 => ?_
 refine rg ?_
 refine lp (.int .i64 x183) (pu_move rfl) ?_
 refine lp (.bool (!(decide (x183 = 2)))) (pu_neq (k := .i64) (a := x183) (b := 2) rfl rfl) ?_
 refine ln ?_
 refine hK189 _ _ ?_
 refine Wc.cond (t := (!(decide (x183 = 2)))) (rfl) (fun hq190 => ?_) (fun hq190 => ?_)
 replace hb := tt hq190 hb
 refine Wc.seq fun K191 hK191 => ?_
 refine rg ?_
 refine lp (.bool false) (pu_assign rfl) ?_
 refine ln ?_
 refine hK191 _ _ ?_
 obtain rfl := os hb
 obtain rfl := (lX hl3).symm
 replace hb := hbK3
 obtain rfl := os hb
 refine Wc.ret ?_
 refine hKR _ _ ?_
 refine ⟨_, res1 Try.results53 (show RV _ _ _ (.tmp _) (.bool false) from rfl), _, rfl, rfl, hC.sel [] (by decide)⟩
 replace hb := tf hq190 hb
 refine Wc.skip ?_
 refine hK181 _ _ ?_
 refine rg ?_
 obtain ⟨z192, h193, hb⟩ := bd hb
 refine lp (.int .i64 z192) (pu_addc (a := v75_3) (b := 1) e75 rfl h193) ?_
 refine lp (.int .i64 z192) (pu_move rfl) ?_
 refine ln ?_
 obtain rfl := os hb
 exact hK173 m174' _ _ (Nat.lt_succ_self _) ⟨z192, e2, e73, e74, rfl, (chk_rng h193), hC.sel [0] (by decide), lN hl3⟩
 replace hb := tf hq180 hb
 refine Wc.exit rfl ?_
 obtain rfl := os hb
 obtain rfl := (lX hl3).symm
 exact hK172 _ _ ⟨v75_3, e2, hrv75_3, hC.sel [] (by decide), hbK3⟩
 clear hb hC hl3
 rintro E195 w194 ⟨v75_3, e2, hrv75_3, hC, hb⟩
 refine hK169 _ _ ?_
 refine Wc.seq fun K196 hK196 => ?_
 refine rg ?_
 refine lp (.bool true) (pu_assign rfl) ?_
 refine ln ?_
 refine hK196 _ _ ?_
 obtain rfl := os hb
 refine Wc.ret ?_
 refine hKR _ _ ?_
 refine ⟨_, res1 Try.results53 (show RV _ _ _ (.tmp _) (.bool true) from rfl), _, rfl, rfl, hC.sel [] (by decide)⟩
end Go.Proofs.Yticemffhlapnnaa
