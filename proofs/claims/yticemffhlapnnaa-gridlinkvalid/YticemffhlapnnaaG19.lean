/- The walks: part 19. -/
import Derived.Test.YticemffhlapnnaaS
import Derived.Test.YticemffhlapnnaaG0
import Derived.Test.YticemffhlapnnaaG3
import Derived.Test.YticemffhlapnnaaG6
import Derived.Test.YticemffhlapnnaaG7
import Derived.Test.YticemffhlapnnaaG18
set_option linter.unusedVariables false
set_option linter.unusedSimpArgs false
namespace Go.Proofs.Yticemffhlapnnaa
open Ev
set_option maxRecDepth 100000 in
set_option maxHeartbeats 4000000 in
theorem diagram_cycles_diagram_Strands_c1_diagram_Strands_c2_ok (n : Nat) {w : World} {O0 : List Nat} (hO : ∀ k ∈ O0, k < w.heap.size) {count_0 : Int} (hcount_0 : I64 count_0) {gwanted_1_0 : Nat} {Awanted_1_0_0 : Option Addr} {mwanted_1_0_0 cwanted_1_0_0 : Nat} {wanted_1_0_0 : List Int} (hwanted_1_0_0 : Rep O0 w (.sl (.int .i64)) [.slice Awanted_1_0_0 mwanted_1_0_0 cwanted_1_0_0] wanted_1_0_0) {Awanted_1_0_1 : Option Addr} {mwanted_1_0_1 cwanted_1_0_1 : Nat} {wanted_1_0_1 : List Int} (hwanted_1_0_1 : Rep O0 w (.sl (.int .i64)) [.slice Awanted_1_0_1 mwanted_1_0_1 cwanted_1_0_1] wanted_1_0_1) {wanted_1_0_2 : Int} (hwanted_1_0_2 : I64 wanted_1_0_2) (hio : Tk O0 w [.box gwanted_1_0 28 [.slice Awanted_1_0_0 mwanted_1_0_0 cwanted_1_0_0, .slice Awanted_1_0_1 mwanted_1_0_1 cwanted_1_0_1, .int .i64 wanted_1_0_2]]) {r : (List (List Int))} (hb : F.diagram_cycles_diagram_Strands_c1_diagram_Strands_c2 n count_0 wanted_1_0_0 wanted_1_0_1 wanted_1_0_2 = some r) :
    Calls Try.prog 77 #[.int .i64 count_0, .func (.func 76) #[] #[.pointer (some ⟨gwanted_1_0, 0, none⟩)], .func (.func 78) #[] #[.pointer (some ⟨gwanted_1_0, 0, none⟩)]] w fun e w' => ∃ v, e = .returned v ∧ ∃ (A0 : Option Addr) (m0 c0 : Nat), v = .slice A0 m0 c0 ∧ Cx (fun k => k ∈ blocks [.box gwanted_1_0 28 [.slice Awanted_1_0_0 mwanted_1_0_0 cwanted_1_0_0, .slice Awanted_1_0_1 mwanted_1_0_1 cwanted_1_0_1, .int .i64 wanted_1_0_2]]) O0 w w' [.own 22 (.sl (.int .i64)) (.slice A0 m0 c0) r, .box gwanted_1_0 28 [.slice Awanted_1_0_0 mwanted_1_0_0 cwanted_1_0_0, .slice Awanted_1_0_1 mwanted_1_0_1 cwanted_1_0_1, .int .i64 wanted_1_0_2]] := by
 unfold F.diagram_cycles_diagram_Strands_c1_diagram_Strands_c2 at hb
 have hC := Cx.startTk hO hio
 have hsub := hio.2.2
 replace hC := hC.argTk (by first | exact hsub | exact fun k hk => hsub k (by simpa [blocks, Fact.blk] using hk)) hwanted_1_0_0
 replace hC := hC.argTk (by first | exact hsub | exact fun k hk => hsub k (by simpa [blocks, Fact.blk] using hk)) hwanted_1_0_1
 clear hO
 obtain ⟨rfl, hlwanted_1_0_0, hcwanted_1_0_0⟩ := hwanted_1_0_0.sl_len
 obtain ⟨rfl, hlwanted_1_0_1, hcwanted_1_0_1⟩ := hwanted_1_0_1.sl_len
 clear hio hsub
 obtain ⟨I, hI, hC⟩ : ∃ I : Nat → Prop, I = (fun k => k ∈ blocks [.box gwanted_1_0 28 [.slice Awanted_1_0_0 wanted_1_0_0.length cwanted_1_0_0, .slice Awanted_1_0_1 wanted_1_0_1.length cwanted_1_0_1, .int .i64 wanted_1_0_2]]) ∧ Cx I O0 w w ([.ro (.sl (.int .i64)) [.slice Awanted_1_0_1 wanted_1_0_1.length cwanted_1_0_1] wanted_1_0_1, .ro (.sl (.int .i64)) [.slice Awanted_1_0_0 wanted_1_0_0.length cwanted_1_0_0] wanted_1_0_0, .box gwanted_1_0 28 [.slice Awanted_1_0_0 wanted_1_0_0.length cwanted_1_0_0, .slice Awanted_1_0_1 wanted_1_0_1.length cwanted_1_0_1, .int .i64 wanted_1_0_2]]) := ⟨_, rfl, hC⟩
 refine calls_of_Wc Try.func77 rfl (by rw [Try.ntmps77]; exact Nat.le_of_ble_eq_true rfl) fun KR hKR => ?_
 refine Wc.seq fun K4 hK4 => ?_
 refine rg ?_
 refine lp (.slice none 0 0) (pu_assign rfl) ?_
 refine ln ?_
 refine hK4 _ _ ?_
 refine Wc.seq fun K5 hK5 => ?_
 refine rg ?_
 refine lp (.slice none 0 0) (pu_assign rfl) ?_
 refine ln ?_
 refine hK5 _ _ ?_
 refine Wc.seq fun K6 hK6 => ?_
 refine rg ?_
 refine lp (.int .i64 count_0) (pu_move rfl) ?_
 obtain ⟨u7, h8, hb⟩ := bd hb
 refine lex.op (hC.make (s := .bool) (n := count_0) Try.underlying55 Try.type4 rfl rfl rfl rfl rfl (pos_some h8).1 (pos_some h8).2 (by decide)) ?_
 rintro _ w13 ⟨A9, c10, rfl, hl11, hc12, hC, hF, hN⟩
 clear hF hN
 refine lp (.slice A9 (((List.replicate count_0.toNat false)).length) c10) (pu_assign rfl) ?_
 refine ln ?_
 refine hK6 _ _ ?_
 refine Wc.seq fun K15 hK15 => ?_
 refine Wc.seq fun K16 hK16 => ?_
 refine rg ?_
 refine lp (.int .i64 count_0) (pu_move rfl) ?_
 refine lp (.int .i64 0) (pu_move rfl) ?_
 refine ln ?_
 refine hK16 _ _ ?_
 replace hC := hC.nil 22 (.sl (.int .i64))
 obtain ⟨o18, hl0, hb⟩ := bd hb
 refine Wc.cut (fun E wv => ∃ (l7_0 : List (List Int)) (v16_0 : Int) (qf14_0 : List Bool) (Al7_0 : Option Addr) (ml7_0 cl7_0 : Nat), E 6 = .slice none 0 0 ∧ E 7 = .slice Al7_0 ml7_0 cl7_0 ∧ I64 v16_0 ∧ Cx I O0 w wv [.own 22 (.sl (.int .i64)) (.slice Al7_0 ml7_0 cl7_0) l7_0, .box gwanted_1_0 28 [.slice Awanted_1_0_0 wanted_1_0_0.length cwanted_1_0_0, .slice Awanted_1_0_1 wanted_1_0_1.length cwanted_1_0_1, .int .i64 wanted_1_0_2], .ro (.sl (.int .i64)) [.slice Awanted_1_0_0 wanted_1_0_0.length cwanted_1_0_0] wanted_1_0_0, .ro (.sl (.int .i64)) [.slice Awanted_1_0_1 wanted_1_0_1.length cwanted_1_0_1] wanted_1_0_1] ∧ (some l7_0 : Option ((List (List Int)))) = some r) (fun K19 hK19 => ?_) ?_
 refine Wc.block ?_
 refine Wc.loop (fun m E wv => ∃ (l7_0 : List (List Int)) (v16_0 : Int) (qf14_0 : List Bool) (Al7_0 : Option Addr) (ml7_0 cl7_0 : Nat), E 1 = .func (.func 76) #[] #[.pointer (some ⟨gwanted_1_0, 0, none⟩)] ∧ E 2 = .func (.func 78) #[] #[.pointer (some ⟨gwanted_1_0, 0, none⟩)] ∧ E 6 = .slice none 0 0 ∧ E 7 = .slice Al7_0 ml7_0 cl7_0 ∧ E 8 = .slice A9 (((List.replicate count_0.toNat false)).length) c10 ∧ E 15 = .int .i64 count_0 ∧ E 16 = .int .i64 v16_0 ∧ I64 v16_0 ∧ Cx I O0 w wv [.box gwanted_1_0 28 [.slice Awanted_1_0_0 wanted_1_0_0.length cwanted_1_0_0, .slice Awanted_1_0_1 wanted_1_0_1.length cwanted_1_0_1, .int .i64 wanted_1_0_2], .ro (.sl (.int .i64)) [.slice Awanted_1_0_0 wanted_1_0_0.length cwanted_1_0_0] wanted_1_0_0, .ro (.sl (.int .i64)) [.slice Awanted_1_0_1 wanted_1_0_1.length cwanted_1_0_1] wanted_1_0_1, .own 22 (.sl (.int .i64)) (.slice Al7_0 ml7_0 cl7_0) l7_0, .own 4 .bool (.slice A9 (((List.replicate count_0.toNat false)).length) c10) qf14_0] ∧ loopN m (F.diagram_cycles_diagram_Strands_c1_diagram_Strands_c2_b0 n count_0 wanted_1_0_0 wanted_1_0_1 wanted_1_0_2) (l7_0, v16_0, qf14_0) = some o18) n ⟨([] : List (List Int)), 0, (List.replicate count_0.toNat false), none, 0, 0, rfl, rfl, rfl, rfl, rfl, rfl, rfl, (show I64 0 from by unfold I64; omega), hC.sel [4, 3, 2, 0, 1] (by decide), hl0⟩ ?_
 have hbK0 := hb
 clear hb hC hl0
 rintro m21 E23 w22 ⟨l7_0, v16_0, qf14_0, Al7_0, ml7_0, cl7_0, e1, e2, e6, e7, e8, e15, e16, hrv16_0, hC, hl0⟩ K20 hK20
 obtain ⟨m21', o24, rfl, hb, hl0⟩ := loopN_some hl0
 unfold F.diagram_cycles_diagram_Strands_c1_diagram_Strands_c2_b0 at hb
 obtain ⟨rfl, hll7_0, hcl7_0⟩ := (hC.ow (i := 3) rfl).sl_len
 refine Wc.seq fun K25 hK25 => ?_
 refine rg ?_
 refine lp (.bool (decide (v16_0 < count_0))) (pu_lss (k := .i64) (a := v16_0) (b := count_0) e16 e15) ?_
 refine ln ?_
 refine hK25 _ _ ?_
 refine Wc.seq fun K26 hK26 => ?_
 refine Wc.cond (t := (decide (v16_0 < count_0))) (rfl) (fun hq27 => ?_) (fun hq27 => ?_)
 replace hb := tt hq27 hb
 refine Wc.skip ?_
 refine hK26 _ _ ?_
 refine Wc.seq fun K28 hK28 => ?_
 refine Wc.block ?_
 refine Wc.seq fun K29 hK29 => ?_
 refine rg ?_
 refine lp (.int .i64 v16_0) (pu_move e16) ?_
 refine lp (.int .i64 v16_0) (pu_assign rfl) ?_
 refine ln ?_
 refine hK29 _ _ ?_
 refine Wc.seq fun K30 hK30 => ?_
 refine Wc.seq fun K31 hK31 => ?_
 refine rg ?_
 refine lp (.slice A9 (((List.replicate count_0.toNat false)).length) c10) (pu_move e8) ?_
 refine lp (.int .i64 v16_0) (pu_move rfl) ?_
 obtain ⟨x32, h33, hb⟩ := bd hb
 obtain ⟨ad34, cs35, hA, hc36, hr37⟩ := hC.elo (i := 4) rfl (get_some h33).2
 subst hA
 refine lp (.pointer (some (ad34.add (v16_0.toNat * 1)))) (pu_index (a := v16_0) Try.underlying55 Try.sizeOf4 rfl rfl (by rw [(hC.ow (i := 4) rfl).sl_len.1]; exact (get_some h33).1)) ?_
 obtain rfl := (show _ = _ from hr37)
 refine lv (.bool x32) (ld_one Try.isAgg4 rfl (hc36 0 _ rfl)) ?_
 refine lp (.bool x32) (pu_move rfl) ?_
 rcases bS x32 with hq38 | hq38
 replace hb := tt hq38 hb
 refine gs rfl rfl x32 rfl hq38 ?_
 refine gs rfl rfl x32 rfl hq38 ?_
 refine gs rfl rfl x32 rfl hq38 ?_
 refine gs rfl rfl x32 rfl hq38 ?_
 refine lp (.bool true) (pu_pickT (q := x32) rfl hq38 rfl) ?_
 refine ln ?_
 refine hK31 _ _ ?_
 refine Wc.cond_true (rfl) ?_
 refine Wc.exit rfl ?_
 refine hK28 _ _ ?_
 refine rg ?_
 obtain ⟨z39, h40, hb⟩ := bd hb
 refine lp (.int .i64 z39) (pu_addc (a := v16_0) (b := 1) e16 rfl h40) ?_
 refine lp (.int .i64 z39) (pu_move rfl) ?_
 refine ln ?_
 obtain rfl := os hb
 exact hK20 m21' _ _ (Nat.lt_succ_self _) ⟨l7_0, z39, qf14_0, Al7_0, l7_0.length, cl7_0, e1, e2, e6, e7, e8, e15, rfl, (chk_rng h40), hC.sel [0, 1, 2, 3, 4] (by decide), lN hl0⟩
 replace hb := tf hq38 hb
 refine gp rfl rfl x32 rfl hq38 (.func (.func 76) #[] #[.pointer (some ⟨gwanted_1_0, 0, none⟩)]) (pu_move e1) ?_
 refine gp rfl rfl x32 rfl hq38 (.int .i64 v16_0) (pu_move rfl) ?_
 replace hC : Cx I O0 w w22 ([.box gwanted_1_0 28 [.slice Awanted_1_0_0 wanted_1_0_0.length cwanted_1_0_0, .slice Awanted_1_0_1 wanted_1_0_1.length cwanted_1_0_1, .int .i64 wanted_1_0_2]] ++ [.ro (.sl (.int .i64)) [.slice Awanted_1_0_0 wanted_1_0_0.length cwanted_1_0_0] wanted_1_0_0, .ro (.sl (.int .i64)) [.slice Awanted_1_0_1 wanted_1_0_1.length cwanted_1_0_1] wanted_1_0_1, .own 22 (.sl (.int .i64)) (.slice Al7_0 l7_0.length cl7_0) l7_0, .own 4 .bool (.slice (some ad34) (((List.replicate count_0.toNat false)).length) c10) qf14_0]) := hC.sel [0, 1, 2, 3, 4] (by decide)
 obtain ⟨y41, h42, hb⟩ := bd hb
 refine lex.gcl (want_t rfl rfl (show _ = Value.bool x32 from rfl) hq38) (⟨_, _, op_callv (vs := [.int .i64 v16_0, .pointer (some ⟨gwanted_1_0, 0, none⟩)]) (ca := #[.pointer (some ⟨gwanted_1_0, 0, none⟩)]) Try.call76 rfl rfl rfl, diagram_Strands_c1_ok n hC.lt hrv16_0 (hC.rd (i := 1) rfl) (hC.rd (i := 2) rfl) hwanted_1_0_2 hC.give h42⟩) ?_
 rintro _ w43 ⟨rfl, hK⟩
 replace hC := hC.back hK
 clear hK
 refine gp rfl rfl x32 rfl hq38 (.bool (!y41)) (pu_not (q := y41) rfl) ?_
 refine lp (.bool (!y41)) (pu_pickF (q := x32) rfl hq38 rfl) ?_
 refine ln ?_
 refine hK31 _ _ ?_
 refine Wc.cond (t := (!y41)) (rfl) (fun hq44 => ?_) (fun hq44 => ?_)
 replace hb := tt hq44 hb
 refine Wc.exit rfl ?_
 refine hK28 _ _ ?_
 refine rg ?_
 obtain ⟨z45, h46, hb⟩ := bd hb
 refine lp (.int .i64 z45) (pu_addc (a := v16_0) (b := 1) e16 rfl h46) ?_
 refine lp (.int .i64 z45) (pu_move rfl) ?_
 refine ln ?_
 obtain rfl := os hb
 exact hK20 m21' _ _ (Nat.lt_succ_self _) ⟨l7_0, z45, qf14_0, Al7_0, l7_0.length, cl7_0, e1, e2, e6, e7, e8, e15, rfl, (chk_rng h46), hC.sel [0, 1, 2, 3, 4] (by decide), lN hl0⟩
 replace hb := tf hq44 hb
 refine Wc.skip ?_
 refine hK30 _ _ ?_
 refine Wc.fresh fun E47 hE => ?_
 have e1 := (congrFun hE 1).trans e1
 have e2 := (congrFun hE 2).trans e2
 have e6 := (congrFun hE 6).trans e6
 have e7 := (congrFun hE 7).trans e7
 have e8 := (congrFun hE 8).trans e8
 have e9 : E47 9 = .int .i64 v16_0 := (congrFun hE 9).trans rfl
 have e15 := (congrFun hE 15).trans e15
 have e16 := (congrFun hE 16).trans e16
 have e17 : E47 17 = .bool (decide (v16_0 < count_0)) := (congrFun hE 17).trans rfl
 have e28 : E47 28 = .bool (!y41) := (congrFun hE 28).trans rfl
 clear hE
 refine Wc.seq fun K48 hK48 => ?_
 refine rg ?_
 refine lp (.int .i64 v16_0) (pu_move e9) ?_
 refine lp (.func (.func 78) #[] #[.pointer (some ⟨gwanted_1_0, 0, none⟩)]) (pu_move e2) ?_
 replace hC : Cx I O0 w w43 ([.box gwanted_1_0 28 [.slice Awanted_1_0_0 wanted_1_0_0.length cwanted_1_0_0, .slice Awanted_1_0_1 wanted_1_0_1.length cwanted_1_0_1, .int .i64 wanted_1_0_2]] ++ [.ro (.sl (.int .i64)) [.slice Awanted_1_0_0 wanted_1_0_0.length cwanted_1_0_0] wanted_1_0_0, .ro (.sl (.int .i64)) [.slice Awanted_1_0_1 wanted_1_0_1.length cwanted_1_0_1] wanted_1_0_1, .own 22 (.sl (.int .i64)) (.slice Al7_0 l7_0.length cl7_0) l7_0, .own 4 .bool (.slice (some ad34) (((List.replicate count_0.toNat false)).length) c10) qf14_0]) := hC.sel [0, 1, 2, 3, 4] (by decide)
 obtain ⟨y49, h50, hb⟩ := bd hb
 refine lex.cl (⟨_, _, op_call (vs := [.int .i64 v16_0, .func (.func 78) #[] #[.pointer (some ⟨gwanted_1_0, 0, none⟩)]]) Try.call85 rfl rfl rfl, diagram_cycle_diagram_Strands_c2_ok n hC.lt hrv16_0 (hC.rd (i := 1) rfl) (hC.rd (i := 2) rfl) hwanted_1_0_2 hC.give h50⟩) ?_
 rintro _ w55 ⟨A51, m52, c53, rfl, hK⟩
 replace hC := hC.back hK
 clear hK
 obtain ⟨rfl, hl56, hc57⟩ := (hC.ow (i := 0) rfl).sl_len
 refine lp (.slice A51 y49.length c53) (pu_assign rfl) ?_
 refine ln ?_
 refine hK48 _ _ ?_
 refine Wc.seq fun K58 hK58 => ?_
 refine Wc.seq fun K59 hK59 => ?_
 refine rg ?_
 refine lp (.slice A51 y49.length c53) (pu_move rfl) ?_
 refine lp (.int .i64 (y49.length : Int)) (pu_len (A := A51) (n := y49.length) (m := c53) Try.underlying22 rfl) ?_
 refine lp (.int .i64 0) (pu_move rfl) ?_
 refine ln ?_
 refine hK59 _ _ ?_
 obtain ⟨o60, hl1, hb⟩ := bd hb
 refine Wc.cut (fun E wv => ∃ (v34_1 : Int) (qf14_1 : List Bool), E 1 = .func (.func 76) #[] #[.pointer (some ⟨gwanted_1_0, 0, none⟩)] ∧ E 2 = .func (.func 78) #[] #[.pointer (some ⟨gwanted_1_0, 0, none⟩)] ∧ E 6 = .slice none 0 0 ∧ E 7 = .slice Al7_0 l7_0.length cl7_0 ∧ E 8 = .slice (some ad34) (((List.replicate count_0.toNat false)).length) c10 ∧ E 9 = .int .i64 v16_0 ∧ E 10 = .slice A51 y49.length c53 ∧ E 15 = .int .i64 count_0 ∧ E 16 = .int .i64 v16_0 ∧ E 17 = .bool (decide (v16_0 < count_0)) ∧ E 28 = .bool (!y41) ∧ E 32 = .slice A51 y49.length c53 ∧ E 33 = .int .i64 (y49.length : Int) ∧ E 34 = .int .i64 v34_1 ∧ I64 v34_1 ∧ Cx I O0 w wv [.box gwanted_1_0 28 [.slice Awanted_1_0_0 wanted_1_0_0.length cwanted_1_0_0, .slice Awanted_1_0_1 wanted_1_0_1.length cwanted_1_0_1, .int .i64 wanted_1_0_2], .ro (.sl (.int .i64)) [.slice Awanted_1_0_0 wanted_1_0_0.length cwanted_1_0_0] wanted_1_0_0, .ro (.sl (.int .i64)) [.slice Awanted_1_0_1 wanted_1_0_1.length cwanted_1_0_1] wanted_1_0_1, .own 22 (.sl (.int .i64)) (.slice Al7_0 l7_0.length cl7_0) l7_0, .own 4 .bool (.slice (some ad34) (((List.replicate count_0.toNat false)).length) c10) qf14_1, .own 3 (.int .i64) (.slice A51 y49.length c53) y49] ∧ ((lim (l7_0.length + ([y49] : List (List Int)).length)).bind fun u95 => (chk (v16_0 + 1)).bind fun z102 => some (.inl ((l7_0 ++ ([y49] : List (List Int))), z102, qf14_1)) : Option (((List (List Int)) × Int × (List Bool)) ⊕ (((List (List Int)) × Int × (List Bool))))) = some o24) (fun K61 hK61 => ?_) ?_
 refine Wc.block ?_
 refine Wc.loop (fun m E wv => ∃ (v34_1 : Int) (qf14_1 : List Bool), E 1 = .func (.func 76) #[] #[.pointer (some ⟨gwanted_1_0, 0, none⟩)] ∧ E 2 = .func (.func 78) #[] #[.pointer (some ⟨gwanted_1_0, 0, none⟩)] ∧ E 6 = .slice none 0 0 ∧ E 7 = .slice Al7_0 l7_0.length cl7_0 ∧ E 8 = .slice (some ad34) (((List.replicate count_0.toNat false)).length) c10 ∧ E 9 = .int .i64 v16_0 ∧ E 10 = .slice A51 y49.length c53 ∧ E 15 = .int .i64 count_0 ∧ E 16 = .int .i64 v16_0 ∧ E 17 = .bool (decide (v16_0 < count_0)) ∧ E 28 = .bool (!y41) ∧ E 32 = .slice A51 y49.length c53 ∧ E 33 = .int .i64 (y49.length : Int) ∧ E 34 = .int .i64 v34_1 ∧ I64 v34_1 ∧ Cx I O0 w wv [.box gwanted_1_0 28 [.slice Awanted_1_0_0 wanted_1_0_0.length cwanted_1_0_0, .slice Awanted_1_0_1 wanted_1_0_1.length cwanted_1_0_1, .int .i64 wanted_1_0_2], .ro (.sl (.int .i64)) [.slice Awanted_1_0_0 wanted_1_0_0.length cwanted_1_0_0] wanted_1_0_0, .ro (.sl (.int .i64)) [.slice Awanted_1_0_1 wanted_1_0_1.length cwanted_1_0_1] wanted_1_0_1, .own 22 (.sl (.int .i64)) (.slice Al7_0 l7_0.length cl7_0) l7_0, .own 4 .bool (.slice (some ad34) (((List.replicate count_0.toNat false)).length) c10) qf14_1, .own 3 (.int .i64) (.slice A51 y49.length c53) y49] ∧ loopN m (F.diagram_cycles_diagram_Strands_c1_diagram_Strands_c2_b1 n y49) (v34_1, qf14_1) = some o60) n ⟨0, qf14_0, e1, e2, e6, e7, e8, e9, rfl, e15, e16, e17, e28, rfl, rfl, rfl, (show I64 0 from by unfold I64; omega), hC.sel [1, 2, 3, 4, 5, 0] (by decide), hl1⟩ ?_
 have hbK1 := hb
 clear hb hC hl1
 rintro m63 E65 w64 ⟨v34_1, qf14_1, e1, e2, e6, e7, e8, e9, e10, e15, e16, e17, e28, e32, e33, e34, hrv34_1, hC, hl1⟩ K62 hK62
 obtain ⟨m63', o66, rfl, hb, hl1⟩ := loopN_some hl1
 unfold F.diagram_cycles_diagram_Strands_c1_diagram_Strands_c2_b1 at hb
 refine Wc.seq fun K67 hK67 => ?_
 refine rg ?_
 refine lp (.bool (decide (v34_1 < (y49.length : Int)))) (pu_lss (k := .i64) (a := v34_1) (b := (y49.length : Int)) e34 e33) ?_
 refine ln ?_
 refine hK67 _ _ ?_
 refine Wc.seq fun K68 hK68 => ?_
 refine Wc.cond (t := (decide (v34_1 < (y49.length : Int)))) (rfl) (fun hq69 => ?_) (fun hq69 => ?_)
 replace hb := tt hq69 hb
 refine Wc.skip ?_
 refine hK68 _ _ ?_
 refine Wc.seq fun K70 hK70 => ?_
 refine Wc.block ?_
 refine Wc.seq fun K71 hK71 => ?_
 refine rg ?_
 obtain ⟨x72, h73, hb⟩ := bd hb
 obtain ⟨ad74, cs75, hA, hc76, hr77⟩ := hC.elo (i := 5) rfl (get_some h73).2
 subst hA
 refine lp (.pointer (some (ad74.add (v34_1.toNat * 1)))) (pu_index (a := v34_1) Try.underlying22 Try.sizeOf3 e32 e34 (get_some h73).1) ?_
 obtain ⟨rfl, hr77'⟩ := hr77
 refine lv (.int .i64 x72) (ld_one Try.isAgg3 rfl (hc76 0 _ rfl)) ?_
 refine lp (.int .i64 x72) (pu_assign rfl) ?_
 refine ln ?_
 refine hK71 _ _ ?_
 refine rg ?_
 refine lp (.slice (some ad34) (((List.replicate count_0.toNat false)).length) c10) (pu_move e8) ?_
 refine lp (.int .i64 x72) (pu_move rfl) ?_
 obtain ⟨x78, h79, hb⟩ := bd hb
 obtain ⟨ad80, cs81, hA, hc82, hr83⟩ := hC.elo (i := 4) rfl (get_some h79).2
 obtain rfl := Option.some.inj hA
 refine lp (.pointer (some (ad34.add (x72.toNat * 1)))) (pu_index (a := x72) Try.underlying55 Try.sizeOf4 rfl rfl (by rw [(hC.ow (i := 4) rfl).sl_len.1]; exact (get_some h79).1)) ?_
 refine lex.sk (hC.put (i := 4) rfl rfl Try.sizeOf4 (k := x72.toNat) (a := true) (by have := (get_some h79).1; simp at this ⊢; omega) (show Rep _ _ .bool _ _ from rfl) rfl rfl rfl) ?_
 rintro w84 ⟨hC, hF⟩
 refine ln ?_
 refine hK70 _ _ ?_
 refine rg ?_
 obtain ⟨z85, h86, hb⟩ := bd hb
 refine lp (.int .i64 z85) (pu_addc (a := v34_1) (b := 1) e34 rfl h86) ?_
 refine lp (.int .i64 z85) (pu_move rfl) ?_
 refine ln ?_
 obtain rfl := os hb
 exact hK62 m63' _ _ (Nat.lt_succ_self _) ⟨z85, (qf14_1.set x72.toNat true), e1, e2, e6, e7, e8, e9, e10, e15, e16, e17, e28, e32, e33, rfl, (chk_rng h86), hC.sel [0, 1, 2, 3, 4, 5] (by decide), lN hl1⟩
 replace hb := tf hq69 hb
 refine Wc.exit rfl ?_
 obtain rfl := os hb
 obtain rfl := (lX hl1).symm
 exact hK61 _ _ ⟨v34_1, qf14_1, e1, e2, e6, e7, e8, e9, e10, e15, e16, e17, e28, e32, e33, e34, hrv34_1, hC.sel [0, 1, 2, 3, 4, 5] (by decide), hbK1⟩
 clear hb hC hl1
 rintro E88 w87 ⟨v34_1, qf14_1, e1, e2, e6, e7, e8, e9, e10, e15, e16, e17, e28, e32, e33, e34, hrv34_1, hC, hb⟩
 refine hK58 _ _ ?_
 refine rg ?_
 refine lp (.slice Al7_0 l7_0.length cl7_0) (pu_move e7) ?_
 refine lp (.slice A51 y49.length c53) (pu_move e10) ?_
 replace hC := hC.freeze (i := 5) rfl (hC.own_newI hI (i := 5) rfl (List.forall_mem_cons.2 ⟨fun g hg => ⟨0, _, rfl, by decide, hg⟩, fun _ h => absurd h List.not_mem_nil⟩))
 refine lex.op (hC.lit (s := (.sl (.int .i64))) (vs := [.slice A51 y49.length c53]) (xs := [y49]) Try.underlying75 Try.type22 rfl rfl (Nat.le_of_ble_eq_true rfl) rfl rfl (by simp [Value.cells, Sh.n]) rfl (show Elems _ _ (.sl (.int .i64)) ([.slice A51 y49.length c53] ++ ([])) ([y49] : List (List Int)) from Elems.cons (hC.rd (i := 5) rfl) (Elems.nil _ _ _))) ?_
 rintro _ w93 ⟨A89, c90, rfl, hl91, hc92, hC, hF, hN⟩
 clear hF hN
 obtain ⟨u95, h96, hb⟩ := bd hb
 refine lex.op (hC.app (i := 4) (s := (.sl (.int .i64))) (xs := l7_0) (ys := ([y49] : List (List Int))) (m := ((([y49] : List (List Int))).length)) rfl Try.underlying75 Try.underlying75 Try.type22 rfl rfl rfl (hC.srco (i := 0) rfl) rfl rfl (by have := lim_some h96; simp at this ⊢ <;> omega) (by decide)) ?_
 rintro _ w101 ⟨A97, c98, rfl, hl99, hc100, hC, hF, hN⟩
 clear hF hN
 refine lp (.slice A97 ((l7_0 ++ ([y49] : List (List Int))).length) c98) (pu_assign rfl) ?_
 refine ln ?_
 refine hK28 _ _ ?_
 refine rg ?_
 obtain ⟨z102, h103, hb⟩ := bd hb
 refine lp (.int .i64 z102) (pu_addc (a := v16_0) (b := 1) e16 rfl h103) ?_
 refine lp (.int .i64 z102) (pu_move rfl) ?_
 refine ln ?_
 obtain rfl := os hb
 exact hK20 m21' _ _ (Nat.lt_succ_self _) ⟨(l7_0 ++ ([y49] : List (List Int))), z102, qf14_1, A97, (l7_0 ++ ([y49] : List (List Int))).length, c98, e1, e2, e6, rfl, e8, e15, rfl, (chk_rng h103), hC.sel [1, 2, 3, 4, 5] (by decide), lN hl0⟩
 replace hb := tf hq27 hb
 refine Wc.exit rfl ?_
 obtain rfl := os hb
 obtain rfl := (lX hl0).symm
 exact hK19 _ _ ⟨l7_0, v16_0, qf14_0, Al7_0, l7_0.length, cl7_0, e6, e7, hrv16_0, hC.sel [3, 0, 1, 2] (by decide), hbK0⟩
 clear hb hC hl0
 rintro E105 w104 ⟨l7_0, v16_0, qf14_0, Al7_0, ml7_0, cl7_0, e6, e7, hrv16_0, hC, hb⟩
 obtain ⟨rfl, hll7_0, hcl7_0⟩ := (hC.ow (i := 0) rfl).sl_len
 refine hK15 _ _ ?_
 refine Wc.seq fun K106 hK106 => ?_
 refine rg ?_
 refine lp (.slice Al7_0 l7_0.length cl7_0) (pu_move e7) ?_
 refine lp (.slice Al7_0 l7_0.length cl7_0) (pu_assign rfl) ?_
 refine ln ?_
 refine hK106 _ _ ?_
 obtain rfl := os hb
 subst hI
 refine Wc.ret ?_
 refine hKR _ _ ?_
 refine ⟨_, res1 Try.results77 (show RV _ _ _ (.tmp _) (.slice Al7_0 l7_0.length cl7_0) from rfl), _, rfl, Al7_0, l7_0.length, cl7_0, rfl, hC.sel [0, 1] (by decide)⟩

set_option maxRecDepth 100000 in
set_option maxHeartbeats 4000000 in
theorem diagram_Strands_ok (n : Nat) {w : World} {O0 : List Nat} (hO : ∀ k ∈ O0, k < w.heap.size) {Ad_0_0 : Option Addr} {md_0_0 cd_0_0 : Nat} {d_0_0 : List Int} (hd_0_0 : Rep O0 w (.sl (.int .i64)) [.slice Ad_0_0 md_0_0 cd_0_0] d_0_0) {Ad_0_1 : Option Addr} {md_0_1 cd_0_1 : Nat} {d_0_1 : List Int} (hd_0_1 : Rep O0 w (.sl (.int .i64)) [.slice Ad_0_1 md_0_1 cd_0_1] d_0_1) {d_0_2 : Int} (hd_0_2 : I64 d_0_2) {r : (List (List Int))} (hb : F.diagram_Strands n d_0_0 d_0_1 d_0_2 = some r) :
    Calls Try.prog 54 #[.agg #[.slice Ad_0_0 md_0_0 cd_0_0, .slice Ad_0_1 md_0_1 cd_0_1, .int .i64 d_0_2]] w fun e w' => ∃ v, e = .returned v ∧ ∃ (A0 : Option Addr) (m0 c0 : Nat), v = .slice A0 m0 c0 ∧ Cx (fun _ => False) O0 w w' [.own 22 (.sl (.int .i64)) (.slice A0 m0 c0) r] := by
 unfold F.diagram_Strands at hb
 have hC := Cx.start hO
 replace hC := hC.arg rfl hd_0_0
 replace hC := hC.arg rfl hd_0_1
 clear hO
 obtain ⟨rfl, hld_0_0, hcd_0_0⟩ := hd_0_0.sl_len
 obtain ⟨rfl, hld_0_1, hcd_0_1⟩ := hd_0_1.sl_len
 refine calls_of_Wc Try.func54 rfl (by rw [Try.ntmps54]; exact Nat.le_of_ble_eq_true rfl) fun KR hKR => ?_
 refine Wc.seq fun K3 hK3 => ?_
 refine rg ?_
 refine lex.op (hC.box (cs := [.slice Ad_0_0 d_0_0.length cd_0_0, .slice Ad_0_1 d_0_1.length cd_0_1, .int .i64 d_0_2]) rfl rfl) ?_
 rintro _ w5 ⟨g4, rfl, hC, hF, hG⟩
 clear hG
 refine lp (.slice none 0 0) (pu_assign rfl) ?_
 refine ln ?_
 refine hK3 _ _ ?_
 refine Wc.seq fun K7 hK7 => ?_
 refine Wc.seq fun K8 hK8 => ?_
 refine rg ?_
 refine lv (.agg #[.slice Ad_0_0 d_0_0.length cd_0_0, .slice Ad_0_1 d_0_1.length cd_0_1, .int .i64 d_0_2]) (ld_blk (hC.bx (i := 0) rfl) Try.isAgg28 Try.sizeOf28 rfl) ?_
 obtain ⟨y9, h10, hb⟩ := bd hb
 refine lex.cl (⟨_, _, op_call (vs := [.agg #[.slice Ad_0_0 d_0_0.length cd_0_0, .slice Ad_0_1 d_0_1.length cd_0_1, .int .i64 d_0_2]]) Try.call28 rfl rfl rfl, diagram_Valid_ok n hC.lt (hC.rd (i := 2) rfl) (hC.rd (i := 1) rfl) hd_0_2 h10⟩) ?_
 rintro _ w11 ⟨rfl, hK⟩
 replace hC := hC.merge hK
 clear hK
 refine lp (.bool (!y9)) (pu_not (q := y9) rfl) ?_
 refine ln ?_
 refine hK8 _ _ ?_
 refine Wc.cond (t := (!y9)) (rfl) (fun hq12 => ?_) (fun hq12 => ?_)
 replace hb := tt hq12 hb
 refine Wc.seq fun K13 hK13 => ?_
 refine rg ?_
 refine lp (.slice none 0 0) (pu_assign rfl) ?_
 refine ln ?_
 refine hK13 _ _ ?_
 replace hC := hC.nil 22 (.sl (.int .i64))
 obtain rfl := os hb
 refine Wc.ret ?_
 refine hKR _ _ ?_
 refine ⟨_, res1 Try.results54 (show RV _ _ _ (.tmp _) (.slice none 0 0) from rfl), _, rfl, none, 0, 0, rfl, hC.sel [0] (by decide)⟩
 replace hb := tf hq12 hb
 refine Wc.skip ?_
 refine hK7 _ _ ?_
 refine Wc.seq fun K15 hK15 => ?_
 refine rg ?_
 refine lp (.func (.func 76) #[] #[.pointer (some ⟨g4, 0, none⟩)]) (pu_funcc rfl) ?_
 refine lp (.func (.func 76) #[] #[.pointer (some ⟨g4, 0, none⟩)]) (pu_assign rfl) ?_
 refine ln ?_
 refine hK15 _ _ ?_
 refine Wc.seq fun K16 hK16 => ?_
 refine rg ?_
 refine lp (.pointer (some ((⟨g4, 0, none⟩ : Addr).add 1))) (pu_field (sz := 1) Try.underlying28 rfl Try.sizeOf22 (by decide) rfl rfl) ?_
 refine lv (.slice Ad_0_1 d_0_1.length cd_0_1) (ld_fld (hC.bx (i := 0) rfl) Try.isAgg22 rfl rfl) ?_
 refine lp (.int .i64 (d_0_1.length : Int)) (pu_len (A := Ad_0_1) (n := d_0_1.length) (m := cd_0_1) Try.underlying22 rfl) ?_
 refine lp (.func (.func 76) #[] #[.pointer (some ⟨g4, 0, none⟩)]) (pu_move rfl) ?_
 refine lp (.func (.func 78) #[] #[.pointer (some ⟨g4, 0, none⟩)]) (pu_funcc rfl) ?_
 replace hC : Cx (fun _ => False) O0 w w11 ([.box g4 28 [.slice Ad_0_0 d_0_0.length cd_0_0, .slice Ad_0_1 d_0_1.length cd_0_1, .int .i64 d_0_2]] ++ [.ro (.sl (.int .i64)) [.slice Ad_0_1 d_0_1.length cd_0_1] d_0_1, .ro (.sl (.int .i64)) [.slice Ad_0_0 d_0_0.length cd_0_0] d_0_0]) := hC.sel [0, 1, 2] (by decide)
 obtain ⟨y17, h18, hb⟩ := bd hb
 refine lex.cl (⟨_, _, op_call (vs := [.int .i64 (d_0_1.length : Int), .func (.func 76) #[] #[.pointer (some ⟨g4, 0, none⟩)], .func (.func 78) #[] #[.pointer (some ⟨g4, 0, none⟩)]]) Try.call77 rfl rfl rfl, diagram_cycles_diagram_Strands_c1_diagram_Strands_c2_ok n hC.lt (I64.len hld_0_1 hcd_0_1) (hC.rd (i := 2) rfl) (hC.rd (i := 1) rfl) hd_0_2 hC.give h18⟩) ?_
 rintro _ w23 ⟨A19, m20, c21, rfl, hK⟩
 replace hC := hC.back hK
 clear hK
 obtain ⟨rfl, hl24, hc25⟩ := (hC.ow (i := 0) rfl).sl_len
 refine lp (.slice A19 y17.length c21) (pu_assign rfl) ?_
 refine ln ?_
 refine hK16 _ _ ?_
 obtain rfl := os hb
 refine Wc.ret ?_
 refine hKR _ _ ?_
 refine ⟨_, res1 Try.results54 (show RV _ _ _ (.tmp _) (.slice A19 y17.length c21) from rfl), _, rfl, A19, y17.length, c21, rfl, hC.sel [0] (by decide)⟩

set_option maxRecDepth 100000 in
set_option maxHeartbeats 4000000 in
theorem diagram_Components_ok (n : Nat) {w : World} {O0 : List Nat} (hO : ∀ k ∈ O0, k < w.heap.size) {Ad_0_0 : Option Addr} {md_0_0 cd_0_0 : Nat} {d_0_0 : List Int} (hd_0_0 : Rep O0 w (.sl (.int .i64)) [.slice Ad_0_0 md_0_0 cd_0_0] d_0_0) {Ad_0_1 : Option Addr} {md_0_1 cd_0_1 : Nat} {d_0_1 : List Int} (hd_0_1 : Rep O0 w (.sl (.int .i64)) [.slice Ad_0_1 md_0_1 cd_0_1] d_0_1) {d_0_2 : Int} (hd_0_2 : I64 d_0_2) {r : Int} (hb : F.diagram_Components n d_0_0 d_0_1 d_0_2 = some r) :
    Calls Try.prog 29 #[.agg #[.slice Ad_0_0 md_0_0 cd_0_0, .slice Ad_0_1 md_0_1 cd_0_1, .int .i64 d_0_2]] w fun e w' => ∃ v, e = .returned v ∧ v = .int .i64 r ∧ I64 r ∧ Cx (fun _ => False) O0 w w' [] := by
 unfold F.diagram_Components at hb
 have hC := Cx.start hO
 replace hC := hC.arg rfl hd_0_0
 replace hC := hC.arg rfl hd_0_1
 clear hO
 obtain ⟨rfl, hld_0_0, hcd_0_0⟩ := hd_0_0.sl_len
 obtain ⟨rfl, hld_0_1, hcd_0_1⟩ := hd_0_1.sl_len
 refine calls_of_Wc Try.func29 rfl (by rw [Try.ntmps29]; exact Nat.le_of_ble_eq_true rfl) fun KR hKR => ?_
 refine Wc.seq fun K3 hK3 => ?_
 refine rg ?_
 refine lex.op (hC.box (cs := [.slice Ad_0_0 d_0_0.length cd_0_0, .slice Ad_0_1 d_0_1.length cd_0_1, .int .i64 d_0_2]) rfl rfl) ?_
 rintro _ w5 ⟨g4, rfl, hC, hF, hG⟩
 clear hG
 refine lp (.int .i64 0) (pu_assign rfl) ?_
 refine ln ?_
 refine hK3 _ _ ?_
 refine Wc.seq fun K7 hK7 => ?_
 refine Wc.seq fun K8 hK8 => ?_
 refine rg ?_
 refine lv (.agg #[.slice Ad_0_0 d_0_0.length cd_0_0, .slice Ad_0_1 d_0_1.length cd_0_1, .int .i64 d_0_2]) (ld_blk (hC.bx (i := 0) rfl) Try.isAgg28 Try.sizeOf28 rfl) ?_
 obtain ⟨y9, h10, hb⟩ := bd hb
 refine lex.cl (⟨_, _, op_call (vs := [.agg #[.slice Ad_0_0 d_0_0.length cd_0_0, .slice Ad_0_1 d_0_1.length cd_0_1, .int .i64 d_0_2]]) Try.call28 rfl rfl rfl, diagram_Valid_ok n hC.lt (hC.rd (i := 2) rfl) (hC.rd (i := 1) rfl) hd_0_2 h10⟩) ?_
 rintro _ w11 ⟨rfl, hK⟩
 replace hC := hC.merge hK
 clear hK
 refine lp (.bool (!y9)) (pu_not (q := y9) rfl) ?_
 refine ln ?_
 refine hK8 _ _ ?_
 refine Wc.cond (t := (!y9)) (rfl) (fun hq12 => ?_) (fun hq12 => ?_)
 replace hb := tt hq12 hb
 refine Wc.seq fun K13 hK13 => ?_
 refine rg ?_
 refine lp (.int .i64 0) (pu_assign rfl) ?_
 refine ln ?_
 refine hK13 _ _ ?_
 obtain rfl := os hb
 refine Wc.ret ?_
 refine hKR _ _ ?_
 refine ⟨_, res1 Try.results29 (show RV _ _ _ (.tmp _) (.int .i64 0) from rfl), _, rfl, rfl, (show I64 0 from by unfold I64; omega), hC.sel [] (by decide)⟩
 replace hb := tf hq12 hb
 refine Wc.skip ?_
 refine hK7 _ _ ?_
 refine Wc.seq fun K14 hK14 => ?_
 refine Wc.regionMix [] (frm [] ([] : List Fact) ([] : List Fact)) (fun _ => rfl) mixed (by decide +kernel) (by decide +kernel) fun w16 hw15 => ?_
 replace hC := hC.step (Fr.of_drew hw15)
 have hM := Fr.refl (fun k => k ∈ blocks ([] : List Fact)) w16
 clear hw15
 have hS := hC
 refine mixE.load hM (v := .agg #[.slice Ad_0_0 d_0_0.length cd_0_0, .slice Ad_0_1 d_0_1.length cd_0_1, .int .i64 d_0_2]) (fun _ hF => ld_blk (hS.bx2 (i := 0) rfl [] (by decide) hF) Try.isAgg28 Try.sizeOf28 rfl) ?_
 obtain ⟨y17, h18, hb⟩ := bd hb
 refine mixE.cl hM (⟨_, _, op_call (vs := [.agg #[.slice Ad_0_0 d_0_0.length cd_0_0, .slice Ad_0_1 d_0_1.length cd_0_1, .int .i64 d_0_2]]) Try.call54 rfl rfl rfl, diagram_Strands_ok n hC.lt (hC.rd (i := 2) rfl) (hC.rd (i := 1) rfl) hd_0_2 h18⟩) ?_
 rintro _ w23 ⟨A19, m20, c21, rfl, hK⟩
 have hBf22 := Beside.cl (i := 0) hM hK rfl
 replace hM := hM.none hK.fr
 refine ⟨hM, ?_⟩
 replace hC := hC.merge hK
 clear hK
 obtain ⟨rfl, hl24, hc25⟩ := (hC.ow (i := 0) rfl).sl_len
 refine mp (.int .i64 (y17.length : Int)) (pu_len (A := A19) (n := y17.length) (m := c21) Try.underlying75 rfl) ?_
 refine mp (.pointer (some ((⟨g4, 0, none⟩ : Addr).add 2))) (pu_field (sz := 1) Try.underlying28 rfl Try.sizeOf3 (by decide) rfl rfl) ?_
 refine mixE.load hM (v := .int .i64 d_0_2) (fun _ hF => ld_fld (hS.bx2 (i := 0) rfl [] (by decide) hF) Try.isAgg3 rfl rfl) ?_
 obtain ⟨z26, h27, hb⟩ := bd hb
 refine mp (.int .i64 z26) (pu_addc (a := (y17.length : Int)) (b := d_0_2) rfl rfl h27) ?_
 refine mp (.int .i64 z26) (pu_assign rfl) ?_
 refine mixE.nil ?_
 clear hS hM
 refine hK14 _ _ ?_
 obtain rfl := os hb
 refine Wc.ret ?_
 refine hKR _ _ ?_
 refine ⟨_, res1 Try.results29 (show RV _ _ _ (.tmp _) (.int .i64 z26) from rfl), _, rfl, rfl, (chk_rng h27), hC.sel [] (by decide)⟩

set_option maxRecDepth 100000 in
set_option maxHeartbeats 4000000 in
theorem grid_Components_ok (n : Nat) {w : World} {O0 : List Nat} (hO : ∀ k ∈ O0, k < w.heap.size) {Ag_0_0 : Option Addr} {mg_0_0 cg_0_0 : Nat} {g_0_0 : List Int} (hg_0_0 : Rep O0 w (.sl (.int .i64)) [.slice Ag_0_0 mg_0_0 cg_0_0] g_0_0) {Ag_0_1 : Option Addr} {mg_0_1 cg_0_1 : Nat} {g_0_1 : List Int} (hg_0_1 : Rep O0 w (.sl (.int .i64)) [.slice Ag_0_1 mg_0_1 cg_0_1] g_0_1) {r : Int} (hb : F.grid_Components n g_0_0 g_0_1 = some r) :
    Calls Try.prog 30 #[.agg #[.slice Ag_0_0 mg_0_0 cg_0_0, .slice Ag_0_1 mg_0_1 cg_0_1]] w fun e w' => ∃ v, e = .returned v ∧ v = .int .i64 r ∧ I64 r ∧ Cx (fun _ => False) O0 w w' [] := by
 unfold F.grid_Components at hb
 have hC := Cx.start hO
 replace hC := hC.arg rfl hg_0_0
 replace hC := hC.arg rfl hg_0_1
 clear hO
 obtain ⟨rfl, hlg_0_0, hcg_0_0⟩ := hg_0_0.sl_len
 obtain ⟨rfl, hlg_0_1, hcg_0_1⟩ := hg_0_1.sl_len
 refine calls_of_Wc Try.func30 rfl (by rw [Try.ntmps30]; exact Nat.le_of_ble_eq_true rfl) fun KR hKR => ?_
 refine Wc.seq fun K3 hK3 => ?_
 refine rg ?_
 refine lex.op (hC.box (cs := [.slice Ag_0_0 g_0_0.length cg_0_0, .slice Ag_0_1 g_0_1.length cg_0_1]) rfl rfl) ?_
 rintro _ w5 ⟨g4, rfl, hC, hF, hG⟩
 clear hG
 refine lp (.int .i64 0) (pu_assign rfl) ?_
 refine ln ?_
 refine hK3 _ _ ?_
 refine Wc.seq fun K7 hK7 => ?_
 refine Wc.seq fun K8 hK8 => ?_
 refine rg ?_
 refine lv (.agg #[.slice Ag_0_0 g_0_0.length cg_0_0, .slice Ag_0_1 g_0_1.length cg_0_1]) (ld_blk (hC.bx (i := 0) rfl) Try.isAgg24 Try.sizeOf24 rfl) ?_
 obtain ⟨y9, h10, hb⟩ := bd hb
 refine lex.cl (⟨_, _, op_call (vs := [.agg #[.slice Ag_0_0 g_0_0.length cg_0_0, .slice Ag_0_1 g_0_1.length cg_0_1]]) Try.call26 rfl rfl rfl, grid_Valid_ok n hC.lt (hC.rd (i := 2) rfl) (hC.rd (i := 1) rfl) h10⟩) ?_
 rintro _ w11 ⟨rfl, hK⟩
 replace hC := hC.merge hK
 clear hK
 refine lp (.bool (!y9)) (pu_not (q := y9) rfl) ?_
 refine ln ?_
 refine hK8 _ _ ?_
 refine Wc.cond (t := (!y9)) (rfl) (fun hq12 => ?_) (fun hq12 => ?_)
 replace hb := tt hq12 hb
 refine Wc.seq fun K13 hK13 => ?_
 refine rg ?_
 refine lp (.int .i64 0) (pu_assign rfl) ?_
 refine ln ?_
 refine hK13 _ _ ?_
 obtain rfl := os hb
 refine Wc.ret ?_
 refine hKR _ _ ?_
 refine ⟨_, res1 Try.results30 (show RV _ _ _ (.tmp _) (.int .i64 0) from rfl), _, rfl, rfl, (show I64 0 from by unfold I64; omega), hC.sel [] (by decide)⟩
 replace hb := tf hq12 hb
 refine Wc.skip ?_
 refine hK7 _ _ ?_
 refine Wc.seq fun K14 hK14 => ?_
 refine rg ?_
 refine lp (.pointer (some ((⟨g4, 0, none⟩ : Addr).add 0))) (pu_field (sz := 1) Try.underlying24 rfl Try.sizeOf22 (by decide) rfl rfl) ?_
 refine lv (.slice Ag_0_0 g_0_0.length cg_0_0) (ld_fld (hC.bx (i := 0) rfl) Try.isAgg22 rfl rfl) ?_
 obtain ⟨y15, h16, hb⟩ := bd hb
 refine lex.cl (⟨_, _, op_call (vs := [.slice Ag_0_0 g_0_0.length cg_0_0]) Try.call51 rfl rfl rfl, grid_columns_ok n hC.lt (hC.rd (i := 2) rfl) h16⟩) ?_
 rintro _ w23 ⟨A17, m18, c19, gr21, rfl, hK⟩
 replace hC := hC.merge hK
 clear hK
 obtain ⟨rfl, hl24, hc25⟩ := (hC.ow (i := 0) rfl).sl_len
 refine lp (.func (.func 73) #[] #[.pointer (some ⟨gr21, 0, none⟩)]) (pu_assign rfl) ?_
 refine ln ?_
 refine hK14 _ _ ?_
 refine Wc.seq fun K26 hK26 => ?_
 refine rg ?_
 refine lp (.pointer (some ((⟨g4, 0, none⟩ : Addr).add 0))) (pu_field (sz := 1) Try.underlying24 rfl Try.sizeOf22 (by decide) rfl rfl) ?_
 refine lv (.slice Ag_0_0 g_0_0.length cg_0_0) (ld_fld (hC.bx (i := 2) rfl) Try.isAgg22 rfl rfl) ?_
 refine lp (.int .i64 (g_0_0.length : Int)) (pu_len (A := Ag_0_0) (n := g_0_0.length) (m := cg_0_0) Try.underlying22 rfl) ?_
 obtain ⟨u27, h28, hb⟩ := bd hb
 refine lex.op (hC.make (s := .bool) (n := (g_0_0.length : Int)) Try.underlying55 Try.type4 rfl rfl rfl rfl rfl (pos_some h28).1 (pos_some h28).2 (by decide)) ?_
 rintro _ w33 ⟨A29, c30, rfl, hl31, hc32, hC, hF, hN⟩
 clear hF hN
 refine lp (.slice A29 (((List.replicate (g_0_0.length : Int).toNat false)).length) c30) (pu_assign rfl) ?_
 refine ln ?_
 refine hK26 _ _ ?_
 refine Wc.fresh fun E35 hE => ?_
 have e1 : E35 1 = .pointer (some ⟨g4, 0, none⟩) := (congrFun hE 1).trans rfl
 have e2 : E35 2 = .int .i64 0 := (congrFun hE 2).trans rfl
 have e3 : E35 3 = .func (.func 73) #[] #[.pointer (some ⟨gr21, 0, none⟩)] := (congrFun hE 3).trans rfl
 have e4 : E35 4 = .slice A29 (((List.replicate (g_0_0.length : Int).toNat false)).length) c30 := (congrFun hE 4).trans rfl
 clear hE
 refine Wc.seq fun K36 hK36 => ?_
 refine rg ?_
 refine lp (.int .i64 0) (pu_assign rfl) ?_
 refine ln ?_
 refine hK36 _ _ ?_
 refine Wc.seq fun K37 hK37 => ?_
 refine Wc.seq fun K38 hK38 => ?_
 refine rg ?_
 refine lp (.pointer (some ((⟨g4, 0, none⟩ : Addr).add 0))) (pu_field (sz := 1) Try.underlying24 rfl Try.sizeOf22 (by decide) rfl e1) ?_
 refine lv (.slice Ag_0_0 g_0_0.length cg_0_0) (ld_fld (hC.bx (i := 3) rfl) Try.isAgg22 rfl rfl) ?_
 refine lp (.int .i64 (g_0_0.length : Int)) (pu_len (A := Ag_0_0) (n := g_0_0.length) (m := cg_0_0) Try.underlying22 rfl) ?_
 refine lp (.int .i64 0) (pu_move rfl) ?_
 refine ln ?_
 refine hK38 _ _ ?_
 obtain ⟨o39, hl0, hb⟩ := bd hb
 refine Wc.cut (fun E wv => ∃ (v5_0 : Int) (v20_0 : Int) (qf34_0 : List Bool), E 2 = .int .i64 0 ∧ E 5 = .int .i64 v5_0 ∧ I64 v5_0 ∧ I64 v20_0 ∧ Cx (fun _ => False) O0 w wv [] ∧ (some v5_0 : Option (Int)) = some r) (fun K40 hK40 => ?_) ?_
 refine Wc.block ?_
 refine Wc.loop (fun m E wv => ∃ (v5_0 : Int) (v20_0 : Int) (qf34_0 : List Bool), E 1 = .pointer (some ⟨g4, 0, none⟩) ∧ E 2 = .int .i64 0 ∧ E 3 = .func (.func 73) #[] #[.pointer (some ⟨gr21, 0, none⟩)] ∧ E 4 = .slice A29 (((List.replicate (g_0_0.length : Int).toNat false)).length) c30 ∧ E 5 = .int .i64 v5_0 ∧ E 19 = .int .i64 (g_0_0.length : Int) ∧ E 20 = .int .i64 v20_0 ∧ I64 v5_0 ∧ I64 v20_0 ∧ Cx (fun _ => False) O0 w wv [.box g4 24 [.slice Ag_0_0 g_0_0.length cg_0_0, .slice Ag_0_1 g_0_1.length cg_0_1], .ro (.sl (.int .i64)) [.slice Ag_0_0 g_0_0.length cg_0_0] g_0_0, .ro (.sl (.int .i64)) [.slice Ag_0_1 g_0_1.length cg_0_1] g_0_1, .box gr21 22 [.slice A17 y15.length c19], .own 3 (.int .i64) (.slice A17 y15.length c19) y15, .own 4 .bool (.slice A29 (((List.replicate (g_0_0.length : Int).toNat false)).length) c30) qf34_0] ∧ loopN m (F.grid_Components_b0 n g_0_0 g_0_1 y15) (v5_0, v20_0, qf34_0) = some o39) n ⟨0, 0, (List.replicate (g_0_0.length : Int).toNat false), e1, e2, e3, e4, rfl, rfl, rfl, (show I64 0 from by unfold I64; omega), (show I64 0 from by unfold I64; omega), hC.sel [3, 5, 4, 2, 1, 0] (by decide), hl0⟩ ?_
 have hbK0 := hb
 clear hb hC hl0
 rintro m42 E44 w43 ⟨v5_0, v20_0, qf34_0, e1, e2, e3, e4, e5, e19, e20, hrv5_0, hrv20_0, hC, hl0⟩ K41 hK41
 obtain ⟨m42', o45, rfl, hb, hl0⟩ := loopN_some hl0
 unfold F.grid_Components_b0 at hb
 refine Wc.seq fun K46 hK46 => ?_
 refine rg ?_
 refine lp (.bool (decide (v20_0 < (g_0_0.length : Int)))) (pu_lss (k := .i64) (a := v20_0) (b := (g_0_0.length : Int)) e20 e19) ?_
 refine ln ?_
 refine hK46 _ _ ?_
 refine Wc.seq fun K47 hK47 => ?_
 refine Wc.cond (t := (decide (v20_0 < (g_0_0.length : Int)))) (rfl) (fun hq48 => ?_) (fun hq48 => ?_)
 replace hb := tt hq48 hb
 refine Wc.skip ?_
 refine hK47 _ _ ?_
 refine Wc.seq fun K49 hK49 => ?_
 refine Wc.block ?_
 refine Wc.seq fun K50 hK50 => ?_
 refine rg ?_
 refine lp (.int .i64 v20_0) (pu_move e20) ?_
 refine lp (.int .i64 v20_0) (pu_assign rfl) ?_
 refine ln ?_
 refine hK50 _ _ ?_
 refine Wc.seq fun K51 hK51 => ?_
 refine Wc.seq fun K52 hK52 => ?_
 refine rg ?_
 refine lp (.slice A29 (((List.replicate (g_0_0.length : Int).toNat false)).length) c30) (pu_move e4) ?_
 refine lp (.int .i64 v20_0) (pu_move rfl) ?_
 obtain ⟨x53, h54, hb⟩ := bd hb
 obtain ⟨ad55, cs56, hA, hc57, hr58⟩ := hC.elo (i := 5) rfl (get_some h54).2
 subst hA
 refine lp (.pointer (some (ad55.add (v20_0.toNat * 1)))) (pu_index (a := v20_0) Try.underlying55 Try.sizeOf4 rfl rfl (by rw [(hC.ow (i := 5) rfl).sl_len.1]; exact (get_some h54).1)) ?_
 obtain rfl := (show _ = _ from hr58)
 refine lv (.bool x53) (ld_one Try.isAgg4 rfl (hc57 0 _ rfl)) ?_
 refine ln ?_
 refine hK52 _ _ ?_
 refine Wc.cond (t := x53) (rfl) (fun hq59 => ?_) (fun hq59 => ?_)
 replace hb := tt hq59 hb
 refine Wc.exit rfl ?_
 refine hK49 _ _ ?_
 refine rg ?_
 obtain ⟨z60, h61, hb⟩ := bd hb
 refine lp (.int .i64 z60) (pu_addc (a := v20_0) (b := 1) e20 rfl h61) ?_
 refine lp (.int .i64 z60) (pu_move rfl) ?_
 refine ln ?_
 obtain rfl := os hb
 exact hK41 m42' _ _ (Nat.lt_succ_self _) ⟨v5_0, z60, qf34_0, e1, e2, e3, e4, e5, e19, rfl, hrv5_0, (chk_rng h61), hC.sel [0, 1, 2, 3, 4, 5] (by decide), lN hl0⟩
 replace hb := tf hq59 hb
 refine Wc.skip ?_
 refine hK51 _ _ ?_
 refine Wc.seq fun K62 hK62 => ?_
 refine rg ?_
 refine lp (.int .i64 v5_0) (pu_move e5) ?_
 obtain ⟨z63, h64, hb⟩ := bd hb
 refine lp (.int .i64 z63) (pu_addc (a := v5_0) (b := 1) rfl rfl h64) ?_
 refine lp (.int .i64 z63) (pu_assign rfl) ?_
 refine ln ?_
 refine hK62 _ _ ?_
 refine Wc.fresh fun E65 hE => ?_
 have e1 := (congrFun hE 1).trans e1
 have e2 := (congrFun hE 2).trans e2
 have e3 := (congrFun hE 3).trans e3
 have e4 := (congrFun hE 4).trans e4
 have e5 : E65 5 = .int .i64 z63 := (congrFun hE 5).trans rfl
 have e6 : E65 6 = .int .i64 v20_0 := (congrFun hE 6).trans rfl
 have e19 := (congrFun hE 19).trans e19
 have e20 := (congrFun hE 20).trans e20
 have e21 : E65 21 = .bool (decide (v20_0 < (g_0_0.length : Int))) := (congrFun hE 21).trans rfl
 have e26 : E65 26 = .bool x53 := (congrFun hE 26).trans rfl
 clear hE
 obtain ⟨o66, hl1, hb⟩ := bd hb
 refine Wc.cut (fun E wv => ∃ (v6_1 : Int) (qf34_1 : List Bool), E 1 = .pointer (some ⟨g4, 0, none⟩) ∧ E 2 = .int .i64 0 ∧ E 3 = .func (.func 73) #[] #[.pointer (some ⟨gr21, 0, none⟩)] ∧ E 4 = .slice (some ad55) (((List.replicate (g_0_0.length : Int).toNat false)).length) c30 ∧ E 5 = .int .i64 z63 ∧ E 6 = .int .i64 v6_1 ∧ E 19 = .int .i64 (g_0_0.length : Int) ∧ E 20 = .int .i64 v20_0 ∧ E 21 = .bool (decide (v20_0 < (g_0_0.length : Int))) ∧ E 26 = .bool x53 ∧ I64 v6_1 ∧ Cx (fun _ => False) O0 w wv [.box g4 24 [.slice Ag_0_0 g_0_0.length cg_0_0, .slice Ag_0_1 g_0_1.length cg_0_1], .ro (.sl (.int .i64)) [.slice Ag_0_0 g_0_0.length cg_0_0] g_0_0, .ro (.sl (.int .i64)) [.slice Ag_0_1 g_0_1.length cg_0_1] g_0_1, .box gr21 22 [.slice A17 y15.length c19], .own 3 (.int .i64) (.slice A17 y15.length c19) y15, .own 4 .bool (.slice (some ad55) (((List.replicate (g_0_0.length : Int).toNat false)).length) c30) qf34_1] ∧ ((chk (v20_0 + 1)).bind fun z102 => some (.inl (z63, z102, qf34_1)) : Option ((Int × Int × (List Bool)) ⊕ ((Int × Int × (List Bool))))) = some o45) (fun K67 hK67 => ?_) ?_
 refine Wc.block ?_
 refine Wc.loop (fun m E wv => ∃ (v6_1 : Int) (qf34_1 : List Bool), E 1 = .pointer (some ⟨g4, 0, none⟩) ∧ E 2 = .int .i64 0 ∧ E 3 = .func (.func 73) #[] #[.pointer (some ⟨gr21, 0, none⟩)] ∧ E 4 = .slice (some ad55) (((List.replicate (g_0_0.length : Int).toNat false)).length) c30 ∧ E 5 = .int .i64 z63 ∧ E 6 = .int .i64 v6_1 ∧ E 19 = .int .i64 (g_0_0.length : Int) ∧ E 20 = .int .i64 v20_0 ∧ E 21 = .bool (decide (v20_0 < (g_0_0.length : Int))) ∧ E 26 = .bool x53 ∧ I64 v6_1 ∧ Cx (fun _ => False) O0 w wv [.box g4 24 [.slice Ag_0_0 g_0_0.length cg_0_0, .slice Ag_0_1 g_0_1.length cg_0_1], .ro (.sl (.int .i64)) [.slice Ag_0_0 g_0_0.length cg_0_0] g_0_0, .ro (.sl (.int .i64)) [.slice Ag_0_1 g_0_1.length cg_0_1] g_0_1, .box gr21 22 [.slice A17 y15.length c19], .own 3 (.int .i64) (.slice A17 y15.length c19) y15, .own 4 .bool (.slice (some ad55) (((List.replicate (g_0_0.length : Int).toNat false)).length) c30) qf34_1] ∧ loopN m (F.grid_Components_b1 n g_0_1 y15) (v6_1, qf34_1) = some o66) n ⟨v20_0, qf34_0, e1, e2, e3, e4, e5, e6, e19, e20, e21, e26, hrv20_0, hC.sel [0, 1, 2, 3, 4, 5] (by decide), hl1⟩ ?_
 have hbK1 := hb
 clear hb hC hl1
 rintro m69 E71 w70 ⟨v6_1, qf34_1, e1, e2, e3, e4, e5, e6, e19, e20, e21, e26, hrv6_1, hC, hl1⟩ K68 hK68
 obtain ⟨m69', o72, rfl, hb, hl1⟩ := loopN_some hl1
 unfold F.grid_Components_b1 at hb
 refine Wc.seq fun K73 hK73 => ?_
 refine Wc.seq fun K74 hK74 => ?_
 refine rg ?_
 refine lp (.slice (some ad55) (((List.replicate (g_0_0.length : Int).toNat false)).length) c30) (pu_move e4) ?_
 refine lp (.int .i64 v6_1) (pu_move e6) ?_
 obtain ⟨x75, h76, hb⟩ := bd hb
 obtain ⟨ad77, cs78, hA, hc79, hr80⟩ := hC.elo (i := 5) rfl (get_some h76).2
 obtain rfl := Option.some.inj hA
 refine lp (.pointer (some (ad55.add (v6_1.toNat * 1)))) (pu_index (a := v6_1) Try.underlying55 Try.sizeOf4 rfl rfl (by rw [(hC.ow (i := 5) rfl).sl_len.1]; exact (get_some h76).1)) ?_
 obtain rfl := (show _ = _ from hr80)
 refine lv (.bool x75) (ld_one Try.isAgg4 rfl (hc79 0 _ rfl)) ?_
 refine lp (.bool (!x75)) (pu_not (q := x75) rfl) ?_
 refine ln ?_
 refine hK74 _ _ ?_
 refine Wc.cond (t := (!x75)) (rfl) (fun hq81 => ?_) (fun hq81 => ?_)
 replace hb := tt hq81 hb
 refine Wc.skip ?_
 refine hK73 _ _ ?_
 refine Wc.block ?_
 refine Wc.seq fun K82 hK82 => ?_
 refine rg ?_
 refine lp (.slice (some ad55) (((List.replicate (g_0_0.length : Int).toNat false)).length) c30) (pu_move e4) ?_
 refine lp (.int .i64 v6_1) (pu_move e6) ?_
 obtain ⟨x83, h84, hb⟩ := bd hb
 obtain ⟨ad85, cs86, hA, hc87, hr88⟩ := hC.elo (i := 5) rfl (get_some h84).2
 obtain rfl := Option.some.inj hA
 refine lp (.pointer (some (ad55.add (v6_1.toNat * 1)))) (pu_index (a := v6_1) Try.underlying55 Try.sizeOf4 rfl rfl (by rw [(hC.ow (i := 5) rfl).sl_len.1]; exact (get_some h84).1)) ?_
 refine lex.sk (hC.put (i := 5) rfl rfl Try.sizeOf4 (k := v6_1.toNat) (a := true) (by have := (get_some h84).1; simp at this ⊢; omega) (show Rep _ _ .bool _ _ from rfl) rfl rfl rfl) ?_
 rintro w89 ⟨hC, hF⟩
 refine ln ?_
 refine hK82 _ _ ?_
 refine rg ?_
 refine lp (.func (.func 73) #[] #[.pointer (some ⟨gr21, 0, none⟩)]) (pu_move e3) ?_
 refine lp (.pointer (some ((⟨g4, 0, none⟩ : Addr).add 1))) (pu_field (sz := 1) Try.underlying24 rfl Try.sizeOf22 (by decide) rfl e1) ?_
 refine lv (.slice Ag_0_1 g_0_1.length cg_0_1) (ld_fld (hC.bx (i := 0) rfl) Try.isAgg22 rfl rfl) ?_
 refine lp (.int .i64 v6_1) (pu_move e6) ?_
 obtain ⟨x90, h91, hb⟩ := bd hb
 obtain ⟨ad92, cs93, hA, hc94, hr95⟩ := hC.elr (i := 2) rfl (get_some h91).2
 subst hA
 refine lp (.pointer (some (ad92.add (v6_1.toNat * 1)))) (pu_index (a := v6_1) Try.underlying22 Try.sizeOf3 rfl rfl (get_some h91).1) ?_
 obtain ⟨rfl, hr95'⟩ := hr95
 refine lv (.int .i64 x90) (ld_one Try.isAgg3 rfl (hc94 0 _ rfl)) ?_
 replace hC : Cx (fun _ => False) O0 w w89 ([.box gr21 22 [.slice A17 y15.length c19]] ++ [.box g4 24 [.slice Ag_0_0 g_0_0.length cg_0_0, .slice (some ad92) g_0_1.length cg_0_1], .ro (.sl (.int .i64)) [.slice Ag_0_0 g_0_0.length cg_0_0] g_0_0, .ro (.sl (.int .i64)) [.slice (some ad92) g_0_1.length cg_0_1] g_0_1, .own 3 (.int .i64) (.slice A17 y15.length c19) y15, .own 4 .bool (.slice (some ad55) (((List.replicate (g_0_0.length : Int).toNat false)).length) c30) (qf34_1.set v6_1.toNat true)]) := hC.sel [3, 0, 1, 2, 4, 5] (by decide)
 obtain ⟨y96, h97, hb⟩ := bd hb
 refine lex.cl (⟨_, _, op_callv (vs := [.int .i64 x90, .pointer (some ⟨gr21, 0, none⟩)]) (ca := #[.pointer (some ⟨gr21, 0, none⟩)]) Try.call73 rfl rfl rfl, grid_columns_c1_ok n (hC.lentLt [.slice A17 y15.length c19]) (wrap_I64 hr95') ((hC.ow (i := 4) rfl).lend (vs := [.slice A17 y15.length c19]) (by simp)) (hC.give.lent [.slice A17 y15.length c19] (hC.apart (List.forall_mem_cons.2 ⟨blk_in (i := 3) rfl, fun _ h => absurd h List.not_mem_nil⟩))) h97⟩) ?_
 rintro _ w99 ⟨rfl, hr98, hK⟩
 replace hC := hC.back (hK.flatTk rfl hC.lt)
 clear hK
 refine lp (.int .i64 y96) (pu_assign rfl) ?_
 refine ln ?_
 obtain rfl := os hb
 exact hK68 m69' _ _ (Nat.lt_succ_self _) ⟨y96, (qf34_1.set v6_1.toNat true), e1, e2, e3, e4, e5, rfl, e19, e20, e21, e26, hr98, hC.sel [1, 2, 3, 0, 4, 5] (by decide), lN hl1⟩
 replace hb := tf hq81 hb
 refine Wc.exit rfl ?_
 obtain rfl := os hb
 obtain rfl := (lX hl1).symm
 exact hK67 _ _ ⟨v6_1, qf34_1, e1, e2, e3, e4, e5, e6, e19, e20, e21, e26, hrv6_1, hC.sel [0, 1, 2, 3, 4, 5] (by decide), hbK1⟩
 clear hb hC hl1
 rintro E101 w100 ⟨v6_1, qf34_1, e1, e2, e3, e4, e5, e6, e19, e20, e21, e26, hrv6_1, hC, hb⟩
 refine hK49 _ _ ?_
 refine rg ?_
 obtain ⟨z102, h103, hb⟩ := bd hb
 refine lp (.int .i64 z102) (pu_addc (a := v20_0) (b := 1) e20 rfl h103) ?_
 refine lp (.int .i64 z102) (pu_move rfl) ?_
 refine ln ?_
 obtain rfl := os hb
 exact hK41 m42' _ _ (Nat.lt_succ_self _) ⟨z63, z102, qf34_1, e1, e2, e3, e4, e5, e19, rfl, (chk_rng h64), (chk_rng h103), hC.sel [0, 1, 2, 3, 4, 5] (by decide), lN hl0⟩
 replace hb := tf hq48 hb
 refine Wc.exit rfl ?_
 obtain rfl := os hb
 obtain rfl := (lX hl0).symm
 exact hK40 _ _ ⟨v5_0, v20_0, qf34_0, e2, e5, hrv5_0, hrv20_0, hC.sel [] (by decide), hbK0⟩
 clear hb hC hl0
 rintro E105 w104 ⟨v5_0, v20_0, qf34_0, e2, e5, hrv5_0, hrv20_0, hC, hb⟩
 refine hK37 _ _ ?_
 refine Wc.seq fun K106 hK106 => ?_
 refine rg ?_
 refine lp (.int .i64 v5_0) (pu_move e5) ?_
 refine lp (.int .i64 v5_0) (pu_assign rfl) ?_
 refine ln ?_
 refine hK106 _ _ ?_
 obtain rfl := os hb
 refine Wc.ret ?_
 refine hKR _ _ ?_
 refine ⟨_, res1 Try.results30 (show RV _ _ _ (.tmp _) (.int .i64 v5_0) from rfl), _, rfl, rfl, hrv5_0, hC.sel [] (by decide)⟩

set_option maxRecDepth 100000 in
set_option maxHeartbeats 4000000 in
theorem law44_GridlinkValid_ok (n : Nat) {w : World} {O0 : List Nat} (hO : ∀ k ∈ O0, k < w.heap.size) {Ag_0_0 : Option Addr} {mg_0_0 cg_0_0 : Nat} {g_0_0 : List Int} (hg_0_0 : Rep O0 w (.sl (.int .i64)) [.slice Ag_0_0 mg_0_0 cg_0_0] g_0_0) {Ag_0_1 : Option Addr} {mg_0_1 cg_0_1 : Nat} {g_0_1 : List Int} (hg_0_1 : Rep O0 w (.sl (.int .i64)) [.slice Ag_0_1 mg_0_1 cg_0_1] g_0_1) {r : Bool} (hb : F.law44_GridlinkValid n g_0_0 g_0_1 = some r) :
    Calls Try.prog 7 #[.agg #[.slice Ag_0_0 mg_0_0 cg_0_0, .slice Ag_0_1 mg_0_1 cg_0_1]] w fun e w' => ∃ v, e = .returned v ∧ v = .bool r ∧ Cx (fun _ => False) O0 w w' [] := by
 unfold F.law44_GridlinkValid at hb
 have hC := Cx.start hO
 replace hC := hC.arg rfl hg_0_0
 replace hC := hC.arg rfl hg_0_1
 clear hO
 obtain ⟨rfl, hlg_0_0, hcg_0_0⟩ := hg_0_0.sl_len
 obtain ⟨rfl, hlg_0_1, hcg_0_1⟩ := hg_0_1.sl_len
 refine calls_of_Wc Try.func7 rfl (by rw [Try.ntmps7]; exact Nat.le_of_ble_eq_true rfl) fun KR hKR => ?_
 refine Wc.seq fun K3 hK3 => ?_
 refine rg ?_
 refine lex.op (hC.box (cs := [.slice Ag_0_0 g_0_0.length cg_0_0, .slice Ag_0_1 g_0_1.length cg_0_1]) rfl rfl) ?_
 rintro _ w5 ⟨g4, rfl, hC, hF, hG⟩
 clear hG
 refine lp (.bool false) (pu_assign rfl) ?_
 refine ln ?_
 refine hK3 _ _ ?_
 refine Wc.seq fun K7 hK7 => ?_
 refine Wc.seq fun K8 hK8 => ?_
 refine rg ?_
 obtain ⟨y9, h10, hb⟩ := bd hb
 refine lex.cl (⟨_, _, op_call (vs := []) Try.call11 rfl rfl rfl, law44_awake_ok n hC.lt  h10⟩) ?_
 rintro _ w11 ⟨rfl, hK⟩
 replace hC := hC.merge hK
 clear hK
 refine lp (.bool (!y9)) (pu_not (q := y9) rfl) ?_
 refine ln ?_
 refine hK8 _ _ ?_
 refine Wc.cond (t := (!y9)) (rfl) (fun hq12 => ?_) (fun hq12 => ?_)
 replace hb := tt hq12 hb
 refine Wc.seq fun K13 hK13 => ?_
 refine rg ?_
 refine lp (.bool false) (pu_assign rfl) ?_
 refine ln ?_
 refine hK13 _ _ ?_
 obtain rfl := os hb
 refine Wc.ret ?_
 refine hKR _ _ ?_
 refine ⟨_, res1 Try.results7 (show RV _ _ _ (.tmp _) (.bool false) from rfl), _, rfl, rfl, hC.sel [] (by decide)⟩
 replace hb := tf hq12 hb
 refine Wc.skip ?_
 refine hK7 _ _ ?_
 refine Wc.seq fun K14 hK14 => ?_
 refine Wc.seq fun K15 hK15 => ?_
 refine rg ?_
 refine lv (.agg #[.slice Ag_0_0 g_0_0.length cg_0_0, .slice Ag_0_1 g_0_1.length cg_0_1]) (ld_blk (hC.bx (i := 0) rfl) Try.isAgg24 Try.sizeOf24 rfl) ?_
 obtain ⟨y16, h17, hb⟩ := bd hb
 refine lex.cl (⟨_, _, op_call (vs := [.agg #[.slice Ag_0_0 g_0_0.length cg_0_0, .slice Ag_0_1 g_0_1.length cg_0_1]]) Try.call12 rfl rfl rfl, law44_small_ok n hC.lt (hC.rd (i := 2) rfl) (hC.rd (i := 1) rfl) h17⟩) ?_
 rintro _ w19 ⟨rfl, hr18, hK⟩
 replace hC := hC.merge hK
 clear hK
 refine lp (.bool (decide (y16 = 0))) (pu_eql (k := .i64) (a := y16) (b := 0) rfl rfl) ?_
 refine lp (.bool (decide (y16 = 0))) (pu_move rfl) ?_
 rcases bS (decide (y16 = 0)) with hq20 | hq20
 replace hb := tt hq20 hb
 refine gs rfl rfl (decide (y16 = 0)) rfl hq20 ?_
 refine gs rfl rfl (decide (y16 = 0)) rfl hq20 ?_
 refine gs rfl rfl (decide (y16 = 0)) rfl hq20 ?_
 refine lp (.bool true) (pu_pickT (q := (decide (y16 = 0))) rfl hq20 rfl) ?_
 refine ln ?_
 refine hK15 _ _ ?_
 refine Wc.cond_true (rfl) ?_
 refine Wc.seq fun K21 hK21 => ?_
 refine rg ?_
 refine lp (.bool true) (pu_assign rfl) ?_
 refine ln ?_
 refine hK21 _ _ ?_
 obtain rfl := os hb
 refine Wc.ret ?_
 refine hKR _ _ ?_
 refine ⟨_, res1 Try.results7 (show RV _ _ _ (.tmp _) (.bool true) from rfl), _, rfl, rfl, hC.sel [] (by decide)⟩
 replace hb := tf hq20 hb
 refine gv rfl rfl (decide (y16 = 0)) rfl hq20 (.agg #[.slice Ag_0_0 g_0_0.length cg_0_0, .slice Ag_0_1 g_0_1.length cg_0_1]) (ld_blk (hC.bx (i := 0) rfl) Try.isAgg24 Try.sizeOf24 rfl) ?_
 obtain ⟨y22, h23, hb⟩ := bd hb
 refine lex.gcl (want_t rfl rfl (show _ = Value.bool (decide (y16 = 0)) from rfl) hq20) (⟨_, _, op_call (vs := [.agg #[.slice Ag_0_0 g_0_0.length cg_0_0, .slice Ag_0_1 g_0_1.length cg_0_1]]) Try.call26 rfl rfl rfl, grid_Valid_ok n hC.lt (hC.rd (i := 2) rfl) (hC.rd (i := 1) rfl) h23⟩) ?_
 rintro _ w24 ⟨rfl, hK⟩
 replace hC := hC.merge hK
 clear hK
 refine gp rfl rfl (decide (y16 = 0)) rfl hq20 (.bool (!y22)) (pu_not (q := y22) rfl) ?_
 refine lp (.bool (!y22)) (pu_pickF (q := (decide (y16 = 0))) rfl hq20 rfl) ?_
 refine ln ?_
 refine hK15 _ _ ?_
 refine Wc.cond (t := (!y22)) (rfl) (fun hq25 => ?_) (fun hq25 => ?_)
 replace hb := tt hq25 hb
 refine Wc.seq fun K26 hK26 => ?_
 refine rg ?_
 refine lp (.bool true) (pu_assign rfl) ?_
 refine ln ?_
 refine hK26 _ _ ?_
 obtain rfl := os hb
 refine Wc.ret ?_
 refine hKR _ _ ?_
 refine ⟨_, res1 Try.results7 (show RV _ _ _ (.tmp _) (.bool true) from rfl), _, rfl, rfl, hC.sel [] (by decide)⟩
 replace hb := tf hq25 hb
 refine Wc.skip ?_
 refine hK14 _ _ ?_
 refine Wc.fresh fun E27 hE => ?_
 have e1 : E27 1 = .pointer (some ⟨g4, 0, none⟩) := (congrFun hE 1).trans rfl
 have e2 : E27 2 = .bool false := (congrFun hE 2).trans rfl
 clear hE
 refine Wc.seq fun K28 hK28 => ?_
 refine rg ?_
 refine lv (.agg #[.slice Ag_0_0 g_0_0.length cg_0_0, .slice Ag_0_1 g_0_1.length cg_0_1]) (ld_blk (hC.bx (i := 0) rfl) Try.isAgg24 Try.sizeOf24 e1) ?_
 obtain ⟨y29, h30, hb⟩ := bd hb
 refine lex.cl (⟨_, _, op_call (vs := [.agg #[.slice Ag_0_0 g_0_0.length cg_0_0, .slice Ag_0_1 g_0_1.length cg_0_1]]) Try.call13 rfl rfl rfl, gridlink_Diagram_ok n hC.lt (hC.rd (i := 2) rfl) (hC.rd (i := 1) rfl) h30⟩) ?_
 rintro _ w41 ⟨A31, m32, c33, A35, m36, c37, rfl, hr39, hr40, hK⟩
 replace hC := hC.merge hK
 clear hK
 obtain ⟨rfl, hl42, hc43⟩ := (hC.ow (i := 0) rfl).sl_len
 obtain ⟨rfl, hl44, hc45⟩ := (hC.ow (i := 1) rfl).sl_len
 refine lp (.tuple #[.agg #[.slice A31 y29.1.length c33, .slice A35 y29.2.1.length c37, .int .i64 y29.2.2.1], .int .i64 y29.2.2.2]) (pu_move rfl) ?_
 refine lp (.agg #[.slice A31 y29.1.length c33, .slice A35 y29.2.1.length c37, .int .i64 y29.2.2.1]) (pu_extract rfl rfl) ?_
 refine lp (.int .i64 y29.2.2.2) (pu_extract rfl rfl) ?_
 refine lex.op (hC.alloc (cs := [.slice none 0 0, .slice none 0 0, .int .i64 0]) Try.zeroValue28 rfl) ?_
 rintro _ w47 ⟨g46, rfl, hC, hF, hG⟩
 clear hG
 refine lex.sk (hC.seta (i := 0) (ds := [.slice A31 y29.1.length c33, .slice A35 y29.2.1.length c37, .int .i64 y29.2.2.1]) rfl Try.type28 rfl rfl rfl rfl rfl) ?_
 rintro w49 ⟨hC, hF⟩
 refine lp (.int .i64 y29.2.2.2) (pu_assign rfl) ?_
 refine ln ?_
 refine hK28 _ _ ?_
 refine Wc.seq fun K50 hK50 => ?_
 refine Wc.seq fun K51 hK51 => ?_
 refine rg ?_
 refine lp (.int .i64 y29.2.2.2) (pu_move rfl) ?_
 refine lp (.bool (decide (y29.2.2.2 = 5))) (pu_eql (k := .i64) (a := y29.2.2.2) (b := 5) rfl rfl) ?_
 refine ln ?_
 refine hK51 _ _ ?_
 refine Wc.cond (t := (decide (y29.2.2.2 = 5))) (rfl) (fun hq52 => ?_) (fun hq52 => ?_)
 replace hb := tt hq52 hb
 refine Wc.seq fun K53 hK53 => ?_
 refine rg ?_
 refine lv (.agg #[.slice Ag_0_0 g_0_0.length cg_0_0, .slice Ag_0_1 g_0_1.length cg_0_1]) (ld_blk (hC.bx (i := 3) rfl) Try.isAgg24 Try.sizeOf24 e1) ?_
 obtain ⟨y54, h55, hb⟩ := bd hb
 refine lex.cl (⟨_, _, op_call (vs := [.agg #[.slice Ag_0_0 g_0_0.length cg_0_0, .slice Ag_0_1 g_0_1.length cg_0_1]]) Try.call27 rfl rfl rfl, grid_Crossings_ok n hC.lt (hC.rd (i := 5) rfl) (hC.rd (i := 4) rfl) h55⟩) ?_
 rintro _ w60 ⟨A56, m57, c58, rfl, hK⟩
 replace hC := hC.merge hK
 clear hK
 obtain ⟨rfl, hl61, hc62⟩ := (hC.ow (i := 0) rfl).sl_len
 refine lp (.int .i64 (y54.length : Int)) (pu_len (A := A56) (n := y54.length) (m := c58) Try.underlying33 rfl) ?_
 refine lp (.bool (decide (64 < (y54.length : Int)))) (pu_gtr (k := .i64) (a := (y54.length : Int)) (b := 64) rfl rfl) ?_
 refine lp (.bool (decide (64 < (y54.length : Int)))) (pu_assign rfl) ?_
 refine ln ?_
 refine hK53 _ _ ?_
 obtain rfl := os hb
 refine Wc.ret ?_
 refine hKR _ _ ?_
 refine ⟨_, res1 Try.results7 (show RV _ _ _ (.tmp _) (.bool (decide (64 < (y54.length : Int)))) from rfl), _, rfl, rfl, hC.sel [] (by decide)⟩
 replace hb := tf hq52 hb
 refine Wc.skip ?_
 refine hK50 _ _ ?_
 refine Wc.seq fun K63 hK63 => ?_
 refine Wc.regionMix [] (frm [] ([] : List Fact) ([] : List Fact)) (fun _ => rfl) mixed (by decide +kernel) (by decide +kernel) fun w65 hw64 => ?_
 replace hC := hC.step (Fr.of_drew hw64)
 have hM := Fr.refl (fun k => k ∈ blocks ([] : List Fact)) w65
 clear hw64
 have hS := hC
 refine mp (.int .i64 y29.2.2.2) (pu_move rfl) ?_
 refine mp (.bool (decide (y29.2.2.2 = 0))) (pu_eql (k := .i64) (a := y29.2.2.2) (b := 0) rfl rfl) ?_
 refine mp (.bool (decide (y29.2.2.2 = 0))) (pu_move rfl) ?_
 rcases bS (decide (y29.2.2.2 = 0)) with hq66 | hq66
 replace hb := tt hq66 hb
 refine mixE.gload rfl (want_t rfl rfl (show _ = Value.bool (decide (y29.2.2.2 = 0)) from rfl) hq66) hM (v := .agg #[.slice A31 y29.1.length c33, .slice A35 y29.2.1.length c37, .int .i64 y29.2.2.1]) (fun _ hF => ld_blk (hS.bx2 (i := 0) rfl [] (by decide) hF) Try.isAgg28 Try.sizeOf28 rfl) ?_
 obtain ⟨y67, h68, hb⟩ := bd hb
 refine mixE.gcl rfl (want_t rfl rfl (show _ = Value.bool (decide (y29.2.2.2 = 0)) from rfl) hq66) hM (⟨_, _, op_call (vs := [.agg #[.slice A31 y29.1.length c33, .slice A35 y29.2.1.length c37, .int .i64 y29.2.2.1]]) Try.call28 rfl rfl rfl, diagram_Valid_ok n (hC.lentLt [.slice A31 y29.1.length c33, .slice A35 y29.2.1.length c37]) ((hC.ow (i := 1) rfl).lend (vs := [.slice A31 y29.1.length c33, .slice A35 y29.2.1.length c37]) (by simp)) ((hC.ow (i := 2) rfl).lend (vs := [.slice A31 y29.1.length c33, .slice A35 y29.2.1.length c37]) (by simp)) hr39 h68⟩) ?_
 rintro _ w69 ⟨rfl, hK⟩
 replace hM := hM.none hK.fr
 refine ⟨hM, ?_⟩
 replace hC := hC.mergeF hK rfl
 clear hK
 refine mp (.bool y67) (pu_pickT (q := (decide (y29.2.2.2 = 0))) rfl hq66 rfl) ?_
 refine mp (.bool y67) (pu_move rfl) ?_
 rcases bS y67 with hq70 | hq70
 replace hb := tt hq70 hb
 refine mixE.gpure rfl (want_t rfl rfl (show _ = Value.bool y67 from rfl) hq70) (v := .pointer (some ((⟨g46, 0, none⟩ : Addr).add 0))) (pu_field (sz := 1) Try.underlying28 rfl Try.sizeOf22 (by decide) rfl rfl) ?_
 refine mixE.gload rfl (want_t rfl rfl (show _ = Value.bool y67 from rfl) hq70) hM (v := .slice A31 y29.1.length c33) (fun _ hF => ld_fld (hS.bx2 (i := 0) rfl [] (by decide) hF) Try.isAgg22 rfl rfl) ?_
 refine mixE.gpure rfl (want_t rfl rfl (show _ = Value.bool y67 from rfl) hq70) (v := .int .i64 (y29.1.length : Int)) (pu_len (A := A31) (n := y29.1.length) (m := c33) Try.underlying22 rfl) ?_
 refine mixE.gload rfl (want_t rfl rfl (show _ = Value.bool y67 from rfl) hq70) hM (v := .agg #[.slice Ag_0_0 g_0_0.length cg_0_0, .slice Ag_0_1 g_0_1.length cg_0_1]) (fun _ hF => ld_blk (hS.bx2 (i := 3) rfl [] (by decide) hF) Try.isAgg24 Try.sizeOf24 e1) ?_
 obtain ⟨y71, h72, hb⟩ := bd hb
 refine mixE.gcl rfl (want_t rfl rfl (show _ = Value.bool y67 from rfl) hq70) hM (⟨_, _, op_call (vs := [.agg #[.slice Ag_0_0 g_0_0.length cg_0_0, .slice Ag_0_1 g_0_1.length cg_0_1]]) Try.call27 rfl rfl rfl, grid_Crossings_ok n hC.lt (hC.rd (i := 5) rfl) (hC.rd (i := 4) rfl) h72⟩) ?_
 rintro _ w77 ⟨A73, m74, c75, rfl, hK⟩
 have hBf76 := Beside.cl (i := 0) hM hK rfl
 replace hM := hM.none hK.fr
 refine ⟨hM, ?_⟩
 replace hC := hC.merge hK
 clear hK
 obtain ⟨rfl, hl78, hc79⟩ := (hC.ow (i := 0) rfl).sl_len
 refine mixE.gpure rfl (want_t rfl rfl (show _ = Value.bool y67 from rfl) hq70) (v := .int .i64 (y71.length : Int)) (pu_len (A := A73) (n := y71.length) (m := c75) Try.underlying33 rfl) ?_
 refine mixE.gpure rfl (want_t rfl rfl (show _ = Value.bool y67 from rfl) hq70) (v := .bool (decide ((y29.1.length : Int) = (y71.length : Int)))) (pu_eql (k := .i64) (a := (y29.1.length : Int)) (b := (y71.length : Int)) rfl rfl) ?_
 refine mp (.bool (decide ((y29.1.length : Int) = (y71.length : Int)))) (pu_pickT (q := y67) rfl hq70 rfl) ?_
 refine mp (.bool (decide ((y29.1.length : Int) = (y71.length : Int)))) (pu_move rfl) ?_
 rcases bS (decide ((y29.1.length : Int) = (y71.length : Int))) with hq80 | hq80
 replace hb := tt hq80 hb
 refine mixE.gload rfl (want_t rfl rfl (show _ = Value.bool (decide ((y29.1.length : Int) = (y71.length : Int))) from rfl) hq80) hM (v := .agg #[.slice A31 y29.1.length c33, .slice A35 y29.2.1.length c37, .int .i64 y29.2.2.1]) (fun _ hF => ld_blk (hS.bx2 (i := 0) rfl [] (by decide) hF) Try.isAgg28 Try.sizeOf28 rfl) ?_
 obtain ⟨y81, h82, hb⟩ := bd hb
 refine mixE.gcl rfl (want_t rfl rfl (show _ = Value.bool (decide ((y29.1.length : Int) = (y71.length : Int))) from rfl) hq80) hM (⟨_, _, op_call (vs := [.agg #[.slice A31 y29.1.length c33, .slice A35 y29.2.1.length c37, .int .i64 y29.2.2.1]]) Try.call29 rfl rfl rfl, diagram_Components_ok n (hC.lentLt [.slice A31 y29.1.length c33, .slice A35 y29.2.1.length c37]) ((hC.ow (i := 2) rfl).lend (vs := [.slice A31 y29.1.length c33, .slice A35 y29.2.1.length c37]) (by simp)) ((hC.ow (i := 3) rfl).lend (vs := [.slice A31 y29.1.length c33, .slice A35 y29.2.1.length c37]) (by simp)) hr39 h82⟩) ?_
 rintro _ w84 ⟨rfl, hr83, hK⟩
 replace hM := hM.none hK.fr
 refine ⟨hM, ?_⟩
 replace hC := hC.mergeF hK rfl
 clear hK
 refine mixE.gload rfl (want_t rfl rfl (show _ = Value.bool (decide ((y29.1.length : Int) = (y71.length : Int))) from rfl) hq80) hM (v := .agg #[.slice Ag_0_0 g_0_0.length cg_0_0, .slice Ag_0_1 g_0_1.length cg_0_1]) (fun _ hF => ld_blk (hS.bx2 (i := 3) rfl [] (by decide) hF) Try.isAgg24 Try.sizeOf24 e1) ?_
 obtain ⟨y85, h86, hb⟩ := bd hb
 refine mixE.gcl rfl (want_t rfl rfl (show _ = Value.bool (decide ((y29.1.length : Int) = (y71.length : Int))) from rfl) hq80) hM (⟨_, _, op_call (vs := [.agg #[.slice Ag_0_0 g_0_0.length cg_0_0, .slice Ag_0_1 g_0_1.length cg_0_1]]) Try.call30 rfl rfl rfl, grid_Components_ok n hC.lt (hC.rd (i := 6) rfl) (hC.rd (i := 5) rfl) h86⟩) ?_
 rintro _ w88 ⟨rfl, hr87, hK⟩
 replace hM := hM.none hK.fr
 refine ⟨hM, ?_⟩
 replace hC := hC.merge hK
 clear hK
 refine mixE.gpure rfl (want_t rfl rfl (show _ = Value.bool (decide ((y29.1.length : Int) = (y71.length : Int))) from rfl) hq80) (v := .bool (decide (y81 = y85))) (pu_eql (k := .i64) (a := y81) (b := y85) rfl rfl) ?_
 refine mp (.bool (decide (y81 = y85))) (pu_pickT (q := (decide ((y29.1.length : Int) = (y71.length : Int)))) rfl hq80 rfl) ?_
 refine mp (.bool (decide (y81 = y85))) (pu_assign rfl) ?_
 refine mixE.nil ?_
 clear hS hM
 refine hK63 _ _ ?_
 obtain rfl := os hb
 refine Wc.ret ?_
 refine hKR _ _ ?_
 refine ⟨_, res1 Try.results7 (show RV _ _ _ (.tmp _) (.bool (decide (y81 = y85))) from rfl), _, rfl, rfl, hC.sel [] (by decide)⟩
 replace hb := tf hq80 hb
 refine mixE.gskip (want_f rfl rfl (show _ = Value.bool (decide ((y29.1.length : Int) = (y71.length : Int))) from rfl) hq80) ?_
 refine mixE.gskip (want_f rfl rfl (show _ = Value.bool (decide ((y29.1.length : Int) = (y71.length : Int))) from rfl) hq80) ?_
 refine mixE.gskip (want_f rfl rfl (show _ = Value.bool (decide ((y29.1.length : Int) = (y71.length : Int))) from rfl) hq80) ?_
 refine mixE.gskip (want_f rfl rfl (show _ = Value.bool (decide ((y29.1.length : Int) = (y71.length : Int))) from rfl) hq80) ?_
 refine mixE.gskip (want_f rfl rfl (show _ = Value.bool (decide ((y29.1.length : Int) = (y71.length : Int))) from rfl) hq80) ?_
 refine mp (.bool false) (pu_pickF (q := (decide ((y29.1.length : Int) = (y71.length : Int)))) rfl hq80 rfl) ?_
 refine mp (.bool false) (pu_assign rfl) ?_
 refine mixE.nil ?_
 clear hS hM
 refine hK63 _ _ ?_
 obtain rfl := os hb
 refine Wc.ret ?_
 refine hKR _ _ ?_
 refine ⟨_, res1 Try.results7 (show RV _ _ _ (.tmp _) (.bool false) from rfl), _, rfl, rfl, hC.sel [] (by decide)⟩
 replace hb := tf hq70 hb
 refine mixE.gskip (want_f rfl rfl (show _ = Value.bool y67 from rfl) hq70) ?_
 refine mixE.gskip (want_f rfl rfl (show _ = Value.bool y67 from rfl) hq70) ?_
 refine mixE.gskip (want_f rfl rfl (show _ = Value.bool y67 from rfl) hq70) ?_
 refine mixE.gskip (want_f rfl rfl (show _ = Value.bool y67 from rfl) hq70) ?_
 refine mixE.gskip (want_f rfl rfl (show _ = Value.bool y67 from rfl) hq70) ?_
 refine mixE.gskip (want_f rfl rfl (show _ = Value.bool y67 from rfl) hq70) ?_
 refine mixE.gskip (want_f rfl rfl (show _ = Value.bool y67 from rfl) hq70) ?_
 refine mp (.bool false) (pu_pickF (q := y67) rfl hq70 rfl) ?_
 refine mp (.bool false) (pu_move rfl) ?_
 refine mixE.gskip (want_f rfl rfl (show _ = Value.bool false from rfl) rfl) ?_
 refine mixE.gskip (want_f rfl rfl (show _ = Value.bool false from rfl) rfl) ?_
 refine mixE.gskip (want_f rfl rfl (show _ = Value.bool false from rfl) rfl) ?_
 refine mixE.gskip (want_f rfl rfl (show _ = Value.bool false from rfl) rfl) ?_
 refine mixE.gskip (want_f rfl rfl (show _ = Value.bool false from rfl) rfl) ?_
 refine mp (.bool false) (pu_pickF (q := false) rfl rfl rfl) ?_
 refine mp (.bool false) (pu_assign rfl) ?_
 refine mixE.nil ?_
 clear hS hM
 refine hK63 _ _ ?_
 obtain rfl := os hb
 refine Wc.ret ?_
 refine hKR _ _ ?_
 refine ⟨_, res1 Try.results7 (show RV _ _ _ (.tmp _) (.bool false) from rfl), _, rfl, rfl, hC.sel [] (by decide)⟩
 replace hb := tf hq66 hb
 refine mixE.gskip (want_f rfl rfl (show _ = Value.bool (decide (y29.2.2.2 = 0)) from rfl) hq66) ?_
 refine mixE.gskip (want_f rfl rfl (show _ = Value.bool (decide (y29.2.2.2 = 0)) from rfl) hq66) ?_
 refine mp (.bool false) (pu_pickF (q := (decide (y29.2.2.2 = 0))) rfl hq66 rfl) ?_
 refine mp (.bool false) (pu_move rfl) ?_
 refine mixE.gskip (want_f rfl rfl (show _ = Value.bool false from rfl) rfl) ?_
 refine mixE.gskip (want_f rfl rfl (show _ = Value.bool false from rfl) rfl) ?_
 refine mixE.gskip (want_f rfl rfl (show _ = Value.bool false from rfl) rfl) ?_
 refine mixE.gskip (want_f rfl rfl (show _ = Value.bool false from rfl) rfl) ?_
 refine mixE.gskip (want_f rfl rfl (show _ = Value.bool false from rfl) rfl) ?_
 refine mixE.gskip (want_f rfl rfl (show _ = Value.bool false from rfl) rfl) ?_
 refine mixE.gskip (want_f rfl rfl (show _ = Value.bool false from rfl) rfl) ?_
 refine mp (.bool false) (pu_pickF (q := false) rfl rfl rfl) ?_
 refine mp (.bool false) (pu_move rfl) ?_
 refine mixE.gskip (want_f rfl rfl (show _ = Value.bool false from rfl) rfl) ?_
 refine mixE.gskip (want_f rfl rfl (show _ = Value.bool false from rfl) rfl) ?_
 refine mixE.gskip (want_f rfl rfl (show _ = Value.bool false from rfl) rfl) ?_
 refine mixE.gskip (want_f rfl rfl (show _ = Value.bool false from rfl) rfl) ?_
 refine mixE.gskip (want_f rfl rfl (show _ = Value.bool false from rfl) rfl) ?_
 refine mp (.bool false) (pu_pickF (q := false) rfl rfl rfl) ?_
 refine mp (.bool false) (pu_assign rfl) ?_
 refine mixE.nil ?_
 clear hS hM
 refine hK63 _ _ ?_
 obtain rfl := os hb
 refine Wc.ret ?_
 refine hKR _ _ ?_
 refine ⟨_, res1 Try.results7 (show RV _ _ _ (.tmp _) (.bool false) from rfl), _, rfl, rfl, hC.sel [] (by decide)⟩
end Go.Proofs.Yticemffhlapnnaa
