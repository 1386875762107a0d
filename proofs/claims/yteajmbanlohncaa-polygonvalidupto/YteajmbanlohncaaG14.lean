/- The walks: part 14. -/
import Derived.Test.YteajmbanlohncaaS
import Derived.Test.YteajmbanlohncaaG6
import Derived.Test.YteajmbanlohncaaG10
import Derived.Test.YteajmbanlohncaaG13
set_option linter.unusedVariables false
set_option linter.unusedSimpArgs false
namespace Go.Proofs.Yteajmbanlohncaa
open Ev
set_option maxRecDepth 100000 in
set_option maxHeartbeats 4000000 in
theorem diagram_cycles_diagram_Strands_c1_diagram_Strands_c2_ok (n : Nat) {w : World} {O0 : List Nat} (hO : ∀ k ∈ O0, k < w.heap.size) {count_0 : Int} (hcount_0 : I64 count_0) {gwanted_1_0 : Nat} {Awanted_1_0_0 : Option Addr} {mwanted_1_0_0 cwanted_1_0_0 : Nat} {wanted_1_0_0 : List Int} (hwanted_1_0_0 : Rep O0 w (.sl (.int .i64)) [.slice Awanted_1_0_0 mwanted_1_0_0 cwanted_1_0_0] wanted_1_0_0) {Awanted_1_0_1 : Option Addr} {mwanted_1_0_1 cwanted_1_0_1 : Nat} {wanted_1_0_1 : List Int} (hwanted_1_0_1 : Rep O0 w (.sl (.int .i64)) [.slice Awanted_1_0_1 mwanted_1_0_1 cwanted_1_0_1] wanted_1_0_1) {wanted_1_0_2 : Int} (hwanted_1_0_2 : I64 wanted_1_0_2) (hio : Tk O0 w [.box gwanted_1_0 32 [.slice Awanted_1_0_0 mwanted_1_0_0 cwanted_1_0_0, .slice Awanted_1_0_1 mwanted_1_0_1 cwanted_1_0_1, .int .i64 wanted_1_0_2]]) {r : (List (List Int))} (hb : F.diagram_cycles_diagram_Strands_c1_diagram_Strands_c2 n count_0 wanted_1_0_0 wanted_1_0_1 wanted_1_0_2 = some r) :
  Calls Try.prog 91 #[.int .i64 count_0, .func (.func 90) #[] #[.pointer (some ⟨gwanted_1_0, 0, none⟩)], .func (.func 92) #[] #[.pointer (some ⟨gwanted_1_0, 0, none⟩)]] w fun e w' => ∃ v, e = .returned v ∧ ∃ (A0 : Option Addr) (m0 c0 : Nat), v = .slice A0 m0 c0 ∧ Cx (fun k => k ∈ blocks [.box gwanted_1_0 32 [.slice Awanted_1_0_0 mwanted_1_0_0 cwanted_1_0_0, .slice Awanted_1_0_1 mwanted_1_0_1 cwanted_1_0_1, .int .i64 wanted_1_0_2]]) O0 w w' [.own 30 (.sl (.int .i64)) (.slice A0 m0 c0) r, .box gwanted_1_0 32 [.slice Awanted_1_0_0 mwanted_1_0_0 cwanted_1_0_0, .slice Awanted_1_0_1 mwanted_1_0_1 cwanted_1_0_1, .int .i64 wanted_1_0_2]] := by
 unfold F.diagram_cycles_diagram_Strands_c1_diagram_Strands_c2 at hb
 have hC := Cx.startTk hO hio
 have hsub := hio.2.2
 replace hC := hC.argTk (by first | exact hsub | exact fun k hk => hsub k (by simpa [blocks, Fact.blk] using hk)) hwanted_1_0_0
 replace hC := hC.argTk (by first | exact hsub | exact fun k hk => hsub k (by simpa [blocks, Fact.blk] using hk)) hwanted_1_0_1
 clear hO
 obtain ⟨rfl, hlwanted_1_0_0, hcwanted_1_0_0⟩ := hwanted_1_0_0.sl_len
 obtain ⟨rfl, hlwanted_1_0_1, hcwanted_1_0_1⟩ := hwanted_1_0_1.sl_len
 clear hio hsub
 obtain ⟨I, hI, hC⟩ : ∃ I : Nat → Prop, I = (fun k => k ∈ blocks [.box gwanted_1_0 32 [.slice Awanted_1_0_0 wanted_1_0_0.length cwanted_1_0_0, .slice Awanted_1_0_1 wanted_1_0_1.length cwanted_1_0_1, .int .i64 wanted_1_0_2]]) ∧ Cx I O0 w w ([.ro (.sl (.int .i64)) [.slice Awanted_1_0_1 wanted_1_0_1.length cwanted_1_0_1] wanted_1_0_1, .ro (.sl (.int .i64)) [.slice Awanted_1_0_0 wanted_1_0_0.length cwanted_1_0_0] wanted_1_0_0, .box gwanted_1_0 32 [.slice Awanted_1_0_0 wanted_1_0_0.length cwanted_1_0_0, .slice Awanted_1_0_1 wanted_1_0_1.length cwanted_1_0_1, .int .i64 wanted_1_0_2]]) := ⟨_, rfl, hC⟩
 refine calls_of_Wc Try.func91 rfl (by rw [Try.ntmps91]; exact Nat.le_of_ble_eq_true rfl) fun KR hKR => ?_
 refine Wc.seq fun K4 hK4 => ?_
 refine Wc.region (by decide +kernel) ?_
 refine lex.pure (v := .slice none 0 0) (pu_assign rfl) ?_
 refine lex.nil ?_
 refine hK4 _ _ ?_
 refine Wc.seq fun K5 hK5 => ?_
 refine Wc.region (by decide +kernel) ?_
 refine lex.pure (v := .slice none 0 0) (pu_assign rfl) ?_
 refine lex.nil ?_
 refine hK5 _ _ ?_
 refine Wc.seq fun K6 hK6 => ?_
 refine Wc.region (by decide +kernel) ?_
 refine lex.pure (v := .int .i64 count_0) (pu_move rfl) ?_
 obtain ⟨u7, h8, hb⟩ := bd hb
 refine lex.op (hC.make (s := .bool) (n := count_0) Try.underlying122 Try.type4 rfl rfl rfl rfl rfl (pos_some h8).1 (pos_some h8).2 (by decide)) ?_
 rintro _ w13 ⟨A9, c10, rfl, hl11, hc12, hC, hF, hN⟩
 clear hF hN
 refine lex.pure (v := .slice A9 (((List.replicate count_0.toNat false)).length) c10) (pu_assign rfl) ?_
 refine lex.nil ?_
 refine hK6 _ _ ?_
 refine Wc.seq fun K15 hK15 => ?_
 refine Wc.seq fun K16 hK16 => ?_
 refine Wc.region (by decide +kernel) ?_
 refine lex.pure (v := .int .i64 count_0) (pu_move rfl) ?_
 refine lex.pure (v := .int .i64 0) (pu_move rfl) ?_
 refine lex.nil ?_
 refine hK16 _ _ ?_
 replace hC := hC.nil 30 (.sl (.int .i64))
 obtain ⟨o18, hl0, hb⟩ := bd hb
 refine Wc.cut (fun E wv => ∃ (l7_0 : List (List Int)) (v16_0 : Int) (qf14_0 : List Bool) (Al7_0 : Option Addr) (ml7_0 cl7_0 : Nat), E 6 = .slice none 0 0 ∧ E 7 = .slice Al7_0 ml7_0 cl7_0 ∧ I64 v16_0 ∧ Cx I O0 w wv [.own 30 (.sl (.int .i64)) (.slice Al7_0 ml7_0 cl7_0) l7_0, .box gwanted_1_0 32 [.slice Awanted_1_0_0 wanted_1_0_0.length cwanted_1_0_0, .slice Awanted_1_0_1 wanted_1_0_1.length cwanted_1_0_1, .int .i64 wanted_1_0_2], .ro (.sl (.int .i64)) [.slice Awanted_1_0_0 wanted_1_0_0.length cwanted_1_0_0] wanted_1_0_0, .ro (.sl (.int .i64)) [.slice Awanted_1_0_1 wanted_1_0_1.length cwanted_1_0_1] wanted_1_0_1] ∧ (some l7_0 : Option ((List (List Int)))) = some r) (fun K19 hK19 => ?_) ?_
 ·
  refine Wc.block ?_
  refine Wc.loop (fun m E wv => ∃ (l7_0 : List (List Int)) (v16_0 : Int) (qf14_0 : List Bool) (Al7_0 : Option Addr) (ml7_0 cl7_0 : Nat), E 1 = .func (.func 90) #[] #[.pointer (some ⟨gwanted_1_0, 0, none⟩)] ∧ E 2 = .func (.func 92) #[] #[.pointer (some ⟨gwanted_1_0, 0, none⟩)] ∧ E 6 = .slice none 0 0 ∧ E 7 = .slice Al7_0 ml7_0 cl7_0 ∧ E 8 = .slice A9 (((List.replicate count_0.toNat false)).length) c10 ∧ E 15 = .int .i64 count_0 ∧ E 16 = .int .i64 v16_0 ∧ I64 v16_0 ∧ Cx I O0 w wv [.box gwanted_1_0 32 [.slice Awanted_1_0_0 wanted_1_0_0.length cwanted_1_0_0, .slice Awanted_1_0_1 wanted_1_0_1.length cwanted_1_0_1, .int .i64 wanted_1_0_2], .ro (.sl (.int .i64)) [.slice Awanted_1_0_0 wanted_1_0_0.length cwanted_1_0_0] wanted_1_0_0, .ro (.sl (.int .i64)) [.slice Awanted_1_0_1 wanted_1_0_1.length cwanted_1_0_1] wanted_1_0_1, .own 30 (.sl (.int .i64)) (.slice Al7_0 ml7_0 cl7_0) l7_0, .own 4 .bool (.slice A9 (((List.replicate count_0.toNat false)).length) c10) qf14_0] ∧ loopN m (F.diagram_cycles_diagram_Strands_c1_diagram_Strands_c2_b0 n count_0 wanted_1_0_0 wanted_1_0_1 wanted_1_0_2) (l7_0, v16_0, qf14_0) = some o18) n ⟨([] : List (List Int)), 0, (List.replicate count_0.toNat false), none, 0, 0, rfl, rfl, rfl, rfl, rfl, rfl, rfl, (show I64 0 from by unfold I64; omega), hC.sel [4, 3, 2, 0, 1] (by decide), hl0⟩ ?_
  have hbK0 := hb
  clear hb hC hl0
  rintro m21 E23 w22 ⟨l7_0, v16_0, qf14_0, Al7_0, ml7_0, cl7_0, e1, e2, e6, e7, e8, e15, e16, hrv16_0, hC, hl0⟩ K20 hK20
  obtain ⟨m21', o24, rfl, hb, hl0⟩ := loopN_some hl0
  unfold F.diagram_cycles_diagram_Strands_c1_diagram_Strands_c2_b0 at hb
  obtain ⟨rfl, hll7_0, hcl7_0⟩ := (hC.ow (i := 3) rfl).sl_len
  refine Wc.seq fun K25 hK25 => ?_
  refine Wc.region (by decide +kernel) ?_
  refine lex.pure (v := .bool (decide (v16_0 < count_0))) (pu_lss (k := .i64) (a := v16_0) (b := count_0) e16 e15) ?_
  refine lex.nil ?_
  refine hK25 _ _ ?_
  refine Wc.seq fun K26 hK26 => ?_
  refine Wc.cond (t := (decide (v16_0 < count_0))) (rfl) (fun hq27 => ?_) (fun hq27 => ?_)
  ·
   replace hb := (cT hq27).symm.trans hb
   refine Wc.skip ?_
   refine hK26 _ _ ?_
   refine Wc.seq fun K28 hK28 => ?_
   refine Wc.block ?_
   refine Wc.seq fun K29 hK29 => ?_
   refine Wc.region (by decide +kernel) ?_
   refine lex.pure (v := .int .i64 v16_0) (pu_move e16) ?_
   refine lex.pure (v := .int .i64 v16_0) (pu_assign rfl) ?_
   refine lex.nil ?_
   refine hK29 _ _ ?_
   refine Wc.seq fun K30 hK30 => ?_
   refine Wc.seq fun K31 hK31 => ?_
   refine Wc.region (by decide +kernel) ?_
   refine lex.pure (v := .slice A9 (((List.replicate count_0.toNat false)).length) c10) (pu_move e8) ?_
   refine lex.pure (v := .int .i64 v16_0) (pu_move rfl) ?_
   obtain ⟨x32, h33, hb⟩ := bd hb
   obtain ⟨ad34, cs35, hA, hc36, hr37⟩ := hC.elo (i := 4) rfl (get_some h33).2
   subst hA
   refine lex.pure (v := .pointer (some (ad34.add (v16_0.toNat * 1)))) (pu_index (a := v16_0) Try.underlying122 Try.sizeOf4 rfl rfl (by rw [(hC.ow (i := 4) rfl).sl_len.1]; exact (get_some h33).1)) ?_
   obtain rfl := (show _ = _ from hr37)
   refine lex.val (v := .bool x32) (ld_one Try.isAgg4 rfl (hc36 0 _ rfl)) ?_
   refine lex.pure (v := .bool x32) (pu_move rfl) ?_
   rcases bS x32 with hq38 | hq38
   ·
    replace hb := (cT hq38).symm.trans hb
    refine lex.gskip (want_f rfl rfl (show _ = Value.bool x32 from rfl) hq38) ?_
    refine lex.gskip (want_f rfl rfl (show _ = Value.bool x32 from rfl) hq38) ?_
    refine lex.gskip (want_f rfl rfl (show _ = Value.bool x32 from rfl) hq38) ?_
    refine lex.gskip (want_f rfl rfl (show _ = Value.bool x32 from rfl) hq38) ?_
    refine lex.pure (v := .bool true) (pu_pickT (q := x32) rfl hq38 rfl) ?_
    refine lex.nil ?_
    refine hK31 _ _ ?_
    refine Wc.cond_true (rfl) ?_
    refine Wc.exit rfl ?_
    refine hK28 _ _ ?_
    refine Wc.region (by decide +kernel) ?_
    obtain ⟨z39, h40, hb⟩ := bd hb
    refine lex.pure (v := .int .i64 z39) (pu_addc (a := v16_0) (b := 1) e16 rfl h40) ?_
    refine lex.pure (v := .int .i64 z39) (pu_move rfl) ?_
    refine lex.nil ?_
    obtain rfl := Option.some.inj hb
    exact hK20 m21' _ _ (Nat.lt_succ_self _) ⟨l7_0, z39, qf14_0, Al7_0, l7_0.length, cl7_0, e1, e2, e6, e7, e8, e15, rfl, (chk_rng h40), hC.sel [0, 1, 2, 3, 4] (by decide), lN hl0⟩
   ·
    replace hb := (cF hq38).symm.trans hb
    refine lex.gpure (want_t rfl rfl (show _ = Value.bool x32 from rfl) hq38) (v := .func (.func 90) #[] #[.pointer (some ⟨gwanted_1_0, 0, none⟩)]) (pu_move e1) ?_
    refine lex.gpure (want_t rfl rfl (show _ = Value.bool x32 from rfl) hq38) (v := .int .i64 v16_0) (pu_move rfl) ?_
    replace hC : Cx I O0 w w22 ([.box gwanted_1_0 32 [.slice Awanted_1_0_0 wanted_1_0_0.length cwanted_1_0_0, .slice Awanted_1_0_1 wanted_1_0_1.length cwanted_1_0_1, .int .i64 wanted_1_0_2]] ++ [.ro (.sl (.int .i64)) [.slice Awanted_1_0_0 wanted_1_0_0.length cwanted_1_0_0] wanted_1_0_0, .ro (.sl (.int .i64)) [.slice Awanted_1_0_1 wanted_1_0_1.length cwanted_1_0_1] wanted_1_0_1, .own 30 (.sl (.int .i64)) (.slice Al7_0 l7_0.length cl7_0) l7_0, .own 4 .bool (.slice (some ad34) (((List.replicate count_0.toNat false)).length) c10) qf14_0]) := hC.sel [0, 1, 2, 3, 4] (by decide)
    obtain ⟨y41, h42, hb⟩ := bd hb
    refine lex.gcl (want_t rfl rfl (show _ = Value.bool x32 from rfl) hq38) (⟨_, _, op_callv (vs := [.int .i64 v16_0, .pointer (some ⟨gwanted_1_0, 0, none⟩)]) (ca := #[.pointer (some ⟨gwanted_1_0, 0, none⟩)]) Try.call90 rfl rfl rfl, diagram_Strands_c1_ok n hC.lt hrv16_0 (hC.rd (i := 1) rfl) (hC.rd (i := 2) rfl) hwanted_1_0_2 hC.give h42⟩) ?_
    rintro _ w43 ⟨rfl, hK⟩
    replace hC := hC.back hK
    clear hK
    refine lex.gpure (want_t rfl rfl (show _ = Value.bool x32 from rfl) hq38) (v := .bool (!y41)) (pu_not (q := y41) rfl) ?_
    refine lex.pure (v := .bool (!y41)) (pu_pickF (q := x32) rfl hq38 rfl) ?_
    refine lex.nil ?_
    refine hK31 _ _ ?_
    refine Wc.cond (t := (!y41)) (rfl) (fun hq44 => ?_) (fun hq44 => ?_)
    ·
     replace hb := (cT hq44).symm.trans hb
     refine Wc.exit rfl ?_
     refine hK28 _ _ ?_
     refine Wc.region (by decide +kernel) ?_
     obtain ⟨z45, h46, hb⟩ := bd hb
     refine lex.pure (v := .int .i64 z45) (pu_addc (a := v16_0) (b := 1) e16 rfl h46) ?_
     refine lex.pure (v := .int .i64 z45) (pu_move rfl) ?_
     refine lex.nil ?_
     obtain rfl := Option.some.inj hb
     exact hK20 m21' _ _ (Nat.lt_succ_self _) ⟨l7_0, z45, qf14_0, Al7_0, l7_0.length, cl7_0, e1, e2, e6, e7, e8, e15, rfl, (chk_rng h46), hC.sel [0, 1, 2, 3, 4] (by decide), lN hl0⟩
    ·
     replace hb := (cF hq44).symm.trans hb
     refine Wc.skip ?_
     refine hK30 _ _ ?_
     refine Wc.fresh fun E47 hE => ?_
     have e1 : E47 1 = .func (.func 90) #[] #[.pointer (some ⟨gwanted_1_0, 0, none⟩)] := (congrFun hE 1).trans e1
     have e2 : E47 2 = .func (.func 92) #[] #[.pointer (some ⟨gwanted_1_0, 0, none⟩)] := (congrFun hE 2).trans e2
     have e6 : E47 6 = .slice none 0 0 := (congrFun hE 6).trans e6
     have e7 : E47 7 = .slice Al7_0 l7_0.length cl7_0 := (congrFun hE 7).trans e7
     have e8 : E47 8 = .slice (some ad34) (((List.replicate count_0.toNat false)).length) c10 := (congrFun hE 8).trans e8
     have e9 : E47 9 = .int .i64 v16_0 := (congrFun hE 9).trans rfl
     have e15 : E47 15 = .int .i64 count_0 := (congrFun hE 15).trans e15
     have e16 : E47 16 = .int .i64 v16_0 := (congrFun hE 16).trans e16
     have e17 : E47 17 = .bool (decide (v16_0 < count_0)) := (congrFun hE 17).trans rfl
     have e28 : E47 28 = .bool (!y41) := (congrFun hE 28).trans rfl
     clear hE
     refine Wc.seq fun K48 hK48 => ?_
     refine Wc.region (by decide +kernel) ?_
     refine lex.pure (v := .int .i64 v16_0) (pu_move e9) ?_
     refine lex.pure (v := .func (.func 92) #[] #[.pointer (some ⟨gwanted_1_0, 0, none⟩)]) (pu_move e2) ?_
     replace hC : Cx I O0 w w43 ([.box gwanted_1_0 32 [.slice Awanted_1_0_0 wanted_1_0_0.length cwanted_1_0_0, .slice Awanted_1_0_1 wanted_1_0_1.length cwanted_1_0_1, .int .i64 wanted_1_0_2]] ++ [.ro (.sl (.int .i64)) [.slice Awanted_1_0_0 wanted_1_0_0.length cwanted_1_0_0] wanted_1_0_0, .ro (.sl (.int .i64)) [.slice Awanted_1_0_1 wanted_1_0_1.length cwanted_1_0_1] wanted_1_0_1, .own 30 (.sl (.int .i64)) (.slice Al7_0 l7_0.length cl7_0) l7_0, .own 4 .bool (.slice (some ad34) (((List.replicate count_0.toNat false)).length) c10) qf14_0]) := hC.sel [0, 1, 2, 3, 4] (by decide)
     obtain ⟨y49, h50, hb⟩ := bd hb
     refine lex.cl (⟨_, _, op_call (vs := [.int .i64 v16_0, .func (.func 92) #[] #[.pointer (some ⟨gwanted_1_0, 0, none⟩)]]) Try.call102 rfl rfl rfl, diagram_cycle_diagram_Strands_c2_ok n hC.lt hrv16_0 (hC.rd (i := 1) rfl) (hC.rd (i := 2) rfl) hwanted_1_0_2 hC.give h50⟩) ?_
     rintro _ w55 ⟨A51, m52, c53, rfl, hK⟩
     replace hC := hC.back hK
     clear hK
     obtain ⟨rfl, hl56, hc57⟩ := (hC.ow (i := 0) rfl).sl_len
     refine lex.pure (v := .slice A51 y49.length c53) (pu_assign rfl) ?_
     refine lex.nil ?_
     refine hK48 _ _ ?_
     refine Wc.seq fun K58 hK58 => ?_
     refine Wc.seq fun K59 hK59 => ?_
     refine Wc.region (by decide +kernel) ?_
     refine lex.pure (v := .slice A51 y49.length c53) (pu_move rfl) ?_
     refine lex.pure (v := .int .i64 (y49.length : Int)) (pu_len (A := A51) (n := y49.length) (m := c53) Try.underlying30 rfl) ?_
     refine lex.pure (v := .int .i64 0) (pu_move rfl) ?_
     refine lex.nil ?_
     refine hK59 _ _ ?_
     obtain ⟨o60, hl1, hb⟩ := bd hb
     refine Wc.cut (fun E wv => ∃ (v34_1 : Int) (qf14_1 : List Bool), E 1 = .func (.func 90) #[] #[.pointer (some ⟨gwanted_1_0, 0, none⟩)] ∧ E 2 = .func (.func 92) #[] #[.pointer (some ⟨gwanted_1_0, 0, none⟩)] ∧ E 6 = .slice none 0 0 ∧ E 7 = .slice Al7_0 l7_0.length cl7_0 ∧ E 8 = .slice (some ad34) (((List.replicate count_0.toNat false)).length) c10 ∧ E 9 = .int .i64 v16_0 ∧ E 10 = .slice A51 y49.length c53 ∧ E 15 = .int .i64 count_0 ∧ E 16 = .int .i64 v16_0 ∧ E 17 = .bool (decide (v16_0 < count_0)) ∧ E 28 = .bool (!y41) ∧ E 32 = .slice A51 y49.length c53 ∧ E 33 = .int .i64 (y49.length : Int) ∧ E 34 = .int .i64 v34_1 ∧ I64 v34_1 ∧ Cx I O0 w wv [.box gwanted_1_0 32 [.slice Awanted_1_0_0 wanted_1_0_0.length cwanted_1_0_0, .slice Awanted_1_0_1 wanted_1_0_1.length cwanted_1_0_1, .int .i64 wanted_1_0_2], .ro (.sl (.int .i64)) [.slice Awanted_1_0_0 wanted_1_0_0.length cwanted_1_0_0] wanted_1_0_0, .ro (.sl (.int .i64)) [.slice Awanted_1_0_1 wanted_1_0_1.length cwanted_1_0_1] wanted_1_0_1, .own 30 (.sl (.int .i64)) (.slice Al7_0 l7_0.length cl7_0) l7_0, .own 4 .bool (.slice (some ad34) (((List.replicate count_0.toNat false)).length) c10) qf14_1, .own 3 (.int .i64) (.slice A51 y49.length c53) y49] ∧ ((lim (l7_0.length + ([y49] : List (List Int)).length)).bind fun u95 => (chk (v16_0 + 1)).bind fun z102 => some (.inl ((l7_0 ++ ([y49] : List (List Int))), z102, qf14_1)) : Option (((List (List Int)) × Int × (List Bool)) ⊕ (((List (List Int)) × Int × (List Bool))))) = some o24) (fun K61 hK61 => ?_) ?_
     ·
      refine Wc.block ?_
      refine Wc.loop (fun m E wv => ∃ (v34_1 : Int) (qf14_1 : List Bool), E 1 = .func (.func 90) #[] #[.pointer (some ⟨gwanted_1_0, 0, none⟩)] ∧ E 2 = .func (.func 92) #[] #[.pointer (some ⟨gwanted_1_0, 0, none⟩)] ∧ E 6 = .slice none 0 0 ∧ E 7 = .slice Al7_0 l7_0.length cl7_0 ∧ E 8 = .slice (some ad34) (((List.replicate count_0.toNat false)).length) c10 ∧ E 9 = .int .i64 v16_0 ∧ E 10 = .slice A51 y49.length c53 ∧ E 15 = .int .i64 count_0 ∧ E 16 = .int .i64 v16_0 ∧ E 17 = .bool (decide (v16_0 < count_0)) ∧ E 28 = .bool (!y41) ∧ E 32 = .slice A51 y49.length c53 ∧ E 33 = .int .i64 (y49.length : Int) ∧ E 34 = .int .i64 v34_1 ∧ I64 v34_1 ∧ Cx I O0 w wv [.box gwanted_1_0 32 [.slice Awanted_1_0_0 wanted_1_0_0.length cwanted_1_0_0, .slice Awanted_1_0_1 wanted_1_0_1.length cwanted_1_0_1, .int .i64 wanted_1_0_2], .ro (.sl (.int .i64)) [.slice Awanted_1_0_0 wanted_1_0_0.length cwanted_1_0_0] wanted_1_0_0, .ro (.sl (.int .i64)) [.slice Awanted_1_0_1 wanted_1_0_1.length cwanted_1_0_1] wanted_1_0_1, .own 30 (.sl (.int .i64)) (.slice Al7_0 l7_0.length cl7_0) l7_0, .own 4 .bool (.slice (some ad34) (((List.replicate count_0.toNat false)).length) c10) qf14_1, .own 3 (.int .i64) (.slice A51 y49.length c53) y49] ∧ loopN m (F.diagram_cycles_diagram_Strands_c1_diagram_Strands_c2_b1 n y49) (v34_1, qf14_1) = some o60) n ⟨0, qf14_0, e1, e2, e6, e7, e8, e9, rfl, e15, e16, e17, e28, rfl, rfl, rfl, (show I64 0 from by unfold I64; omega), hC.sel [1, 2, 3, 4, 5, 0] (by decide), hl1⟩ ?_
      have hbK1 := hb
      clear hb hC hl1
      rintro m63 E65 w64 ⟨v34_1, qf14_1, e1, e2, e6, e7, e8, e9, e10, e15, e16, e17, e28, e32, e33, e34, hrv34_1, hC, hl1⟩ K62 hK62
      obtain ⟨m63', o66, rfl, hb, hl1⟩ := loopN_some hl1
      unfold F.diagram_cycles_diagram_Strands_c1_diagram_Strands_c2_b1 at hb
      refine Wc.seq fun K67 hK67 => ?_
      refine Wc.region (by decide +kernel) ?_
      refine lex.pure (v := .bool (decide (v34_1 < (y49.length : Int)))) (pu_lss (k := .i64) (a := v34_1) (b := (y49.length : Int)) e34 e33) ?_
      refine lex.nil ?_
      refine hK67 _ _ ?_
      refine Wc.seq fun K68 hK68 => ?_
      refine Wc.cond (t := (decide (v34_1 < (y49.length : Int)))) (rfl) (fun hq69 => ?_) (fun hq69 => ?_)
      ·
       replace hb := (cT hq69).symm.trans hb
       refine Wc.skip ?_
       refine hK68 _ _ ?_
       refine Wc.seq fun K70 hK70 => ?_
       refine Wc.block ?_
       refine Wc.seq fun K71 hK71 => ?_
       refine Wc.region (by decide +kernel) ?_
       obtain ⟨x72, h73, hb⟩ := bd hb
       obtain ⟨ad74, cs75, hA, hc76, hr77⟩ := hC.elo (i := 5) rfl (get_some h73).2
       subst hA
       refine lex.pure (v := .pointer (some (ad74.add (v34_1.toNat * 1)))) (pu_index (a := v34_1) Try.underlying30 Try.sizeOf3 e32 e34 (get_some h73).1) ?_
       obtain ⟨rfl, hr77'⟩ := hr77
       refine lex.val (v := .int .i64 x72) (ld_one Try.isAgg3 rfl (hc76 0 _ rfl)) ?_
       refine lex.pure (v := .int .i64 x72) (pu_assign rfl) ?_
       refine lex.nil ?_
       refine hK71 _ _ ?_
       refine Wc.region (by decide +kernel) ?_
       refine lex.pure (v := .slice (some ad34) (((List.replicate count_0.toNat false)).length) c10) (pu_move e8) ?_
       refine lex.pure (v := .int .i64 x72) (pu_move rfl) ?_
       obtain ⟨x78, h79, hb⟩ := bd hb
       obtain ⟨ad80, cs81, hA, hc82, hr83⟩ := hC.elo (i := 4) rfl (get_some h79).2
       obtain rfl := Option.some.inj hA
       refine lex.pure (v := .pointer (some (ad34.add (x72.toNat * 1)))) (pu_index (a := x72) Try.underlying122 Try.sizeOf4 rfl rfl (by rw [(hC.ow (i := 4) rfl).sl_len.1]; exact (get_some h79).1)) ?_
       refine lex.sk (hC.put (i := 4) rfl rfl Try.sizeOf4 (k := x72.toNat) (a := true) (by have := (get_some h79).1; simp at this ⊢; omega) (show Rep _ _ .bool _ _ from rfl) rfl rfl rfl) ?_
       rintro w84 ⟨hC, hF⟩
       refine lex.nil ?_
       refine hK70 _ _ ?_
       refine Wc.region (by decide +kernel) ?_
       obtain ⟨z85, h86, hb⟩ := bd hb
       refine lex.pure (v := .int .i64 z85) (pu_addc (a := v34_1) (b := 1) e34 rfl h86) ?_
       refine lex.pure (v := .int .i64 z85) (pu_move rfl) ?_
       refine lex.nil ?_
       obtain rfl := Option.some.inj hb
       exact hK62 m63' _ _ (Nat.lt_succ_self _) ⟨z85, (qf14_1.set x72.toNat true), e1, e2, e6, e7, e8, e9, e10, e15, e16, e17, e28, e32, e33, rfl, (chk_rng h86), hC.sel [0, 1, 2, 3, 4, 5] (by decide), lN hl1⟩
      ·
       replace hb := (cF hq69).symm.trans hb
       refine Wc.exit rfl ?_
       obtain rfl := Option.some.inj hb
       obtain rfl := (lX hl1).symm
       exact hK61 _ _ ⟨v34_1, qf14_1, e1, e2, e6, e7, e8, e9, e10, e15, e16, e17, e28, e32, e33, e34, hrv34_1, hC.sel [0, 1, 2, 3, 4, 5] (by decide), hbK1⟩
     ·
      clear hb hC hl1
      rintro E88 w87 ⟨v34_1, qf14_1, e1, e2, e6, e7, e8, e9, e10, e15, e16, e17, e28, e32, e33, e34, hrv34_1, hC, hb⟩
      refine hK58 _ _ ?_
      refine Wc.region (by decide +kernel) ?_
      refine lex.pure (v := .slice Al7_0 l7_0.length cl7_0) (pu_move e7) ?_
      refine lex.pure (v := .slice A51 y49.length c53) (pu_move e10) ?_
      replace hC := hC.freeze (i := 5) rfl (hC.own_newI hI (i := 5) rfl (List.forall_mem_cons.2 ⟨fun g hg => ⟨0, _, rfl, by decide, hg⟩, fun _ h => absurd h List.not_mem_nil⟩))
      refine lex.op (hC.lit (s := (.sl (.int .i64))) (vs := [.slice A51 y49.length c53]) (xs := [y49]) Try.underlying93 Try.type30 rfl rfl (Nat.le_of_ble_eq_true rfl) rfl rfl (by simp [Value.cells, Sh.n]) rfl (show Elems _ _ (.sl (.int .i64)) ([.slice A51 y49.length c53] ++ ([])) ([y49] : List (List Int)) from Elems.cons (hC.rd (i := 5) rfl) (Elems.nil _ _ _))) ?_
      rintro _ w93 ⟨A89, c90, rfl, hl91, hc92, hC, hF, hN⟩
      clear hF hN
      obtain ⟨u95, h96, hb⟩ := bd hb
      refine lex.op (hC.app (i := 4) (s := (.sl (.int .i64))) (xs := l7_0) (ys := ([y49] : List (List Int))) (m := ((([y49] : List (List Int))).length)) rfl Try.underlying93 Try.underlying93 Try.type30 rfl rfl rfl (hC.srco (i := 0) rfl) rfl rfl (by have := lim_some h96; simp at this ⊢ <;> omega) (by decide)) ?_
      rintro _ w101 ⟨A97, c98, rfl, hl99, hc100, hC, hF, hN⟩
      clear hF hN
      refine lex.pure (v := .slice A97 ((l7_0 ++ ([y49] : List (List Int))).length) c98) (pu_assign rfl) ?_
      refine lex.nil ?_
      refine hK28 _ _ ?_
      refine Wc.region (by decide +kernel) ?_
      obtain ⟨z102, h103, hb⟩ := bd hb
      refine lex.pure (v := .int .i64 z102) (pu_addc (a := v16_0) (b := 1) e16 rfl h103) ?_
      refine lex.pure (v := .int .i64 z102) (pu_move rfl) ?_
      refine lex.nil ?_
      obtain rfl := Option.some.inj hb
      exact hK20 m21' _ _ (Nat.lt_succ_self _) ⟨(l7_0 ++ ([y49] : List (List Int))), z102, qf14_1, A97, (l7_0 ++ ([y49] : List (List Int))).length, c98, e1, e2, e6, rfl, e8, e15, rfl, (chk_rng h103), hC.sel [1, 2, 3, 4, 5] (by decide), lN hl0⟩
  ·
   replace hb := (cF hq27).symm.trans hb
   refine Wc.exit rfl ?_
   obtain rfl := Option.some.inj hb
   obtain rfl := (lX hl0).symm
   exact hK19 _ _ ⟨l7_0, v16_0, qf14_0, Al7_0, l7_0.length, cl7_0, e6, e7, hrv16_0, hC.sel [3, 0, 1, 2] (by decide), hbK0⟩
 ·
  clear hb hC hl0
  rintro E105 w104 ⟨l7_0, v16_0, qf14_0, Al7_0, ml7_0, cl7_0, e6, e7, hrv16_0, hC, hb⟩
  obtain ⟨rfl, hll7_0, hcl7_0⟩ := (hC.ow (i := 0) rfl).sl_len
  refine hK15 _ _ ?_
  refine Wc.seq fun K106 hK106 => ?_
  refine Wc.region (by decide +kernel) ?_
  refine lex.pure (v := .slice Al7_0 l7_0.length cl7_0) (pu_move e7) ?_
  refine lex.pure (v := .slice Al7_0 l7_0.length cl7_0) (pu_assign rfl) ?_
  refine lex.nil ?_
  refine hK106 _ _ ?_
  obtain rfl := Option.some.inj hb
  subst hI
  refine Wc.ret ?_
  refine hKR _ _ ?_
  refine ⟨_, res1 Try.results91 (show RV _ _ _ (.tmp _) (.slice Al7_0 l7_0.length cl7_0) from rfl), _, rfl, Al7_0, l7_0.length, cl7_0, rfl, hC.sel [0, 1] (by decide)⟩

set_option maxRecDepth 100000 in
set_option maxHeartbeats 4000000 in
theorem diagram_Strands_ok (n : Nat) {w : World} {O0 : List Nat} (hO : ∀ k ∈ O0, k < w.heap.size) {Ad_0_0 : Option Addr} {md_0_0 cd_0_0 : Nat} {d_0_0 : List Int} (hd_0_0 : Rep O0 w (.sl (.int .i64)) [.slice Ad_0_0 md_0_0 cd_0_0] d_0_0) {Ad_0_1 : Option Addr} {md_0_1 cd_0_1 : Nat} {d_0_1 : List Int} (hd_0_1 : Rep O0 w (.sl (.int .i64)) [.slice Ad_0_1 md_0_1 cd_0_1] d_0_1) {d_0_2 : Int} (hd_0_2 : I64 d_0_2) {r : (List (List Int))} (hb : F.diagram_Strands n d_0_0 d_0_1 d_0_2 = some r) :
  Calls Try.prog 67 #[.agg #[.slice Ad_0_0 md_0_0 cd_0_0, .slice Ad_0_1 md_0_1 cd_0_1, .int .i64 d_0_2]] w fun e w' => ∃ v, e = .returned v ∧ ∃ (A0 : Option Addr) (m0 c0 : Nat), v = .slice A0 m0 c0 ∧ Cx (fun _ => False) O0 w w' [.own 30 (.sl (.int .i64)) (.slice A0 m0 c0) r] := by
 unfold F.diagram_Strands at hb
 have hC := Cx.start hO
 replace hC := hC.arg rfl hd_0_0
 replace hC := hC.arg rfl hd_0_1
 clear hO
 obtain ⟨rfl, hld_0_0, hcd_0_0⟩ := hd_0_0.sl_len
 obtain ⟨rfl, hld_0_1, hcd_0_1⟩ := hd_0_1.sl_len
 refine calls_of_Wc Try.func67 rfl (by rw [Try.ntmps67]; exact Nat.le_of_ble_eq_true rfl) fun KR hKR => ?_
 refine Wc.seq fun K3 hK3 => ?_
 refine Wc.region (by decide +kernel) ?_
 refine lex.op (hC.box (cs := [.slice Ad_0_0 d_0_0.length cd_0_0, .slice Ad_0_1 d_0_1.length cd_0_1, .int .i64 d_0_2]) rfl rfl) ?_
 rintro _ w5 ⟨g4, rfl, hC, hF, hG⟩
 clear hG
 refine lex.pure (v := .slice none 0 0) (pu_assign rfl) ?_
 refine lex.nil ?_
 refine hK3 _ _ ?_
 refine Wc.seq fun K7 hK7 => ?_
 refine Wc.seq fun K8 hK8 => ?_
 refine Wc.region (by decide +kernel) ?_
 refine lex.val (v := .agg #[.slice Ad_0_0 d_0_0.length cd_0_0, .slice Ad_0_1 d_0_1.length cd_0_1, .int .i64 d_0_2]) (ld_blk (hC.bx (i := 0) rfl) Try.isAgg32 Try.sizeOf32 rfl) ?_
 obtain ⟨y9, h10, hb⟩ := bd hb
 refine lex.cl (⟨_, _, op_call (vs := [.agg #[.slice Ad_0_0 d_0_0.length cd_0_0, .slice Ad_0_1 d_0_1.length cd_0_1, .int .i64 d_0_2]]) Try.call27 rfl rfl rfl, diagram_Valid_ok n hC.lt (hC.rd (i := 2) rfl) (hC.rd (i := 1) rfl) hd_0_2 h10⟩) ?_
 rintro _ w11 ⟨rfl, hK⟩
 replace hC := hC.merge hK
 clear hK
 refine lex.pure (v := .bool (!y9)) (pu_not (q := y9) rfl) ?_
 refine lex.nil ?_
 refine hK8 _ _ ?_
 refine Wc.cond (t := (!y9)) (rfl) (fun hq12 => ?_) (fun hq12 => ?_)
 ·
  replace hb := (cT hq12).symm.trans hb
  refine Wc.seq fun K13 hK13 => ?_
  refine Wc.region (by decide +kernel) ?_
  refine lex.pure (v := .slice none 0 0) (pu_assign rfl) ?_
  refine lex.nil ?_
  refine hK13 _ _ ?_
  replace hC := hC.nil 30 (.sl (.int .i64))
  obtain rfl := Option.some.inj hb
  refine Wc.ret ?_
  refine hKR _ _ ?_
  refine ⟨_, res1 Try.results67 (show RV _ _ _ (.tmp _) (.slice none 0 0) from rfl), _, rfl, none, 0, 0, rfl, hC.sel [0] (by decide)⟩
 ·
  replace hb := (cF hq12).symm.trans hb
  refine Wc.skip ?_
  refine hK7 _ _ ?_
  refine Wc.seq fun K15 hK15 => ?_
  refine Wc.region (by decide +kernel) ?_
  refine lex.pure (v := .func (.func 90) #[] #[.pointer (some ⟨g4, 0, none⟩)]) (pu_funcc rfl) ?_
  refine lex.pure (v := .func (.func 90) #[] #[.pointer (some ⟨g4, 0, none⟩)]) (pu_assign rfl) ?_
  refine lex.nil ?_
  refine hK15 _ _ ?_
  refine Wc.seq fun K16 hK16 => ?_
  refine Wc.region (by decide +kernel) ?_
  refine lex.pure (v := .pointer (some ((⟨g4, 0, none⟩ : Addr).add 1))) (pu_field (sz := 1) Try.underlying32 rfl Try.sizeOf30 (by decide) rfl rfl) ?_
  refine lex.val (v := .slice Ad_0_1 d_0_1.length cd_0_1) (ld_fld (hC.bx (i := 0) rfl) Try.isAgg30 rfl rfl) ?_
  refine lex.pure (v := .int .i64 (d_0_1.length : Int)) (pu_len (A := Ad_0_1) (n := d_0_1.length) (m := cd_0_1) Try.underlying30 rfl) ?_
  refine lex.pure (v := .func (.func 90) #[] #[.pointer (some ⟨g4, 0, none⟩)]) (pu_move rfl) ?_
  refine lex.pure (v := .func (.func 92) #[] #[.pointer (some ⟨g4, 0, none⟩)]) (pu_funcc rfl) ?_
  replace hC : Cx (fun _ => False) O0 w w11 ([.box g4 32 [.slice Ad_0_0 d_0_0.length cd_0_0, .slice Ad_0_1 d_0_1.length cd_0_1, .int .i64 d_0_2]] ++ [.ro (.sl (.int .i64)) [.slice Ad_0_1 d_0_1.length cd_0_1] d_0_1, .ro (.sl (.int .i64)) [.slice Ad_0_0 d_0_0.length cd_0_0] d_0_0]) := hC.sel [0, 1, 2] (by decide)
  obtain ⟨y17, h18, hb⟩ := bd hb
  refine lex.cl (⟨_, _, op_call (vs := [.int .i64 (d_0_1.length : Int), .func (.func 90) #[] #[.pointer (some ⟨g4, 0, none⟩)], .func (.func 92) #[] #[.pointer (some ⟨g4, 0, none⟩)]]) Try.call91 rfl rfl rfl, diagram_cycles_diagram_Strands_c1_diagram_Strands_c2_ok n hC.lt (I64.len hld_0_1 hcd_0_1) (hC.rd (i := 2) rfl) (hC.rd (i := 1) rfl) hd_0_2 hC.give h18⟩) ?_
  rintro _ w23 ⟨A19, m20, c21, rfl, hK⟩
  replace hC := hC.back hK
  clear hK
  obtain ⟨rfl, hl24, hc25⟩ := (hC.ow (i := 0) rfl).sl_len
  refine lex.pure (v := .slice A19 y17.length c21) (pu_assign rfl) ?_
  refine lex.nil ?_
  refine hK16 _ _ ?_
  obtain rfl := Option.some.inj hb
  refine Wc.ret ?_
  refine hKR _ _ ?_
  refine ⟨_, res1 Try.results67 (show RV _ _ _ (.tmp _) (.slice A19 y17.length c21) from rfl), _, rfl, A19, y17.length, c21, rfl, hC.sel [0] (by decide)⟩

set_option maxRecDepth 100000 in
set_option maxHeartbeats 4000000 in
theorem diagram_Components_ok (n : Nat) {w : World} {O0 : List Nat} (hO : ∀ k ∈ O0, k < w.heap.size) {Ad_0_0 : Option Addr} {md_0_0 cd_0_0 : Nat} {d_0_0 : List Int} (hd_0_0 : Rep O0 w (.sl (.int .i64)) [.slice Ad_0_0 md_0_0 cd_0_0] d_0_0) {Ad_0_1 : Option Addr} {md_0_1 cd_0_1 : Nat} {d_0_1 : List Int} (hd_0_1 : Rep O0 w (.sl (.int .i64)) [.slice Ad_0_1 md_0_1 cd_0_1] d_0_1) {d_0_2 : Int} (hd_0_2 : I64 d_0_2) {r : Int} (hb : F.diagram_Components n d_0_0 d_0_1 d_0_2 = some r) :
  Calls Try.prog 28 #[.agg #[.slice Ad_0_0 md_0_0 cd_0_0, .slice Ad_0_1 md_0_1 cd_0_1, .int .i64 d_0_2]] w fun e w' => ∃ v, e = .returned v ∧ v = .int .i64 r ∧ I64 r ∧ Cx (fun _ => False) O0 w w' [] := by
 unfold F.diagram_Components at hb
 have hC := Cx.start hO
 replace hC := hC.arg rfl hd_0_0
 replace hC := hC.arg rfl hd_0_1
 clear hO
 obtain ⟨rfl, hld_0_0, hcd_0_0⟩ := hd_0_0.sl_len
 obtain ⟨rfl, hld_0_1, hcd_0_1⟩ := hd_0_1.sl_len
 refine calls_of_Wc Try.func28 rfl (by rw [Try.ntmps28]; exact Nat.le_of_ble_eq_true rfl) fun KR hKR => ?_
 refine Wc.seq fun K3 hK3 => ?_
 refine Wc.region (by decide +kernel) ?_
 refine lex.op (hC.box (cs := [.slice Ad_0_0 d_0_0.length cd_0_0, .slice Ad_0_1 d_0_1.length cd_0_1, .int .i64 d_0_2]) rfl rfl) ?_
 rintro _ w5 ⟨g4, rfl, hC, hF, hG⟩
 clear hG
 refine lex.pure (v := .int .i64 0) (pu_assign rfl) ?_
 refine lex.nil ?_
 refine hK3 _ _ ?_
 refine Wc.seq fun K7 hK7 => ?_
 refine Wc.seq fun K8 hK8 => ?_
 refine Wc.region (by decide +kernel) ?_
 refine lex.val (v := .agg #[.slice Ad_0_0 d_0_0.length cd_0_0, .slice Ad_0_1 d_0_1.length cd_0_1, .int .i64 d_0_2]) (ld_blk (hC.bx (i := 0) rfl) Try.isAgg32 Try.sizeOf32 rfl) ?_
 obtain ⟨y9, h10, hb⟩ := bd hb
 refine lex.cl (⟨_, _, op_call (vs := [.agg #[.slice Ad_0_0 d_0_0.length cd_0_0, .slice Ad_0_1 d_0_1.length cd_0_1, .int .i64 d_0_2]]) Try.call27 rfl rfl rfl, diagram_Valid_ok n hC.lt (hC.rd (i := 2) rfl) (hC.rd (i := 1) rfl) hd_0_2 h10⟩) ?_
 rintro _ w11 ⟨rfl, hK⟩
 replace hC := hC.merge hK
 clear hK
 refine lex.pure (v := .bool (!y9)) (pu_not (q := y9) rfl) ?_
 refine lex.nil ?_
 refine hK8 _ _ ?_
 refine Wc.cond (t := (!y9)) (rfl) (fun hq12 => ?_) (fun hq12 => ?_)
 ·
  replace hb := (cT hq12).symm.trans hb
  refine Wc.seq fun K13 hK13 => ?_
  refine Wc.region (by decide +kernel) ?_
  refine lex.pure (v := .int .i64 0) (pu_assign rfl) ?_
  refine lex.nil ?_
  refine hK13 _ _ ?_
  obtain rfl := Option.some.inj hb
  refine Wc.ret ?_
  refine hKR _ _ ?_
  refine ⟨_, res1 Try.results28 (show RV _ _ _ (.tmp _) (.int .i64 0) from rfl), _, rfl, rfl, (show I64 0 from by unfold I64; omega), hC.sel [] (by decide)⟩
 ·
  replace hb := (cF hq12).symm.trans hb
  refine Wc.skip ?_
  refine hK7 _ _ ?_
  refine Wc.seq fun K14 hK14 => ?_
  refine Wc.regionMix [] (frm [] ([] : List Fact) ([] : List Fact)) (fun _ => rfl) mixed (by decide +kernel) (by decide +kernel) fun w16 hw15 => ?_
  replace hC := hC.step (Fr.of_drew hw15)
  have hM := Fr.refl (fun k => k ∈ blocks ([] : List Fact)) w16
  clear hw15
  have hS := hC
  refine mixE.load hM (v := .agg #[.slice Ad_0_0 d_0_0.length cd_0_0, .slice Ad_0_1 d_0_1.length cd_0_1, .int .i64 d_0_2]) (fun _ hF => ld_blk (hS.bx2 (i := 0) rfl [] (by decide) hF) Try.isAgg32 Try.sizeOf32 rfl) ?_
  obtain ⟨y17, h18, hb⟩ := bd hb
  refine mixE.cl hM (⟨_, _, op_call (vs := [.agg #[.slice Ad_0_0 d_0_0.length cd_0_0, .slice Ad_0_1 d_0_1.length cd_0_1, .int .i64 d_0_2]]) Try.call67 rfl rfl rfl, diagram_Strands_ok n hC.lt (hC.rd (i := 2) rfl) (hC.rd (i := 1) rfl) hd_0_2 h18⟩) ?_
  rintro _ w23 ⟨A19, m20, c21, rfl, hK⟩
  have hBf22 := Beside.cl (i := 0) hM hK rfl
  replace hM := hM.none hK.fr
  refine ⟨hM, ?_⟩
  replace hC := hC.merge hK
  clear hK
  obtain ⟨rfl, hl24, hc25⟩ := (hC.ow (i := 0) rfl).sl_len
  refine mixE.pure (v := .int .i64 (y17.length : Int)) (pu_len (A := A19) (n := y17.length) (m := c21) Try.underlying93 rfl) ?_
  refine mixE.pure (v := .pointer (some ((⟨g4, 0, none⟩ : Addr).add 2))) (pu_field (sz := 1) Try.underlying32 rfl Try.sizeOf3 (by decide) rfl rfl) ?_
  refine mixE.load hM (v := .int .i64 d_0_2) (fun _ hF => ld_fld (hS.bx2 (i := 0) rfl [] (by decide) hF) Try.isAgg3 rfl rfl) ?_
  obtain ⟨z26, h27, hb⟩ := bd hb
  refine mixE.pure (v := .int .i64 z26) (pu_addc (a := (y17.length : Int)) (b := d_0_2) rfl rfl h27) ?_
  refine mixE.pure (v := .int .i64 z26) (pu_assign rfl) ?_
  refine mixE.nil ?_
  clear hS hM
  refine hK14 _ _ ?_
  obtain rfl := Option.some.inj hb
  refine Wc.ret ?_
  refine hKR _ _ ?_
  refine ⟨_, res1 Try.results28 (show RV _ _ _ (.tmp _) (.int .i64 z26) from rfl), _, rfl, rfl, (chk_rng h27), hC.sel [] (by decide)⟩

set_option maxRecDepth 100000 in
set_option maxHeartbeats 4000000 in
theorem law46_PolygonValid_ok (n : Nat) {w : World} {O0 : List Nat} (hO : ∀ k ∈ O0, k < w.heap.size) {Al_0 : Option Addr} {ml_0 cl_0 : Nat} {l_0 : List (List (Int × (Int × Int)))} (hl_0 : Rep O0 w (.sl (.sl (.pr (.int .i64) (.pr (.int .i64) (.int .i64))))) [.slice Al_0 ml_0 cl_0] l_0) {r : Bool} (hb : F.law46_PolygonValid n l_0 = some r) :
  Calls Try.prog 7 #[.slice Al_0 ml_0 cl_0] w fun e w' => ∃ v, e = .returned v ∧ v = .bool r ∧ Cx (fun _ => False) O0 w w' [] := by
 unfold F.law46_PolygonValid at hb
 have hC := Cx.start hO
 replace hC := hC.arg rfl hl_0
 clear hO
 obtain ⟨rfl, hll_0, hcl_0⟩ := hl_0.sl_len
 refine calls_of_Wc Try.func7 rfl (by rw [Try.ntmps7]; exact Nat.le_of_ble_eq_true rfl) fun KR hKR => ?_
 refine Wc.seq fun K2 hK2 => ?_
 refine Wc.region (by decide +kernel) ?_
 refine lex.pure (v := .bool false) (pu_assign rfl) ?_
 refine lex.nil ?_
 refine hK2 _ _ ?_
 refine Wc.seq fun K3 hK3 => ?_
 refine Wc.seq fun K4 hK4 => ?_
 refine Wc.region (by decide +kernel) ?_
 obtain ⟨y5, h6, hb⟩ := bd hb
 refine lex.cl (⟨_, _, op_call (vs := []) Try.call11 rfl rfl rfl, law46_awake_ok n hC.lt  h6⟩) ?_
 rintro _ w7 ⟨rfl, hK⟩
 replace hC := hC.merge hK
 clear hK
 refine lex.pure (v := .bool (!y5)) (pu_not (q := y5) rfl) ?_
 refine lex.nil ?_
 refine hK4 _ _ ?_
 refine Wc.cond (t := (!y5)) (rfl) (fun hq8 => ?_) (fun hq8 => ?_)
 ·
  replace hb := (cT hq8).symm.trans hb
  refine Wc.seq fun K9 hK9 => ?_
  refine Wc.region (by decide +kernel) ?_
  refine lex.pure (v := .bool false) (pu_assign rfl) ?_
  refine lex.nil ?_
  refine hK9 _ _ ?_
  obtain rfl := Option.some.inj hb
  refine Wc.ret ?_
  refine hKR _ _ ?_
  refine ⟨_, res1 Try.results7 (show RV _ _ _ (.tmp _) (.bool false) from rfl), _, rfl, rfl, hC.sel [] (by decide)⟩
 ·
  replace hb := (cF hq8).symm.trans hb
  refine Wc.skip ?_
  refine hK3 _ _ ?_
  refine Wc.seq fun K10 hK10 => ?_
  refine Wc.region (by decide +kernel) ?_
  refine lex.pure (v := .slice Al_0 l_0.length cl_0) (pu_move rfl) ?_
  obtain ⟨y11, h12, hb⟩ := bd hb
  refine lex.cl (⟨_, _, op_call (vs := [.slice Al_0 l_0.length cl_0]) Try.call23 rfl rfl rfl, law46_generic_ok n hC.lt (hC.rd (i := 0) rfl) h12⟩) ?_
  rintro _ w22 ⟨A13, m14, c15, A17, m18, c19, rfl, hr21, hK⟩
  replace hC := hC.merge hK
  clear hK
  obtain ⟨rfl, hl23, hc24⟩ := (hC.ow (i := 0) rfl).sl_len
  obtain ⟨rfl, hl25, hc26⟩ := (hC.ow (i := 1) rfl).sl_len
  refine lex.pure (v := .tuple #[.agg #[.slice A13 y11.1.length c15, .slice A17 y11.2.1.length c19, .int .i64 y11.2.2.1], .bool y11.2.2.2]) (pu_move rfl) ?_
  refine lex.pure (v := .agg #[.slice A13 y11.1.length c15, .slice A17 y11.2.1.length c19, .int .i64 y11.2.2.1]) (pu_extract rfl rfl) ?_
  refine lex.pure (v := .bool y11.2.2.2) (pu_extract rfl rfl) ?_
  refine lex.op (hC.alloc (cs := [.slice none 0 0, .slice none 0 0, .int .i64 0]) Try.zeroValue32 rfl) ?_
  rintro _ w28 ⟨g27, rfl, hC, hF, hG⟩
  clear hG
  refine lex.sk (hC.seta (i := 0) (ds := [.slice A13 y11.1.length c15, .slice A17 y11.2.1.length c19, .int .i64 y11.2.2.1]) rfl Try.type32 rfl rfl rfl rfl rfl) ?_
  rintro w30 ⟨hC, hF⟩
  refine lex.pure (v := .bool y11.2.2.2) (pu_assign rfl) ?_
  refine lex.nil ?_
  refine hK10 _ _ ?_
  refine Wc.fresh fun E31 hE => ?_
  have e0 : E31 0 = .slice Al_0 l_0.length cl_0 := (congrFun hE 0).trans rfl
  have e2 : E31 2 = .bool false := (congrFun hE 2).trans rfl
  have e3 : E31 3 = .pointer (some ⟨g27, 0, none⟩) := (congrFun hE 3).trans rfl
  have e4 : E31 4 = .bool y11.2.2.2 := (congrFun hE 4).trans rfl
  clear hE
  refine Wc.seq fun K32 hK32 => ?_
  refine Wc.region (by decide +kernel) ?_
  refine lex.pure (v := .bool y11.2.2.2) (pu_move e4) ?_
  refine lex.pure (v := .bool (!y11.2.2.2)) (pu_not (q := y11.2.2.2) rfl) ?_
  refine lex.pure (v := .bool (!y11.2.2.2)) (pu_move rfl) ?_
  rcases bS (!y11.2.2.2) with hq33 | hq33
  ·
   replace hb := (cT hq33).symm.trans hb
   refine lex.gskip (want_f rfl rfl (show _ = Value.bool (!y11.2.2.2) from rfl) hq33) ?_
   refine lex.gskip (want_f rfl rfl (show _ = Value.bool (!y11.2.2.2) from rfl) hq33) ?_
   refine lex.gskip (want_f rfl rfl (show _ = Value.bool (!y11.2.2.2) from rfl) hq33) ?_
   refine lex.gskip (want_n rfl rfl rfl) ?_
   refine lex.gskip (want_n rfl rfl rfl) ?_
   refine lex.gskip (want_n rfl rfl rfl) ?_
   refine lex.gskip (want_n rfl rfl rfl) ?_
   refine lex.gskip (want_n rfl rfl rfl) ?_
   refine lex.gskip (want_f rfl rfl (show _ = Value.bool (!y11.2.2.2) from rfl) hq33) ?_
   refine lex.pure (v := .bool true) (pu_pickT (q := (!y11.2.2.2)) rfl hq33 rfl) ?_
   refine lex.pure (v := .bool true) (pu_assign rfl) ?_
   refine lex.nil ?_
   refine hK32 _ _ ?_
   obtain rfl := Option.some.inj hb
   refine Wc.ret ?_
   refine hKR _ _ ?_
   refine ⟨_, res1 Try.results7 (show RV _ _ _ (.tmp _) (.bool true) from rfl), _, rfl, rfl, hC.sel [] (by decide)⟩
  ·
   replace hb := (cF hq33).symm.trans hb
   refine lex.gval (want_t rfl rfl (show _ = Value.bool (!y11.2.2.2) from rfl) hq33) (v := .agg #[.slice A13 y11.1.length c15, .slice A17 y11.2.1.length c19, .int .i64 y11.2.2.1]) (ld_blk (hC.bx (i := 0) rfl) Try.isAgg32 Try.sizeOf32 e3) ?_
   obtain ⟨y34, h35, hb⟩ := bd hb
   refine lex.gcl (want_t rfl rfl (show _ = Value.bool (!y11.2.2.2) from rfl) hq33) (⟨_, _, op_call (vs := [.agg #[.slice A13 y11.1.length c15, .slice A17 y11.2.1.length c19, .int .i64 y11.2.2.1]]) Try.call27 rfl rfl rfl, diagram_Valid_ok n (hC.lentLt [.slice A13 y11.1.length c15, .slice A17 y11.2.1.length c19]) ((hC.ow (i := 1) rfl).lend (vs := [.slice A13 y11.1.length c15, .slice A17 y11.2.1.length c19]) (by simp)) ((hC.ow (i := 2) rfl).lend (vs := [.slice A13 y11.1.length c15, .slice A17 y11.2.1.length c19]) (by simp)) hr21 h35⟩) ?_
   rintro _ w36 ⟨rfl, hK⟩
   replace hC := hC.mergeF hK rfl
   clear hK
   refine lex.gpure (want_t rfl rfl (show _ = Value.bool (!y11.2.2.2) from rfl) hq33) (v := .bool y34) (pu_move rfl) ?_
   rcases bS y34 with hq37 | hq37
   ·
    replace hb := (cT hq37).symm.trans hb
    refine lex.gval (want_t rfl rfl (show _ = Value.bool y34 from rfl) hq37) (v := .agg #[.slice A13 y11.1.length c15, .slice A17 y11.2.1.length c19, .int .i64 y11.2.2.1]) (ld_blk (hC.bx (i := 0) rfl) Try.isAgg32 Try.sizeOf32 e3) ?_
    obtain ⟨y38, h39, hb⟩ := bd hb
    refine lex.gcl (want_t rfl rfl (show _ = Value.bool y34 from rfl) hq37) (⟨_, _, op_call (vs := [.agg #[.slice A13 y11.1.length c15, .slice A17 y11.2.1.length c19, .int .i64 y11.2.2.1]]) Try.call28 rfl rfl rfl, diagram_Components_ok n (hC.lentLt [.slice A13 y11.1.length c15, .slice A17 y11.2.1.length c19]) ((hC.ow (i := 1) rfl).lend (vs := [.slice A13 y11.1.length c15, .slice A17 y11.2.1.length c19]) (by simp)) ((hC.ow (i := 2) rfl).lend (vs := [.slice A13 y11.1.length c15, .slice A17 y11.2.1.length c19]) (by simp)) hr21 h39⟩) ?_
    rintro _ w41 ⟨rfl, hr40, hK⟩
    replace hC := hC.mergeF hK rfl
    clear hK
    refine lex.gpure (want_t rfl rfl (show _ = Value.bool y34 from rfl) hq37) (v := .slice Al_0 l_0.length cl_0) (pu_move e0) ?_
    refine lex.gpure (want_t rfl rfl (show _ = Value.bool y34 from rfl) hq37) (v := .int .i64 (l_0.length : Int)) (pu_len (A := Al_0) (n := l_0.length) (m := cl_0) Try.underlying28 rfl) ?_
    refine lex.gpure (want_t rfl rfl (show _ = Value.bool y34 from rfl) hq37) (v := .bool (decide (y38 = (l_0.length : Int)))) (pu_eql (k := .i64) (a := y38) (b := (l_0.length : Int)) rfl rfl) ?_
    refine lex.gpure (want_t rfl rfl (show _ = Value.bool (!y11.2.2.2) from rfl) hq33) (v := .bool (decide (y38 = (l_0.length : Int)))) (pu_pickT (q := y34) rfl hq37 rfl) ?_
    refine lex.pure (v := .bool (decide (y38 = (l_0.length : Int)))) (pu_pickF (q := (!y11.2.2.2)) rfl hq33 rfl) ?_
    refine lex.pure (v := .bool (decide (y38 = (l_0.length : Int)))) (pu_assign rfl) ?_
    refine lex.nil ?_
    refine hK32 _ _ ?_
    obtain rfl := Option.some.inj hb
    refine Wc.ret ?_
    refine hKR _ _ ?_
    refine ⟨_, res1 Try.results7 (show RV _ _ _ (.tmp _) (.bool (decide (y38 = (l_0.length : Int)))) from rfl), _, rfl, rfl, hC.sel [] (by decide)⟩
   ·
    replace hb := (cF hq37).symm.trans hb
    refine lex.gskip (want_f rfl rfl (show _ = Value.bool y34 from rfl) hq37) ?_
    refine lex.gskip (want_f rfl rfl (show _ = Value.bool y34 from rfl) hq37) ?_
    refine lex.gskip (want_f rfl rfl (show _ = Value.bool y34 from rfl) hq37) ?_
    refine lex.gskip (want_f rfl rfl (show _ = Value.bool y34 from rfl) hq37) ?_
    refine lex.gskip (want_f rfl rfl (show _ = Value.bool y34 from rfl) hq37) ?_
    refine lex.gpure (want_t rfl rfl (show _ = Value.bool (!y11.2.2.2) from rfl) hq33) (v := .bool false) (pu_pickF (q := y34) rfl hq37 rfl) ?_
    refine lex.pure (v := .bool false) (pu_pickF (q := (!y11.2.2.2)) rfl hq33 rfl) ?_
    refine lex.pure (v := .bool false) (pu_assign rfl) ?_
    refine lex.nil ?_
    refine hK32 _ _ ?_
    obtain rfl := Option.some.inj hb
    refine Wc.ret ?_
    refine hKR _ _ ?_
    refine ⟨_, res1 Try.results7 (show RV _ _ _ (.tmp _) (.bool false) from rfl), _, rfl, rfl, hC.sel [] (by decide)⟩
end Go.Proofs.Yteajmbanlohncaa
