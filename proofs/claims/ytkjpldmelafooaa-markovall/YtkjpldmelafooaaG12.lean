/- The walks: part 12. -/
import Derived.Test.YtkjpldmelafooaaS
import Derived.Test.YtkjpldmelafooaaG0
import Derived.Test.YtkjpldmelafooaaG3
import Derived.Test.YtkjpldmelafooaaG4
import Derived.Test.YtkjpldmelafooaaG6
set_option linter.unusedVariables false
set_option linter.unusedSimpArgs false
namespace Go.Proofs.Ytkjpldmelafooaa
open Ev
set_option maxRecDepth 100000 in
set_option maxHeartbeats 4000000 in
theorem markov_All_c1_ok (n : Nat) {w : World} {O0 : List Nat} (hO : ∀ k ∈ O0, k < w.heap.size) {kind_0 : Int} (hkind_0 : I64 kind_0) {gen_1 : Int} (hgen_1 : I64 gen_1) {at_2 : Int} (hat_2 : I64 at_2) {gu_3 : Nat} {u_3_0 : Int} (hu_3_0 : I64 u_3_0) {Au_3_1 : Option Addr} {mu_3_1 cu_3_1 : Nat} {u_3_1 : List Int} (hu_3_1 : Rep O0 w (.sl (.int .i64)) [.slice Au_3_1 mu_3_1 cu_3_1] u_3_1) {gu_4 : Nat} {Au_4_0 : Option Addr} {mu_4_0 cu_4_0 : Nat} {u_4_0 : List (Int × (Int × Int))} (hio : Tk O0 w [.own 28 (.pr (.int .i64) (.pr (.int .i64) (.int .i64))) (.slice Au_4_0 mu_4_0 cu_4_0) u_4_0, .box gu_3 27 [.int .i64 u_3_0, .slice Au_3_1 mu_3_1 cu_3_1], .box gu_4 44 [.slice Au_4_0 mu_4_0 cu_4_0]]) {r : (List (Int × (Int × Int)))} (hb : F.markov_All_c1 n kind_0 gen_1 at_2 u_3_0 u_3_1 u_4_0 = some r) :
    Calls Try.prog 37 #[.int .i64 kind_0, .int .i64 gen_1, .int .i64 at_2, .pointer (some ⟨gu_3, 0, none⟩), .pointer (some ⟨gu_4, 0, none⟩)] w fun e w' => ∃ v, e = .returned v ∧ ∃ (A0 : Option Addr) (m0 c0 : Nat), v = .tuple #[] ∧ Cx (fun k => k ∈ blocks [.own 28 (.pr (.int .i64) (.pr (.int .i64) (.int .i64))) (.slice Au_4_0 mu_4_0 cu_4_0) u_4_0, .box gu_3 27 [.int .i64 u_3_0, .slice Au_3_1 mu_3_1 cu_3_1], .box gu_4 44 [.slice Au_4_0 mu_4_0 cu_4_0]]) O0 w w' [.own 28 (.pr (.int .i64) (.pr (.int .i64) (.int .i64))) (.slice A0 m0 c0) r, .box gu_3 27 [.int .i64 u_3_0, .slice Au_3_1 mu_3_1 cu_3_1], .box gu_4 44 [.slice A0 m0 c0]] := by
  unfold F.markov_All_c1 at hb
  have hC := Cx.startTk hO hio
  have hsub := hio.2.2
  replace hC := hC.argTk (by first | exact hsub | exact fun k hk => hsub k (by simpa [blocks, Fact.blk] using hk)) hu_3_1
  clear hO
  obtain ⟨rfl, hlu_3_1, hcu_3_1⟩ := hu_3_1.sl_len
  obtain ⟨rfl, hlu_4_0, hcu_4_0⟩ := (hC.ow (i := 1) rfl).sl_len
  clear hio hsub
  obtain ⟨I, hI, hC⟩ : ∃ I : Nat → Prop, I = (fun k => k ∈ blocks [.own 28 (.pr (.int .i64) (.pr (.int .i64) (.int .i64))) (.slice Au_4_0 u_4_0.length cu_4_0) u_4_0, .box gu_3 27 [.int .i64 u_3_0, .slice Au_3_1 u_3_1.length cu_3_1], .box gu_4 44 [.slice Au_4_0 u_4_0.length cu_4_0]]) ∧ Cx I O0 w w ([.ro (.sl (.int .i64)) [.slice Au_3_1 u_3_1.length cu_3_1] u_3_1, .own 28 (.pr (.int .i64) (.pr (.int .i64) (.int .i64))) (.slice Au_4_0 u_4_0.length cu_4_0) u_4_0, .box gu_3 27 [.int .i64 u_3_0, .slice Au_3_1 u_3_1.length cu_3_1], .box gu_4 44 [.slice Au_4_0 u_4_0.length cu_4_0]]) := ⟨_, rfl, hC⟩
  refine calls_of_Wc Try.func37 rfl (by rw [Try.ntmps37]; exact Nat.le_of_ble_eq_true rfl) fun KR hKR => ?_
  refine Wc.seq fun K5 hK5 => ?_
  refine Wc.region (by decide +kernel) ?_
  refine lex.pure (v := .int .i64 kind_0) (pu_move rfl) ?_
  refine lex.pure (v := .int .i64 gen_1) (pu_move rfl) ?_
  refine lex.pure (v := .int .i64 at_2) (pu_move rfl) ?_
  refine lex.pure (v := .agg #[.int .i64 kind_0, .int .i64 gen_1, .int .i64 at_2]) (pu_builds (places := [(0, 1), (1, 1), (2, 1)]) (pv := [(0, .int .i64 kind_0), (1, .int .i64 gen_1), (2, .int .i64 at_2)]) Try.type28 Try.underlying28 rfl (mp_cons Try.type3 (mp_cons Try.type3 (mp_cons Try.type3 mp_nil rfl rfl) rfl rfl) rfl rfl) rfl (by simp [Instr.fill, Value.cells])) ?_
  refine lex.op (hC.alloc (cs := [.int .i64 0, .int .i64 0, .int .i64 0]) Try.zeroValue28 rfl) ?_
  rintro _ w7 ⟨g6, rfl, hC, hF, hG⟩
  clear hG
  refine lex.sk (hC.seta (i := 0) (ds := [.int .i64 kind_0, .int .i64 gen_1, .int .i64 at_2]) rfl Try.type28 rfl rfl rfl rfl rfl) ?_
  rintro w9 ⟨hC, hF⟩
  refine lex.nil ?_
  refine hK5 _ _ ?_
  refine Wc.seq fun K10 hK10 => ?_
  refine Wc.region (by decide +kernel) ?_
  refine lex.val (v := .agg #[.int .i64 u_3_0, .slice Au_3_1 u_3_1.length cu_3_1]) (ld_blk (hC.bx (i := 3) rfl) Try.isAgg27 Try.sizeOf27 rfl) ?_
  refine lex.val (v := .agg #[.int .i64 kind_0, .int .i64 gen_1, .int .i64 at_2]) (ld_blk (hC.bx (i := 0) rfl) Try.isAgg28 Try.sizeOf28 rfl) ?_
  obtain ⟨y11, h12, hb⟩ := bd hb
  refine lex.cl (⟨_, _, op_call (vs := [.agg #[.int .i64 u_3_0, .slice Au_3_1 u_3_1.length cu_3_1], .agg #[.int .i64 kind_0, .int .i64 gen_1, .int .i64 at_2]]) Try.call12 rfl rfl rfl, markov_Apply_ok n hC.lt hu_3_0 (hC.rd (i := 1) rfl) hkind_0 hgen_1 hat_2 h12⟩) ?_
  rintro _ w22 ⟨A14, m15, c16, rfl, hr13, hr18, hr19, hr20, hr21, hK⟩
  replace hC := hC.merge hK
  clear hK
  obtain ⟨rfl, hl23, hc24⟩ := (hC.rd (i := 0) rfl).sl_len
  refine lex.pure (v := .tuple #[.agg #[.int .i64 y11.1, .slice A14 y11.2.1.length c16], .agg #[.int .i64 y11.2.2.1, .int .i64 y11.2.2.2.1, .int .i64 y11.2.2.2.2.1], .int .i64 y11.2.2.2.2.2]) (pu_move rfl) ?_
  refine lex.pure (v := .agg #[.int .i64 y11.1, .slice A14 y11.2.1.length c16]) (pu_extract rfl rfl) ?_
  refine lex.pure (v := .agg #[.int .i64 y11.2.2.1, .int .i64 y11.2.2.2.1, .int .i64 y11.2.2.2.2.1]) (pu_extract rfl rfl) ?_
  refine lex.pure (v := .int .i64 y11.2.2.2.2.2) (pu_extract rfl rfl) ?_
  refine lex.op (hC.alloc (cs := [.int .i64 0, .slice none 0 0]) Try.zeroValue27 rfl) ?_
  rintro _ w26 ⟨g25, rfl, hC, hF, hG⟩
  clear hG
  refine lex.op (hC.alloc (cs := [.int .i64 0, .int .i64 0, .int .i64 0]) Try.zeroValue28 rfl) ?_
  rintro _ w29 ⟨g28, rfl, hC, hF, hG⟩
  clear hG
  refine lex.sk (hC.seta (i := 1) (ds := [.int .i64 y11.1, .slice A14 y11.2.1.length c16]) rfl Try.type27 rfl rfl rfl rfl rfl) ?_
  rintro w31 ⟨hC, hF⟩
  refine lex.sk (hC.seta (i := 0) (ds := [.int .i64 y11.2.2.1, .int .i64 y11.2.2.2.1, .int .i64 y11.2.2.2.2.1]) rfl Try.type28 rfl rfl rfl rfl rfl) ?_
  rintro w32 ⟨hC, hF⟩
  refine lex.pure (v := .int .i64 y11.2.2.2.2.2) (pu_assign rfl) ?_
  refine lex.nil ?_
  refine hK10 _ _ ?_
  refine Wc.fresh fun E33 hE => ?_
  have e4 : E33 4 = .pointer (some ⟨gu_4, 0, none⟩) := (congrFun hE 4).trans rfl
  have e8 : E33 8 = .pointer (some ⟨g6, 0, none⟩) := (congrFun hE 8).trans rfl
  have e11 : E33 11 = .int .i64 y11.2.2.2.2.2 := (congrFun hE 11).trans rfl
  clear hE
  refine Wc.seq fun K34 hK34 => ?_
  refine Wc.region (by decide +kernel) ?_
  refine lex.pure (v := .int .i64 y11.2.2.2.2.2) (pu_move e11) ?_
  refine lex.pure (v := .bool (decide (y11.2.2.2.2.2 = 0))) (pu_eql (k := .i64) (a := y11.2.2.2.2.2) (b := 0) rfl rfl) ?_
  refine lex.nil ?_
  refine hK34 _ _ ?_
  refine Wc.cond (t := (decide (y11.2.2.2.2.2 = 0))) (rfl) (fun hq35 => ?_) (fun hq35 => ?_)
  · replace hb := (cT hq35).symm.trans hb
    refine Wc.region (by decide +kernel) ?_
    refine lex.val (v := .slice Au_4_0 u_4_0.length cu_4_0) (ld_one Try.isAgg44 e4 ((hC.bx (i := 7) rfl).cell (j := 0) rfl)) ?_
    refine lex.val (v := .agg #[.int .i64 kind_0, .int .i64 gen_1, .int .i64 at_2]) (ld_blk (hC.bx (i := 3) rfl) Try.isAgg28 Try.sizeOf28 e8) ?_
    refine lex.op (hC.lit (s := (.pr (.int .i64) (.pr (.int .i64) (.int .i64)))) (vs := [.agg #[.int .i64 kind_0, .int .i64 gen_1, .int .i64 at_2]]) (xs := [(kind_0, gen_1, at_2)]) Try.underlying44 Try.type28 rfl rfl (Nat.le_of_ble_eq_true rfl) rfl rfl (by simp [Value.cells, Sh.n]) rfl (show Elems _ _ (.pr (.int .i64) (.pr (.int .i64) (.int .i64))) ([.int .i64 kind_0, .int .i64 gen_1, .int .i64 at_2] ++ ([])) ([(kind_0, gen_1, at_2)] : List (Int × (Int × Int))) from Elems.cons (⟨[.int .i64 kind_0], [.int .i64 gen_1, .int .i64 at_2], rfl, ⟨rfl, I64.wr hkind_0⟩, ⟨[.int .i64 gen_1], [.int .i64 at_2], rfl, ⟨rfl, I64.wr hgen_1⟩, ⟨rfl, I64.wr hat_2⟩⟩⟩) (Elems.nil _ _ _))) ?_
    rintro _ w40 ⟨A36, c37, rfl, hl38, hc39, hC, hF, hN⟩
    clear hF hN
    obtain ⟨u42, h43, hb⟩ := bd hb
    refine lex.op (hC.app (i := 6) (s := (.pr (.int .i64) (.pr (.int .i64) (.int .i64)))) (xs := u_4_0) (ys := ([(kind_0, gen_1, at_2)] : List (Int × (Int × Int)))) (m := ((([(kind_0, gen_1, at_2)] : List (Int × (Int × Int)))).length)) rfl Try.underlying44 Try.underlying44 Try.type28 rfl rfl rfl (hC.srco (i := 0) rfl) rfl rfl (by have := lim_some h43; simp at this ⊢; omega) (by decide)) ?_
    rintro _ w48 ⟨A44, c45, rfl, hl46, hc47, hC, hF, hN⟩
    clear hF hN
    refine lex.sk (hC.setf (i := 8) (k := 0) (v := .slice A44 ((u_4_0 ++ ([(kind_0, gen_1, at_2)] : List (Int × (Int × Int)))).length) c45) rfl Try.sizeOf44 rfl (by rw [Addr.add_zero']; exact e4) rfl rfl) ?_
    rintro w49 ⟨hC, hF⟩
    refine lex.nil ?_
    obtain rfl := Option.some.inj hb
    subst hI
    refine hKR _ _ ?_
    refine ⟨_, res0 Try.results37, _, rfl, A44, (u_4_0 ++ ([(kind_0, gen_1, at_2)] : List (Int × (Int × Int)))).length, c45, rfl, hC.sel [6, 7, 8] (by decide)⟩
  · replace hb := (cF hq35).symm.trans hb
    refine Wc.skip ?_
    obtain rfl := Option.some.inj hb
    subst hI
    refine hKR _ _ ?_
    refine ⟨_, res0 Try.results37, _, rfl, Au_4_0, u_4_0.length, cu_4_0, rfl, hC.sel [5, 6, 7] (by decide)⟩

set_option maxRecDepth 100000 in
set_option maxHeartbeats 4000000 in
theorem markov_All_ok (n : Nat) {w : World} {O0 : List Nat} (hO : ∀ k ∈ O0, k < w.heap.size) {b_0_0 : Int} (hb_0_0 : I64 b_0_0) {Ab_0_1 : Option Addr} {mb_0_1 cb_0_1 : Nat} {b_0_1 : List Int} (hb_0_1 : Rep O0 w (.sl (.int .i64)) [.slice Ab_0_1 mb_0_1 cb_0_1] b_0_1) {r : (List (Int × (Int × Int)))} (hb : F.markov_All n b_0_0 b_0_1 = some r) :
    Calls Try.prog 20 #[.agg #[.int .i64 b_0_0, .slice Ab_0_1 mb_0_1 cb_0_1]] w fun e w' => ∃ v, e = .returned v ∧ ∃ (A0 : Option Addr) (m0 c0 : Nat), v = .slice A0 m0 c0 ∧ Cx (fun _ => False) O0 w w' [.own 28 (.pr (.int .i64) (.pr (.int .i64) (.int .i64))) (.slice A0 m0 c0) r] := by
  unfold F.markov_All at hb
  have hC := Cx.start hO
  replace hC := hC.arg rfl hb_0_1
  clear hO
  obtain ⟨rfl, hlb_0_1, hcb_0_1⟩ := hb_0_1.sl_len
  refine calls_of_Wc Try.func20 rfl (by rw [Try.ntmps20]; exact Nat.le_of_ble_eq_true rfl) fun KR hKR => ?_
  refine Wc.seq fun K2 hK2 => ?_
  refine Wc.region (by decide +kernel) ?_
  refine lex.op (hC.box (cs := [.int .i64 b_0_0, .slice Ab_0_1 b_0_1.length cb_0_1]) rfl rfl) ?_
  rintro _ w4 ⟨g3, rfl, hC, hF, hG⟩
  clear hG
  refine lex.pure (v := .slice none 0 0) (pu_assign rfl) ?_
  refine lex.nil ?_
  refine hK2 _ _ ?_
  refine Wc.seq fun K6 hK6 => ?_
  refine Wc.seq fun K7 hK7 => ?_
  refine Wc.region (by decide +kernel) ?_
  refine lex.val (v := .agg #[.int .i64 b_0_0, .slice Ab_0_1 b_0_1.length cb_0_1]) (ld_blk (hC.bx (i := 0) rfl) Try.isAgg27 Try.sizeOf27 rfl) ?_
  obtain ⟨y8, h9, hb⟩ := bd hb
  refine lex.cl (⟨_, _, op_call (vs := [.agg #[.int .i64 b_0_0, .slice Ab_0_1 b_0_1.length cb_0_1]]) Try.call15 rfl rfl rfl, braid_Valid_ok n hC.lt hb_0_0 (hC.rd (i := 1) rfl) h9⟩) ?_
  rintro _ w10 ⟨rfl, hK⟩
  replace hC := hC.merge hK
  clear hK
  refine lex.pure (v := .bool (!y8)) (pu_not (q := y8) rfl) ?_
  refine lex.nil ?_
  refine hK7 _ _ ?_
  refine Wc.cond (t := (!y8)) (rfl) (fun hq11 => ?_) (fun hq11 => ?_)
  · replace hb := (cT hq11).symm.trans hb
    refine Wc.seq fun K12 hK12 => ?_
    refine Wc.region (by decide +kernel) ?_
    refine lex.pure (v := .slice none 0 0) (pu_assign rfl) ?_
    refine lex.nil ?_
    refine hK12 _ _ ?_
    replace hC := hC.nil 28 (.pr (.int .i64) (.pr (.int .i64) (.int .i64)))
    obtain rfl := Option.some.inj hb
    refine Wc.ret ?_
    refine hKR _ _ ?_
    refine ⟨_, res1 Try.results20 (show RV _ _ _ (.tmp _) (.slice none 0 0) from rfl), _, rfl, none, 0, 0, rfl, hC.sel [0] (by decide)⟩
  · replace hb := (cF hq11).symm.trans hb
    refine Wc.skip ?_
    refine hK6 _ _ ?_
    refine Wc.seq fun K14 hK14 => ?_
    refine Wc.region (by decide +kernel) ?_
    refine lex.op (hC.alloc (cs := [.slice none 0 0]) Try.zeroValue44 rfl) ?_
    rintro _ w16 ⟨g15, rfl, hC, hF, hG⟩
    clear hG
    refine lex.nil ?_
    refine hK14 _ _ ?_
    refine Wc.seq fun K18 hK18 => ?_
    refine Wc.region (by decide +kernel) ?_
    refine lex.pure (v := .func (.func 37) #[] #[.pointer (some ⟨g3, 0, none⟩), .pointer (some ⟨g15, 0, none⟩)]) (pu_funcc rfl) ?_
    refine lex.pure (v := .func (.func 37) #[] #[.pointer (some ⟨g3, 0, none⟩), .pointer (some ⟨g15, 0, none⟩)]) (pu_assign rfl) ?_
    refine lex.nil ?_
    refine hK18 _ _ ?_
    refine Wc.seq fun K19 hK19 => ?_
    refine Wc.seq fun K20 hK20 => ?_
    refine Wc.region (by decide +kernel) ?_
    refine lex.pure (v := .int .i64 1) (pu_assign rfl) ?_
    refine lex.nil ?_
    refine hK20 _ _ ?_
    replace hC := hC.nil 28 (.pr (.int .i64) (.pr (.int .i64) (.int .i64)))
    obtain ⟨o22, hl0, hb⟩ := bd hb
    refine Wc.cut (fun E wv => ∃ (v5_0 : Int) (kf17_0_0 : List (Int × (Int × Int))) (Akf17_0_0 : Option Addr) (mkf17_0_0 ckf17_0_0 : Nat), E 2 = .slice none 0 0 ∧ E 3 = .pointer (some ⟨g15, 0, none⟩) ∧ I64 v5_0 ∧ Cx (fun _ => False) O0 w wv [.box g15 44 [.slice Akf17_0_0 mkf17_0_0 ckf17_0_0], .own 28 (.pr (.int .i64) (.pr (.int .i64) (.int .i64))) (.slice Akf17_0_0 mkf17_0_0 ckf17_0_0) kf17_0_0] ∧ (some kf17_0_0) = some r) (fun K23 hK23 => ?_) ?_
    · refine Wc.block ?_
      refine Wc.loop (fun m E wv => ∃ (v5_0 : Int) (kf17_0_0 : List (Int × (Int × Int))) (Akf17_0_0 : Option Addr) (mkf17_0_0 ckf17_0_0 : Nat), E 1 = .pointer (some ⟨g3, 0, none⟩) ∧ E 2 = .slice none 0 0 ∧ E 3 = .pointer (some ⟨g15, 0, none⟩) ∧ E 4 = .func (.func 37) #[] #[.pointer (some ⟨g3, 0, none⟩), .pointer (some ⟨g15, 0, none⟩)] ∧ E 5 = .int .i64 v5_0 ∧ I64 v5_0 ∧ Cx (fun _ => False) O0 w wv [.box g3 27 [.int .i64 b_0_0, .slice Ab_0_1 b_0_1.length cb_0_1], .ro (.sl (.int .i64)) [.slice Ab_0_1 b_0_1.length cb_0_1] b_0_1, .box g15 44 [.slice Akf17_0_0 mkf17_0_0 ckf17_0_0], .own 28 (.pr (.int .i64) (.pr (.int .i64) (.int .i64))) (.slice Akf17_0_0 mkf17_0_0 ckf17_0_0) kf17_0_0] ∧ loopN m (F.markov_All_b0 n b_0_0 b_0_1) (v5_0, kf17_0_0) = some o22) n ⟨1, ([] : List (Int × (Int × Int))), none, 0, 0, rfl, rfl, rfl, rfl, rfl, (show I64 1 from by unfold I64; omega), hC.sel [2, 3, 1, 0] (by decide), hl0⟩ ?_
      have hbK0 := hb
      clear hb hC hl0
      rintro m25 E27 w26 ⟨v5_0, kf17_0_0, Akf17_0_0, mkf17_0_0, ckf17_0_0, e1, e2, e3, e4, e5, hrv5_0, hC, hl0⟩ K24 hK24
      obtain ⟨m25', o28, rfl, hb, hl0⟩ := loopN_some hl0
      unfold F.markov_All_b0 at hb
      obtain ⟨rfl, hlkf17_0_0, hckf17_0_0⟩ := (hC.ow (i := 3) rfl).sl_len
      refine Wc.seq fun K29 hK29 => ?_
      refine Wc.seq fun K30 hK30 => ?_
      refine Wc.region (by decide +kernel) ?_
      refine lex.pure (v := .int .i64 v5_0) (pu_move e5) ?_
      refine lex.pure (v := .bool (decide (v5_0 ≤ 7))) (pu_leq (k := .i64) (a := v5_0) (b := 7) rfl rfl) ?_
      refine lex.nil ?_
      refine hK30 _ _ ?_
      refine Wc.cond (t := (decide (v5_0 ≤ 7))) (rfl) (fun hq31 => ?_) (fun hq31 => ?_)
      · replace hb := (cT hq31).symm.trans hb
        refine Wc.skip ?_
        refine hK29 _ _ ?_
        refine Wc.seq fun K32 hK32 => ?_
        refine Wc.block ?_
        refine Wc.seq fun K33 hK33 => ?_
        refine Wc.region (by decide +kernel) ?_
        refine lex.pure (v := .int .i64 v5_0) (pu_move e5) ?_
        refine lex.nil ?_
        refine hK33 _ _ ?_
        refine Wc.block ?_
        refine Wc.seqJ (fun E wv => ∃ (v30_1 : Bool), E 1 = .pointer (some ⟨g3, 0, none⟩) ∧ E 2 = .slice none 0 0 ∧ E 3 = .pointer (some ⟨g15, 0, none⟩) ∧ E 4 = .func (.func 37) #[] #[.pointer (some ⟨g3, 0, none⟩), .pointer (some ⟨g15, 0, none⟩)] ∧ E 5 = .int .i64 v5_0 ∧ E 14 = .bool (decide (v5_0 ≤ 7)) ∧ E 17 = .int .i64 v5_0 ∧ E 30 = .bool v30_1 ∧ Cx (fun _ => False) O0 w wv [.box g3 27 [.int .i64 b_0_0, .slice Ab_0_1 b_0_1.length cb_0_1], .ro (.sl (.int .i64)) [.slice Ab_0_1 b_0_1.length cb_0_1] b_0_1, .box g15 44 [.slice Akf17_0_0 kf17_0_0.length ckf17_0_0], .own 28 (.pr (.int .i64) (.pr (.int .i64) (.int .i64))) (.slice Akf17_0_0 kf17_0_0.length ckf17_0_0) kf17_0_0] ∧ F.markov_All_j1 n b_0_0 b_0_1 v5_0 kf17_0_0 v30_1 = some o28) (fun K34 hK34 => ?_) ?_
        ·
          skip
          refine Wc.seq fun K35 hK35 => ?_
          refine Wc.region (by decide +kernel) ?_
          refine lex.pure (v := .bool (decide (v5_0 = 1))) (pu_eql (k := .i64) (a := v5_0) (b := 1) rfl rfl) ?_
          refine lex.pure (v := .bool (decide (v5_0 = 1))) (pu_assign rfl) ?_
          refine lex.nil ?_
          refine hK35 _ _ ?_
          refine Wc.cond (t := (decide (v5_0 = 1))) (rfl) (fun hq36 => ?_) (fun hq36 => ?_)
          · replace hb := (cT hq36).symm.trans hb
            refine Wc.skip ?_
            exact hK34 _ _ ⟨(decide (v5_0 = 1)), e1, e2, e3, e4, e5, rfl, rfl, rfl, hC.sel [0, 1, 2, 3] (by decide), hb⟩
          · replace hb := (cF hq36).symm.trans hb
            refine Wc.region (by decide +kernel) ?_
            refine lex.pure (v := .bool (decide (v5_0 = 6))) (pu_eql (k := .i64) (a := v5_0) (b := 6) rfl rfl) ?_
            refine lex.pure (v := .bool (decide (v5_0 = 6))) (pu_assign rfl) ?_
            refine lex.nil ?_
            exact hK34 _ _ ⟨(decide (v5_0 = 6)), e1, e2, e3, e4, e5, rfl, rfl, rfl, hC.sel [0, 1, 2, 3] (by decide), hb⟩
        · clear hb hC
          rintro E38 w37 ⟨v30_1, e1, e2, e3, e4, e5, e14, e17, e30, hC, hb⟩
          unfold F.markov_All_j1 at hb
          refine Wc.cond (t := v30_1) (e30) (fun hq39 => ?_) (fun hq39 => ?_)
          · replace hb := (cT hq39).symm.trans hb
            refine Wc.seq fun K40 hK40 => ?_
            refine Wc.region (by decide +kernel) ?_
            refine lex.pure (v := .pointer (some ((⟨g3, 0, none⟩ : Addr).add 0))) (pu_field (sz := 1) Try.underlying27 rfl Try.sizeOf3 (by decide) rfl e1) ?_
            refine lex.val (v := .int .i64 b_0_0) (ld_fld (hC.bx (i := 0) rfl) Try.isAgg3 rfl rfl) ?_
            obtain ⟨z41, h42, hb⟩ := bd hb
            refine lex.pure (v := .int .i64 z41) (pu_subc (a := 1) (b := b_0_0) rfl rfl h42) ?_
            refine lex.pure (v := .int .i64 z41) (pu_assign rfl) ?_
            refine lex.nil ?_
            refine hK40 _ _ ?_
            obtain ⟨o43, hl2, hb⟩ := bd hb
            refine Wc.cut (fun E wv => ∃ (v6_2 : Int) (kf17_0_2 : List (Int × (Int × Int))) (Akf17_0_2 : Option Addr) (mkf17_0_2 ckf17_0_2 : Nat), E 1 = .pointer (some ⟨g3, 0, none⟩) ∧ E 2 = .slice none 0 0 ∧ E 3 = .pointer (some ⟨g15, 0, none⟩) ∧ E 4 = .func (.func 37) #[] #[.pointer (some ⟨g3, 0, none⟩), .pointer (some ⟨g15, 0, none⟩)] ∧ E 5 = .int .i64 v5_0 ∧ E 6 = .int .i64 v6_2 ∧ E 14 = .bool (decide (v5_0 ≤ 7)) ∧ E 17 = .int .i64 v5_0 ∧ E 30 = .bool v30_1 ∧ I64 v6_2 ∧ Cx (fun _ => False) O0 w wv [.box g3 27 [.int .i64 b_0_0, .slice Ab_0_1 b_0_1.length cb_0_1], .ro (.sl (.int .i64)) [.slice Ab_0_1 b_0_1.length cb_0_1] b_0_1, .box g15 44 [.slice Akf17_0_2 mkf17_0_2 ckf17_0_2], .own 28 (.pr (.int .i64) (.pr (.int .i64) (.int .i64))) (.slice Akf17_0_2 mkf17_0_2 ckf17_0_2) kf17_0_2] ∧ ((chk (v5_0 + 1)).bind fun z86 => some (.inl (z86, kf17_0_2))) = some o28) (fun K44 hK44 => ?_) ?_
            · refine Wc.block ?_
              refine Wc.loop (fun m E wv => ∃ (v6_2 : Int) (kf17_0_2 : List (Int × (Int × Int))) (Akf17_0_2 : Option Addr) (mkf17_0_2 ckf17_0_2 : Nat), E 1 = .pointer (some ⟨g3, 0, none⟩) ∧ E 2 = .slice none 0 0 ∧ E 3 = .pointer (some ⟨g15, 0, none⟩) ∧ E 4 = .func (.func 37) #[] #[.pointer (some ⟨g3, 0, none⟩), .pointer (some ⟨g15, 0, none⟩)] ∧ E 5 = .int .i64 v5_0 ∧ E 6 = .int .i64 v6_2 ∧ E 14 = .bool (decide (v5_0 ≤ 7)) ∧ E 17 = .int .i64 v5_0 ∧ E 30 = .bool v30_1 ∧ I64 v6_2 ∧ Cx (fun _ => False) O0 w wv [.box g3 27 [.int .i64 b_0_0, .slice Ab_0_1 b_0_1.length cb_0_1], .ro (.sl (.int .i64)) [.slice Ab_0_1 b_0_1.length cb_0_1] b_0_1, .box g15 44 [.slice Akf17_0_2 mkf17_0_2 ckf17_0_2], .own 28 (.pr (.int .i64) (.pr (.int .i64) (.int .i64))) (.slice Akf17_0_2 mkf17_0_2 ckf17_0_2) kf17_0_2] ∧ loopN m (F.markov_All_b2 n b_0_0 b_0_1 v5_0) (v6_2, kf17_0_2) = some o43) n ⟨z41, kf17_0_0, Akf17_0_0, kf17_0_0.length, ckf17_0_0, e1, e2, e3, e4, e5, rfl, e14, e17, e30, (chk_rng h42), hC.sel [0, 1, 2, 3] (by decide), hl2⟩ ?_
              have hbK2 := hb
              clear hb hC hl2
              rintro m46 E48 w47 ⟨v6_2, kf17_0_2, Akf17_0_2, mkf17_0_2, ckf17_0_2, e1, e2, e3, e4, e5, e6, e14, e17, e30, hrv6_2, hC, hl2⟩ K45 hK45
              obtain ⟨m46', o49, rfl, hb, hl2⟩ := loopN_some hl2
              unfold F.markov_All_b2 at hb
              obtain ⟨rfl, hlkf17_0_2, hckf17_0_2⟩ := (hC.ow (i := 3) rfl).sl_len
              refine Wc.seq fun K50 hK50 => ?_
              refine Wc.seq fun K51 hK51 => ?_
              refine Wc.region (by decide +kernel) ?_
              refine lex.pure (v := .int .i64 v6_2) (pu_move e6) ?_
              refine lex.pure (v := .pointer (some ((⟨g3, 0, none⟩ : Addr).add 0))) (pu_field (sz := 1) Try.underlying27 rfl Try.sizeOf3 (by decide) rfl e1) ?_
              refine lex.val (v := .int .i64 b_0_0) (ld_fld (hC.bx (i := 0) rfl) Try.isAgg3 rfl rfl) ?_
              refine lex.pure (v := .bool (decide (v6_2 < b_0_0))) (pu_lss (k := .i64) (a := v6_2) (b := b_0_0) rfl rfl) ?_
              refine lex.nil ?_
              refine hK51 _ _ ?_
              refine Wc.cond (t := (decide (v6_2 < b_0_0))) (rfl) (fun hq52 => ?_) (fun hq52 => ?_)
              · replace hb := (cT hq52).symm.trans hb
                refine Wc.skip ?_
                refine hK50 _ _ ?_
                refine Wc.seq fun K53 hK53 => ?_
                refine Wc.block ?_
                refine Wc.seq fun K54 hK54 => ?_
                refine Wc.region (by decide +kernel) ?_
                refine lex.pure (v := .pointer (some ((⟨g3, 0, none⟩ : Addr).add 1))) (pu_field (sz := 1) Try.underlying27 rfl Try.sizeOf22 (by decide) rfl e1) ?_
                refine lex.val (v := .slice Ab_0_1 b_0_1.length cb_0_1) (ld_fld (hC.bx (i := 0) rfl) Try.isAgg22 rfl rfl) ?_
                refine lex.pure (v := .int .i64 (b_0_1.length : Int)) (pu_len (A := Ab_0_1) (n := b_0_1.length) (m := cb_0_1) Try.underlying22 rfl) ?_
                obtain ⟨z55, h56, hb⟩ := bd hb
                refine lex.pure (v := .int .i64 z55) (pu_addc (a := (b_0_1.length : Int)) (b := 2) rfl rfl h56) ?_
                refine lex.pure (v := .int .i64 0) (pu_move rfl) ?_
                refine lex.nil ?_
                refine hK54 _ _ ?_
                obtain ⟨o57, hl3, hb⟩ := bd hb
                refine Wc.cut (fun E wv => ∃ (v46_3 : Int) (kf17_0_3 : List (Int × (Int × Int))) (Akf17_0_3 : Option Addr) (mkf17_0_3 ckf17_0_3 : Nat), E 1 = .pointer (some ⟨g3, 0, none⟩) ∧ E 2 = .slice none 0 0 ∧ E 3 = .pointer (some ⟨g15, 0, none⟩) ∧ E 4 = .func (.func 37) #[] #[.pointer (some ⟨g3, 0, none⟩), .pointer (some ⟨g15, 0, none⟩)] ∧ E 5 = .int .i64 v5_0 ∧ E 6 = .int .i64 v6_2 ∧ E 14 = .bool (decide (v5_0 ≤ 7)) ∧ E 17 = .int .i64 v5_0 ∧ E 30 = .bool v30_1 ∧ E 39 = .bool (decide (v6_2 < b_0_0)) ∧ E 45 = .int .i64 z55 ∧ E 46 = .int .i64 v46_3 ∧ I64 v46_3 ∧ Cx (fun _ => False) O0 w wv [.box g3 27 [.int .i64 b_0_0, .slice Ab_0_1 b_0_1.length cb_0_1], .ro (.sl (.int .i64)) [.slice Ab_0_1 b_0_1.length cb_0_1] b_0_1, .box g15 44 [.slice Akf17_0_3 mkf17_0_3 ckf17_0_3], .own 28 (.pr (.int .i64) (.pr (.int .i64) (.int .i64))) (.slice Akf17_0_3 mkf17_0_3 ckf17_0_3) kf17_0_3] ∧ ((chk (v6_2 + 1)).bind fun z82 => some (.inl (z82, kf17_0_3))) = some o49) (fun K58 hK58 => ?_) ?_
                · refine Wc.block ?_
                  refine Wc.loop (fun m E wv => ∃ (v46_3 : Int) (kf17_0_3 : List (Int × (Int × Int))) (Akf17_0_3 : Option Addr) (mkf17_0_3 ckf17_0_3 : Nat), E 1 = .pointer (some ⟨g3, 0, none⟩) ∧ E 2 = .slice none 0 0 ∧ E 3 = .pointer (some ⟨g15, 0, none⟩) ∧ E 4 = .func (.func 37) #[] #[.pointer (some ⟨g3, 0, none⟩), .pointer (some ⟨g15, 0, none⟩)] ∧ E 5 = .int .i64 v5_0 ∧ E 6 = .int .i64 v6_2 ∧ E 14 = .bool (decide (v5_0 ≤ 7)) ∧ E 17 = .int .i64 v5_0 ∧ E 30 = .bool v30_1 ∧ E 39 = .bool (decide (v6_2 < b_0_0)) ∧ E 45 = .int .i64 z55 ∧ E 46 = .int .i64 v46_3 ∧ I64 v46_3 ∧ Cx (fun _ => False) O0 w wv [.box g3 27 [.int .i64 b_0_0, .slice Ab_0_1 b_0_1.length cb_0_1], .ro (.sl (.int .i64)) [.slice Ab_0_1 b_0_1.length cb_0_1] b_0_1, .box g15 44 [.slice Akf17_0_3 mkf17_0_3 ckf17_0_3], .own 28 (.pr (.int .i64) (.pr (.int .i64) (.int .i64))) (.slice Akf17_0_3 mkf17_0_3 ckf17_0_3) kf17_0_3] ∧ loopN m (F.markov_All_b3 n b_0_0 b_0_1 v5_0 v6_2 z55) (v46_3, kf17_0_3) = some o57) n ⟨0, kf17_0_2, Akf17_0_2, kf17_0_2.length, ckf17_0_2, e1, e2, e3, e4, e5, e6, e14, e17, e30, rfl, rfl, rfl, (show I64 0 from by unfold I64; omega), hC.sel [0, 1, 2, 3] (by decide), hl3⟩ ?_
                  have hbK3 := hb
                  clear hb hC hl3
                  rintro m60 E62 w61 ⟨v46_3, kf17_0_3, Akf17_0_3, mkf17_0_3, ckf17_0_3, e1, e2, e3, e4, e5, e6, e14, e17, e30, e39, e45, e46, hrv46_3, hC, hl3⟩ K59 hK59
                  obtain ⟨m60', o63, rfl, hb, hl3⟩ := loopN_some hl3
                  unfold F.markov_All_b3 at hb
                  obtain ⟨rfl, hlkf17_0_3, hckf17_0_3⟩ := (hC.ow (i := 3) rfl).sl_len
                  refine Wc.seq fun K64 hK64 => ?_
                  refine Wc.region (by decide +kernel) ?_
                  refine lex.pure (v := .bool (decide (v46_3 < z55))) (pu_lss (k := .i64) (a := v46_3) (b := z55) e46 e45) ?_
                  refine lex.nil ?_
                  refine hK64 _ _ ?_
                  refine Wc.seq fun K65 hK65 => ?_
                  refine Wc.cond (t := (decide (v46_3 < z55))) (rfl) (fun hq66 => ?_) (fun hq66 => ?_)
                  · replace hb := (cT hq66).symm.trans hb
                    refine Wc.skip ?_
                    refine hK65 _ _ ?_
                    refine Wc.seq fun K67 hK67 => ?_
                    refine Wc.block ?_
                    refine Wc.seq fun K68 hK68 => ?_
                    refine Wc.region (by decide +kernel) ?_
                    refine lex.pure (v := .int .i64 v46_3) (pu_move e46) ?_
                    refine lex.pure (v := .int .i64 v46_3) (pu_assign rfl) ?_
                    refine lex.nil ?_
                    refine hK68 _ _ ?_
                    refine Wc.region (by decide +kernel) ?_
                    refine lex.pure (v := .func (.func 37) #[] #[.pointer (some ⟨g3, 0, none⟩), .pointer (some ⟨g15, 0, none⟩)]) (pu_move e4) ?_
                    refine lex.pure (v := .int .i64 v5_0) (pu_move e5) ?_
                    refine lex.pure (v := .int .i64 v6_2) (pu_move e6) ?_
                    refine lex.pure (v := .int .i64 v46_3) (pu_move rfl) ?_
                    replace hC : Cx (fun _ => False) O0 w w61 ([.own 28 (.pr (.int .i64) (.pr (.int .i64) (.int .i64))) (.slice Akf17_0_3 kf17_0_3.length ckf17_0_3) kf17_0_3, .box g3 27 [.int .i64 b_0_0, .slice Ab_0_1 b_0_1.length cb_0_1], .box g15 44 [.slice Akf17_0_3 kf17_0_3.length ckf17_0_3]] ++ [.ro (.sl (.int .i64)) [.slice Ab_0_1 b_0_1.length cb_0_1] b_0_1]) := hC.sel [3, 0, 2, 1] (by decide)
                    obtain ⟨y69, h70, hb⟩ := bd hb
                    refine lex.cl (⟨_, _, op_callv (vs := [.int .i64 v5_0, .int .i64 v6_2, .int .i64 v46_3, .pointer (some ⟨g3, 0, none⟩), .pointer (some ⟨g15, 0, none⟩)]) (ca := #[.pointer (some ⟨g3, 0, none⟩), .pointer (some ⟨g15, 0, none⟩)]) Try.call37 rfl rfl rfl, markov_All_c1_ok n hC.lt hrv5_0 hrv6_2 hrv46_3 hb_0_0 (hC.rd (i := 3) rfl) hC.give h70⟩) ?_
                    rintro _ w75 ⟨A71, m72, c73, rfl, hK⟩
                    replace hC := hC.back hK
                    clear hK
                    obtain ⟨rfl, hl76, hc77⟩ := (hC.ow (i := 0) rfl).sl_len
                    refine lex.nil ?_
                    refine hK67 _ _ ?_
                    refine Wc.region (by decide +kernel) ?_
                    obtain ⟨z78, h79, hb⟩ := bd hb
                    refine lex.pure (v := .int .i64 z78) (pu_addc (a := v46_3) (b := 1) e46 rfl h79) ?_
                    refine lex.pure (v := .int .i64 z78) (pu_move rfl) ?_
                    refine lex.nil ?_
                    obtain rfl := Option.some.inj hb
                    exact hK59 m60' _ _ (Nat.lt_succ_self _) ⟨z78, y69, A71, y69.length, c73, e1, e2, e3, e4, e5, e6, e14, e17, e30, e39, e45, rfl, (chk_rng h79), hC.sel [1, 3, 2, 0] (by decide), lN hl3⟩
                  · replace hb := (cF hq66).symm.trans hb
                    refine Wc.exit rfl ?_
                    obtain rfl := Option.some.inj hb
                    obtain rfl := (lX hl3).symm
                    exact hK58 _ _ ⟨v46_3, kf17_0_3, Akf17_0_3, kf17_0_3.length, ckf17_0_3, e1, e2, e3, e4, e5, e6, e14, e17, e30, e39, e45, e46, hrv46_3, hC.sel [0, 1, 2, 3] (by decide), hbK3⟩
                · clear hb hC hl3
                  rintro E81 w80 ⟨v46_3, kf17_0_3, Akf17_0_3, mkf17_0_3, ckf17_0_3, e1, e2, e3, e4, e5, e6, e14, e17, e30, e39, e45, e46, hrv46_3, hC, hb⟩
                  obtain ⟨rfl, hlkf17_0_3, hckf17_0_3⟩ := (hC.ow (i := 3) rfl).sl_len
                  refine hK53 _ _ ?_
                  refine Wc.region (by decide +kernel) ?_
                  refine lex.pure (v := .int .i64 v6_2) (pu_move e6) ?_
                  obtain ⟨z82, h83, hb⟩ := bd hb
                  refine lex.pure (v := .int .i64 z82) (pu_addc (a := v6_2) (b := 1) rfl rfl h83) ?_
                  refine lex.pure (v := .int .i64 z82) (pu_assign rfl) ?_
                  refine lex.nil ?_
                  obtain rfl := Option.some.inj hb
                  exact hK45 m46' _ _ (Nat.lt_succ_self _) ⟨z82, kf17_0_3, Akf17_0_3, kf17_0_3.length, ckf17_0_3, e1, e2, e3, e4, e5, rfl, e14, e17, e30, (chk_rng h83), hC.sel [0, 1, 2, 3] (by decide), lN hl2⟩
              · replace hb := (cF hq52).symm.trans hb
                refine Wc.exit rfl ?_
                obtain rfl := Option.some.inj hb
                obtain rfl := (lX hl2).symm
                exact hK44 _ _ ⟨v6_2, kf17_0_2, Akf17_0_2, kf17_0_2.length, ckf17_0_2, e1, e2, e3, e4, e5, e6, e14, e17, e30, hrv6_2, hC.sel [0, 1, 2, 3] (by decide), hbK2⟩
            · clear hb hC hl2
              rintro E85 w84 ⟨v6_2, kf17_0_2, Akf17_0_2, mkf17_0_2, ckf17_0_2, e1, e2, e3, e4, e5, e6, e14, e17, e30, hrv6_2, hC, hb⟩
              obtain ⟨rfl, hlkf17_0_2, hckf17_0_2⟩ := (hC.ow (i := 3) rfl).sl_len
              refine hK32 _ _ ?_
              refine Wc.region (by decide +kernel) ?_
              refine lex.pure (v := .int .i64 v5_0) (pu_move e5) ?_
              obtain ⟨z86, h87, hb⟩ := bd hb
              refine lex.pure (v := .int .i64 z86) (pu_addc (a := v5_0) (b := 1) rfl rfl h87) ?_
              refine lex.pure (v := .int .i64 z86) (pu_assign rfl) ?_
              refine lex.nil ?_
              obtain rfl := Option.some.inj hb
              exact hK24 m25' _ _ (Nat.lt_succ_self _) ⟨z86, kf17_0_2, Akf17_0_2, kf17_0_2.length, ckf17_0_2, e1, e2, e3, e4, rfl, (chk_rng h87), hC.sel [0, 1, 2, 3] (by decide), lN hl0⟩
          · replace hb := (cF hq39).symm.trans hb
            refine Wc.seq fun K88 hK88 => ?_
            refine Wc.region (by decide +kernel) ?_
            refine lex.pure (v := .bool (decide (v5_0 = 2))) (pu_eql (k := .i64) (a := v5_0) (b := 2) e17 rfl) ?_
            refine lex.pure (v := .bool (decide (v5_0 = 2))) (pu_assign rfl) ?_
            refine lex.nil ?_
            refine hK88 _ _ ?_
            refine Wc.cond (t := (decide (v5_0 = 2))) (rfl) (fun hq89 => ?_) (fun hq89 => ?_)
            · replace hb := (cT hq89).symm.trans hb
              refine Wc.seq fun K90 hK90 => ?_
              refine Wc.region (by decide +kernel) ?_
              refine lex.pure (v := .func (.func 37) #[] #[.pointer (some ⟨g3, 0, none⟩), .pointer (some ⟨g15, 0, none⟩)]) (pu_move e4) ?_
              refine lex.pure (v := .int .i64 v5_0) (pu_move e5) ?_
              replace hC : Cx (fun _ => False) O0 w w37 ([.own 28 (.pr (.int .i64) (.pr (.int .i64) (.int .i64))) (.slice Akf17_0_0 kf17_0_0.length ckf17_0_0) kf17_0_0, .box g3 27 [.int .i64 b_0_0, .slice Ab_0_1 b_0_1.length cb_0_1], .box g15 44 [.slice Akf17_0_0 kf17_0_0.length ckf17_0_0]] ++ [.ro (.sl (.int .i64)) [.slice Ab_0_1 b_0_1.length cb_0_1] b_0_1]) := hC.sel [3, 0, 2, 1] (by decide)
              obtain ⟨y91, h92, hb⟩ := bd hb
              refine lex.cl (⟨_, _, op_callv (vs := [.int .i64 v5_0, .int .i64 (-1), .int .i64 0, .pointer (some ⟨g3, 0, none⟩), .pointer (some ⟨g15, 0, none⟩)]) (ca := #[.pointer (some ⟨g3, 0, none⟩), .pointer (some ⟨g15, 0, none⟩)]) Try.call37 rfl rfl rfl, markov_All_c1_ok n hC.lt hrv5_0 (show I64 (-1) from by unfold I64; omega) (show I64 0 from by unfold I64; omega) hb_0_0 (hC.rd (i := 3) rfl) hC.give h92⟩) ?_
              rintro _ w97 ⟨A93, m94, c95, rfl, hK⟩
              replace hC := hC.back hK
              clear hK
              obtain ⟨rfl, hl98, hc99⟩ := (hC.ow (i := 0) rfl).sl_len
              refine lex.nil ?_
              refine hK90 _ _ ?_
              refine Wc.region (by decide +kernel) ?_
              refine lex.pure (v := .func (.func 37) #[] #[.pointer (some ⟨g3, 0, none⟩), .pointer (some ⟨g15, 0, none⟩)]) (pu_move e4) ?_
              refine lex.pure (v := .int .i64 v5_0) (pu_move e5) ?_
              replace hC : Cx (fun _ => False) O0 w w97 ([.own 28 (.pr (.int .i64) (.pr (.int .i64) (.int .i64))) (.slice A93 y91.length c95) y91, .box g3 27 [.int .i64 b_0_0, .slice Ab_0_1 b_0_1.length cb_0_1], .box g15 44 [.slice A93 y91.length c95]] ++ [.ro (.sl (.int .i64)) [.slice Ab_0_1 b_0_1.length cb_0_1] b_0_1]) := hC.sel [0, 1, 2, 3] (by decide)
              obtain ⟨y100, h101, hb⟩ := bd hb
              refine lex.cl (⟨_, _, op_callv (vs := [.int .i64 v5_0, .int .i64 1, .int .i64 0, .pointer (some ⟨g3, 0, none⟩), .pointer (some ⟨g15, 0, none⟩)]) (ca := #[.pointer (some ⟨g3, 0, none⟩), .pointer (some ⟨g15, 0, none⟩)]) Try.call37 rfl rfl rfl, markov_All_c1_ok n hC.lt hrv5_0 (show I64 1 from by unfold I64; omega) (show I64 0 from by unfold I64; omega) hb_0_0 (hC.rd (i := 3) rfl) hC.give h101⟩) ?_
              rintro _ w106 ⟨A102, m103, c104, rfl, hK⟩
              replace hC := hC.back hK
              clear hK
              obtain ⟨rfl, hl107, hc108⟩ := (hC.ow (i := 0) rfl).sl_len
              refine lex.nil ?_
              refine hK32 _ _ ?_
              refine Wc.region (by decide +kernel) ?_
              refine lex.pure (v := .int .i64 v5_0) (pu_move e5) ?_
              obtain ⟨z109, h110, hb⟩ := bd hb
              refine lex.pure (v := .int .i64 z109) (pu_addc (a := v5_0) (b := 1) rfl rfl h110) ?_
              refine lex.pure (v := .int .i64 z109) (pu_assign rfl) ?_
              refine lex.nil ?_
              obtain rfl := Option.some.inj hb
              exact hK24 m25' _ _ (Nat.lt_succ_self _) ⟨z109, y100, A102, y100.length, c104, e1, e2, e3, e4, rfl, (chk_rng h110), hC.sel [1, 3, 2, 0] (by decide), lN hl0⟩
            · replace hb := (cF hq89).symm.trans hb
              refine Wc.seq fun K111 hK111 => ?_
              refine Wc.region (by decide +kernel) ?_
              refine lex.pure (v := .pointer (some ((⟨g3, 0, none⟩ : Addr).add 1))) (pu_field (sz := 1) Try.underlying27 rfl Try.sizeOf22 (by decide) rfl e1) ?_
              refine lex.val (v := .slice Ab_0_1 b_0_1.length cb_0_1) (ld_fld (hC.bx (i := 0) rfl) Try.isAgg22 rfl rfl) ?_
              refine lex.pure (v := .int .i64 (b_0_1.length : Int)) (pu_len (A := Ab_0_1) (n := b_0_1.length) (m := cb_0_1) Try.underlying22 rfl) ?_
              obtain ⟨z112, h113, hb⟩ := bd hb
              refine lex.pure (v := .int .i64 z112) (pu_addc (a := (b_0_1.length : Int)) (b := 1) rfl rfl h113) ?_
              refine lex.pure (v := .int .i64 0) (pu_move rfl) ?_
              refine lex.nil ?_
              refine hK111 _ _ ?_
              obtain ⟨o114, hl4, hb⟩ := bd hb
              refine Wc.cut (fun E wv => ∃ (v22_4 : Int) (kf17_0_4 : List (Int × (Int × Int))) (Akf17_0_4 : Option Addr) (mkf17_0_4 ckf17_0_4 : Nat), E 1 = .pointer (some ⟨g3, 0, none⟩) ∧ E 2 = .slice none 0 0 ∧ E 3 = .pointer (some ⟨g15, 0, none⟩) ∧ E 4 = .func (.func 37) #[] #[.pointer (some ⟨g3, 0, none⟩), .pointer (some ⟨g15, 0, none⟩)] ∧ E 5 = .int .i64 v5_0 ∧ E 14 = .bool (decide (v5_0 ≤ 7)) ∧ E 17 = .int .i64 v5_0 ∧ E 21 = .int .i64 z112 ∧ E 22 = .int .i64 v22_4 ∧ E 30 = .bool v30_1 ∧ E 55 = .bool (decide (v5_0 = 2)) ∧ I64 v22_4 ∧ Cx (fun _ => False) O0 w wv [.box g3 27 [.int .i64 b_0_0, .slice Ab_0_1 b_0_1.length cb_0_1], .ro (.sl (.int .i64)) [.slice Ab_0_1 b_0_1.length cb_0_1] b_0_1, .box g15 44 [.slice Akf17_0_4 mkf17_0_4 ckf17_0_4], .own 28 (.pr (.int .i64) (.pr (.int .i64) (.int .i64))) (.slice Akf17_0_4 mkf17_0_4 ckf17_0_4) kf17_0_4] ∧ ((chk (v5_0 + 1)).bind fun z139 => some (.inl (z139, kf17_0_4))) = some o28) (fun K115 hK115 => ?_) ?_
              · refine Wc.block ?_
                refine Wc.loop (fun m E wv => ∃ (v22_4 : Int) (kf17_0_4 : List (Int × (Int × Int))) (Akf17_0_4 : Option Addr) (mkf17_0_4 ckf17_0_4 : Nat), E 1 = .pointer (some ⟨g3, 0, none⟩) ∧ E 2 = .slice none 0 0 ∧ E 3 = .pointer (some ⟨g15, 0, none⟩) ∧ E 4 = .func (.func 37) #[] #[.pointer (some ⟨g3, 0, none⟩), .pointer (some ⟨g15, 0, none⟩)] ∧ E 5 = .int .i64 v5_0 ∧ E 14 = .bool (decide (v5_0 ≤ 7)) ∧ E 17 = .int .i64 v5_0 ∧ E 21 = .int .i64 z112 ∧ E 22 = .int .i64 v22_4 ∧ E 30 = .bool v30_1 ∧ E 55 = .bool (decide (v5_0 = 2)) ∧ I64 v22_4 ∧ Cx (fun _ => False) O0 w wv [.box g3 27 [.int .i64 b_0_0, .slice Ab_0_1 b_0_1.length cb_0_1], .ro (.sl (.int .i64)) [.slice Ab_0_1 b_0_1.length cb_0_1] b_0_1, .box g15 44 [.slice Akf17_0_4 mkf17_0_4 ckf17_0_4], .own 28 (.pr (.int .i64) (.pr (.int .i64) (.int .i64))) (.slice Akf17_0_4 mkf17_0_4 ckf17_0_4) kf17_0_4] ∧ loopN m (F.markov_All_b4 n b_0_0 b_0_1 v5_0 z112) (v22_4, kf17_0_4) = some o114) n ⟨0, kf17_0_0, Akf17_0_0, kf17_0_0.length, ckf17_0_0, e1, e2, e3, e4, e5, e14, e17, rfl, rfl, e30, rfl, (show I64 0 from by unfold I64; omega), hC.sel [0, 1, 2, 3] (by decide), hl4⟩ ?_
                have hbK4 := hb
                clear hb hC hl4
                rintro m117 E119 w118 ⟨v22_4, kf17_0_4, Akf17_0_4, mkf17_0_4, ckf17_0_4, e1, e2, e3, e4, e5, e14, e17, e21, e22, e30, e55, hrv22_4, hC, hl4⟩ K116 hK116
                obtain ⟨m117', o120, rfl, hb, hl4⟩ := loopN_some hl4
                unfold F.markov_All_b4 at hb
                obtain ⟨rfl, hlkf17_0_4, hckf17_0_4⟩ := (hC.ow (i := 3) rfl).sl_len
                refine Wc.seq fun K121 hK121 => ?_
                refine Wc.region (by decide +kernel) ?_
                refine lex.pure (v := .bool (decide (v22_4 < z112))) (pu_lss (k := .i64) (a := v22_4) (b := z112) e22 e21) ?_
                refine lex.nil ?_
                refine hK121 _ _ ?_
                refine Wc.seq fun K122 hK122 => ?_
                refine Wc.cond (t := (decide (v22_4 < z112))) (rfl) (fun hq123 => ?_) (fun hq123 => ?_)
                · replace hb := (cT hq123).symm.trans hb
                  refine Wc.skip ?_
                  refine hK122 _ _ ?_
                  refine Wc.seq fun K124 hK124 => ?_
                  refine Wc.block ?_
                  refine Wc.seq fun K125 hK125 => ?_
                  refine Wc.region (by decide +kernel) ?_
                  refine lex.pure (v := .int .i64 v22_4) (pu_move e22) ?_
                  refine lex.pure (v := .int .i64 v22_4) (pu_assign rfl) ?_
                  refine lex.nil ?_
                  refine hK125 _ _ ?_
                  refine Wc.region (by decide +kernel) ?_
                  refine lex.pure (v := .func (.func 37) #[] #[.pointer (some ⟨g3, 0, none⟩), .pointer (some ⟨g15, 0, none⟩)]) (pu_move e4) ?_
                  refine lex.pure (v := .int .i64 v5_0) (pu_move e5) ?_
                  refine lex.pure (v := .int .i64 v22_4) (pu_move rfl) ?_
                  replace hC : Cx (fun _ => False) O0 w w118 ([.own 28 (.pr (.int .i64) (.pr (.int .i64) (.int .i64))) (.slice Akf17_0_4 kf17_0_4.length ckf17_0_4) kf17_0_4, .box g3 27 [.int .i64 b_0_0, .slice Ab_0_1 b_0_1.length cb_0_1], .box g15 44 [.slice Akf17_0_4 kf17_0_4.length ckf17_0_4]] ++ [.ro (.sl (.int .i64)) [.slice Ab_0_1 b_0_1.length cb_0_1] b_0_1]) := hC.sel [3, 0, 2, 1] (by decide)
                  obtain ⟨y126, h127, hb⟩ := bd hb
                  refine lex.cl (⟨_, _, op_callv (vs := [.int .i64 v5_0, .int .i64 0, .int .i64 v22_4, .pointer (some ⟨g3, 0, none⟩), .pointer (some ⟨g15, 0, none⟩)]) (ca := #[.pointer (some ⟨g3, 0, none⟩), .pointer (some ⟨g15, 0, none⟩)]) Try.call37 rfl rfl rfl, markov_All_c1_ok n hC.lt hrv5_0 (show I64 0 from by unfold I64; omega) hrv22_4 hb_0_0 (hC.rd (i := 3) rfl) hC.give h127⟩) ?_
                  rintro _ w132 ⟨A128, m129, c130, rfl, hK⟩
                  replace hC := hC.back hK
                  clear hK
                  obtain ⟨rfl, hl133, hc134⟩ := (hC.ow (i := 0) rfl).sl_len
                  refine lex.nil ?_
                  refine hK124 _ _ ?_
                  refine Wc.region (by decide +kernel) ?_
                  obtain ⟨z135, h136, hb⟩ := bd hb
                  refine lex.pure (v := .int .i64 z135) (pu_addc (a := v22_4) (b := 1) e22 rfl h136) ?_
                  refine lex.pure (v := .int .i64 z135) (pu_move rfl) ?_
                  refine lex.nil ?_
                  obtain rfl := Option.some.inj hb
                  exact hK116 m117' _ _ (Nat.lt_succ_self _) ⟨z135, y126, A128, y126.length, c130, e1, e2, e3, e4, e5, e14, e17, e21, rfl, e30, e55, (chk_rng h136), hC.sel [1, 3, 2, 0] (by decide), lN hl4⟩
                · replace hb := (cF hq123).symm.trans hb
                  refine Wc.exit rfl ?_
                  obtain rfl := Option.some.inj hb
                  obtain rfl := (lX hl4).symm
                  exact hK115 _ _ ⟨v22_4, kf17_0_4, Akf17_0_4, kf17_0_4.length, ckf17_0_4, e1, e2, e3, e4, e5, e14, e17, e21, e22, e30, e55, hrv22_4, hC.sel [0, 1, 2, 3] (by decide), hbK4⟩
              · clear hb hC hl4
                rintro E138 w137 ⟨v22_4, kf17_0_4, Akf17_0_4, mkf17_0_4, ckf17_0_4, e1, e2, e3, e4, e5, e14, e17, e21, e22, e30, e55, hrv22_4, hC, hb⟩
                obtain ⟨rfl, hlkf17_0_4, hckf17_0_4⟩ := (hC.ow (i := 3) rfl).sl_len
                refine hK32 _ _ ?_
                refine Wc.region (by decide +kernel) ?_
                refine lex.pure (v := .int .i64 v5_0) (pu_move e5) ?_
                obtain ⟨z139, h140, hb⟩ := bd hb
                refine lex.pure (v := .int .i64 z139) (pu_addc (a := v5_0) (b := 1) rfl rfl h140) ?_
                refine lex.pure (v := .int .i64 z139) (pu_assign rfl) ?_
                refine lex.nil ?_
                obtain rfl := Option.some.inj hb
                exact hK24 m25' _ _ (Nat.lt_succ_self _) ⟨z139, kf17_0_4, Akf17_0_4, kf17_0_4.length, ckf17_0_4, e1, e2, e3, e4, rfl, (chk_rng h140), hC.sel [0, 1, 2, 3] (by decide), lN hl0⟩
      · replace hb := (cF hq31).symm.trans hb
        refine Wc.exit rfl ?_
        obtain rfl := Option.some.inj hb
        obtain rfl := (lX hl0).symm
        exact hK23 _ _ ⟨v5_0, kf17_0_0, Akf17_0_0, kf17_0_0.length, ckf17_0_0, e2, e3, hrv5_0, hC.sel [2, 3] (by decide), hbK0⟩
    · clear hb hC hl0
      rintro E142 w141 ⟨v5_0, kf17_0_0, Akf17_0_0, mkf17_0_0, ckf17_0_0, e2, e3, hrv5_0, hC, hb⟩
      obtain ⟨rfl, hlkf17_0_0, hckf17_0_0⟩ := (hC.ow (i := 1) rfl).sl_len
      refine hK19 _ _ ?_
      refine Wc.seq fun K143 hK143 => ?_
      refine Wc.region (by decide +kernel) ?_
      refine lex.val (v := .slice Akf17_0_0 kf17_0_0.length ckf17_0_0) (ld_one Try.isAgg44 e3 ((hC.bx (i := 0) rfl).cell (j := 0) rfl)) ?_
      refine lex.pure (v := .slice Akf17_0_0 kf17_0_0.length ckf17_0_0) (pu_assign rfl) ?_
      refine lex.nil ?_
      refine hK143 _ _ ?_
      obtain rfl := Option.some.inj hb
      refine Wc.ret ?_
      refine hKR _ _ ?_
      refine ⟨_, res1 Try.results20 (show RV _ _ _ (.tmp _) (.slice Akf17_0_0 kf17_0_0.length ckf17_0_0) from rfl), _, rfl, Akf17_0_0, kf17_0_0.length, ckf17_0_0, rfl, hC.sel [1] (by decide)⟩

set_option maxRecDepth 100000 in
set_option maxHeartbeats 4000000 in
theorem ref36_All_ok (n : Nat) {w : World} {O0 : List Nat} (hO : ∀ k ∈ O0, k < w.heap.size) {b_0_0 : Int} (hb_0_0 : I64 b_0_0) {Ab_0_1 : Option Addr} {mb_0_1 cb_0_1 : Nat} {b_0_1 : List Int} (hb_0_1 : Rep O0 w (.sl (.int .i64)) [.slice Ab_0_1 mb_0_1 cb_0_1] b_0_1) {r : (List (Int × (Int × Int)))} (hb : F.ref36_All n b_0_0 b_0_1 = some r) :
    Calls Try.prog 21 #[.agg #[.int .i64 b_0_0, .slice Ab_0_1 mb_0_1 cb_0_1]] w fun e w' => ∃ v, e = .returned v ∧ ∃ (A0 : Option Addr) (m0 c0 : Nat), v = .slice A0 m0 c0 ∧ Cx (fun _ => False) O0 w w' [.own 33 (.pr (.int .i64) (.pr (.int .i64) (.int .i64))) (.slice A0 m0 c0) r] := by
  unfold F.ref36_All at hb
  have hC := Cx.start hO
  replace hC := hC.arg rfl hb_0_1
  clear hO
  obtain ⟨rfl, hlb_0_1, hcb_0_1⟩ := hb_0_1.sl_len
  refine calls_of_Wc Try.func21 rfl (by rw [Try.ntmps21]; exact Nat.le_of_ble_eq_true rfl) fun KR hKR => ?_
  refine Wc.seq fun K2 hK2 => ?_
  refine Wc.region (by decide +kernel) ?_
  refine lex.op (hC.box (cs := [.int .i64 b_0_0, .slice Ab_0_1 b_0_1.length cb_0_1]) rfl rfl) ?_
  rintro _ w4 ⟨g3, rfl, hC, hF, hG⟩
  clear hG
  refine lex.pure (v := .slice none 0 0) (pu_assign rfl) ?_
  refine lex.nil ?_
  refine hK2 _ _ ?_
  refine Wc.seq fun K6 hK6 => ?_
  refine Wc.region (by decide +kernel) ?_
  refine lex.pure (v := .slice none 0 0) (pu_assign rfl) ?_
  refine lex.nil ?_
  refine hK6 _ _ ?_
  refine Wc.seq fun K7 hK7 => ?_
  refine Wc.seq fun K8 hK8 => ?_
  refine Wc.region (by decide +kernel) ?_
  refine lex.pure (v := .pointer (some ((⟨g3, 0, none⟩ : Addr).add 0))) (pu_field (sz := 1) Try.underlying32 rfl Try.sizeOf3 (by decide) rfl rfl) ?_
  refine lex.val (v := .int .i64 b_0_0) (ld_fld (hC.bx (i := 0) rfl) Try.isAgg3 rfl rfl) ?_
  refine lex.pure (v := .pointer (some ((⟨g3, 0, none⟩ : Addr).add 1))) (pu_field (sz := 1) Try.underlying32 rfl Try.sizeOf22 (by decide) rfl rfl) ?_
  refine lex.val (v := .slice Ab_0_1 b_0_1.length cb_0_1) (ld_fld (hC.bx (i := 0) rfl) Try.isAgg22 rfl rfl) ?_
  obtain ⟨y9, h10, hb⟩ := bd hb
  refine lex.cl (⟨_, _, op_call (vs := [.int .i64 b_0_0, .slice Ab_0_1 b_0_1.length cb_0_1]) Try.call17 rfl rfl rfl, ref33_Valid_ok n hC.lt hb_0_0 (hC.rd (i := 1) rfl) h10⟩) ?_
  rintro _ w11 ⟨rfl, hK⟩
  replace hC := hC.merge hK
  clear hK
  refine lex.pure (v := .bool (!y9)) (pu_not (q := y9) rfl) ?_
  refine lex.nil ?_
  refine hK8 _ _ ?_
  refine Wc.cond (t := (!y9)) (rfl) (fun hq12 => ?_) (fun hq12 => ?_)
  · replace hb := (cT hq12).symm.trans hb
    refine Wc.seq fun K13 hK13 => ?_
    refine Wc.region (by decide +kernel) ?_
    refine lex.pure (v := .slice none 0 0) (pu_move rfl) ?_
    refine lex.pure (v := .slice none 0 0) (pu_assign rfl) ?_
    refine lex.nil ?_
    refine hK13 _ _ ?_
    replace hC := hC.nil 33 (.pr (.int .i64) (.pr (.int .i64) (.int .i64)))
    obtain rfl := Option.some.inj hb
    refine Wc.ret ?_
    refine hKR _ _ ?_
    refine ⟨_, res1 Try.results21 (show RV _ _ _ (.tmp _) (.slice none 0 0) from rfl), _, rfl, none, 0, 0, rfl, hC.sel [0] (by decide)⟩
  · replace hb := (cF hq12).symm.trans hb
    refine Wc.skip ?_
    refine hK7 _ _ ?_
    refine Wc.seq fun K15 hK15 => ?_
    refine Wc.seq fun K16 hK16 => ?_
    refine Wc.region (by decide +kernel) ?_
    refine lex.pure (v := .int .i64 1) (pu_assign rfl) ?_
    refine lex.nil ?_
    refine hK16 _ _ ?_
    refine Wc.fresh fun E17 hE => ?_
    have e1 : E17 1 = .pointer (some ⟨g3, 0, none⟩) := (congrFun hE 1).trans rfl
    have e2 : E17 2 = .slice none 0 0 := (congrFun hE 2).trans rfl
    have e3 : E17 3 = .slice none 0 0 := (congrFun hE 3).trans rfl
    have e4 : E17 4 = .int .i64 1 := (congrFun hE 4).trans rfl
    clear hE
    replace hC := hC.nil 33 (.pr (.int .i64) (.pr (.int .i64) (.int .i64)))
    obtain ⟨o19, hl0, hb⟩ := bd hb
    refine Wc.cut (fun E wv => ∃ (l3_0 : List (Int × (Int × Int))) (v4_0 : Int) (Al3_0 : Option Addr) (ml3_0 cl3_0 : Nat), E 2 = .slice none 0 0 ∧ E 3 = .slice Al3_0 ml3_0 cl3_0 ∧ I64 v4_0 ∧ Cx (fun _ => False) O0 w wv [.own 33 (.pr (.int .i64) (.pr (.int .i64) (.int .i64))) (.slice Al3_0 ml3_0 cl3_0) l3_0] ∧ (some l3_0) = some r) (fun K20 hK20 => ?_) ?_
    · refine Wc.block ?_
      refine Wc.loop (fun m E wv => ∃ (l3_0 : List (Int × (Int × Int))) (v4_0 : Int) (Al3_0 : Option Addr) (ml3_0 cl3_0 : Nat), E 1 = .pointer (some ⟨g3, 0, none⟩) ∧ E 2 = .slice none 0 0 ∧ E 3 = .slice Al3_0 ml3_0 cl3_0 ∧ E 4 = .int .i64 v4_0 ∧ I64 v4_0 ∧ Cx (fun _ => False) O0 w wv [.box g3 32 [.int .i64 b_0_0, .slice Ab_0_1 b_0_1.length cb_0_1], .ro (.sl (.int .i64)) [.slice Ab_0_1 b_0_1.length cb_0_1] b_0_1, .own 33 (.pr (.int .i64) (.pr (.int .i64) (.int .i64))) (.slice Al3_0 ml3_0 cl3_0) l3_0] ∧ loopN m (F.ref36_All_b0 n b_0_0 b_0_1) (l3_0, v4_0) = some o19) n ⟨([] : List (Int × (Int × Int))), 1, none, 0, 0, e1, e2, e3, e4, (show I64 1 from by unfold I64; omega), hC.sel [1, 2, 0] (by decide), hl0⟩ ?_
      have hbK0 := hb
      clear hb hC hl0
      rintro m22 E24 w23 ⟨l3_0, v4_0, Al3_0, ml3_0, cl3_0, e1, e2, e3, e4, hrv4_0, hC, hl0⟩ K21 hK21
      obtain ⟨m22', o25, rfl, hb, hl0⟩ := loopN_some hl0
      unfold F.ref36_All_b0 at hb
      obtain ⟨rfl, hll3_0, hcl3_0⟩ := (hC.ow (i := 2) rfl).sl_len
      refine Wc.seq fun K26 hK26 => ?_
      refine Wc.seq fun K27 hK27 => ?_
      refine Wc.region (by decide +kernel) ?_
      refine lex.pure (v := .int .i64 v4_0) (pu_move e4) ?_
      refine lex.pure (v := .bool (decide (v4_0 ≤ 7))) (pu_leq (k := .i64) (a := v4_0) (b := 7) rfl rfl) ?_
      refine lex.nil ?_
      refine hK27 _ _ ?_
      refine Wc.cond (t := (decide (v4_0 ≤ 7))) (rfl) (fun hq28 => ?_) (fun hq28 => ?_)
      · replace hb := (cT hq28).symm.trans hb
        refine Wc.skip ?_
        refine hK26 _ _ ?_
        refine Wc.seq fun K29 hK29 => ?_
        refine Wc.block ?_
        refine Wc.seq fun K30 hK30 => ?_
        refine Wc.region (by decide +kernel) ?_
        refine lex.pure (v := .pointer (some ((⟨g3, 0, none⟩ : Addr).add 0))) (pu_field (sz := 1) Try.underlying32 rfl Try.sizeOf3 (by decide) rfl e1) ?_
        refine lex.val (v := .int .i64 b_0_0) (ld_fld (hC.bx (i := 0) rfl) Try.isAgg3 rfl rfl) ?_
        obtain ⟨z31, h32, hb⟩ := bd hb
        refine lex.pure (v := .int .i64 z31) (pu_negc (a := b_0_0) rfl h32) ?_
        obtain ⟨z33, h34, hb⟩ := bd hb
        refine lex.pure (v := .int .i64 z33) (pu_subc (a := z31) (b := 1) rfl rfl h34) ?_
        refine lex.pure (v := .int .i64 z33) (pu_assign rfl) ?_
        refine lex.nil ?_
        refine hK30 _ _ ?_
        obtain ⟨o35, hl1, hb⟩ := bd hb
        refine Wc.cut (fun E wv => ∃ (l3_1 : List (Int × (Int × Int))) (v5_1 : Int) (Al3_1 : Option Addr) (ml3_1 cl3_1 : Nat), E 1 = .pointer (some ⟨g3, 0, none⟩) ∧ E 2 = .slice none 0 0 ∧ E 3 = .slice Al3_1 ml3_1 cl3_1 ∧ E 4 = .int .i64 v4_0 ∧ E 5 = .int .i64 v5_1 ∧ E 18 = .bool (decide (v4_0 ≤ 7)) ∧ I64 v5_1 ∧ Cx (fun _ => False) O0 w wv [.box g3 32 [.int .i64 b_0_0, .slice Ab_0_1 b_0_1.length cb_0_1], .ro (.sl (.int .i64)) [.slice Ab_0_1 b_0_1.length cb_0_1] b_0_1, .own 33 (.pr (.int .i64) (.pr (.int .i64) (.int .i64))) (.slice Al3_1 ml3_1 cl3_1) l3_1] ∧ ((chk (v4_0 + 1)).bind fun z111 => some (.inl (l3_1, z111))) = some o25) (fun K36 hK36 => ?_) ?_
        · refine Wc.block ?_
          refine Wc.loop (fun m E wv => ∃ (l3_1 : List (Int × (Int × Int))) (v5_1 : Int) (Al3_1 : Option Addr) (ml3_1 cl3_1 : Nat), E 1 = .pointer (some ⟨g3, 0, none⟩) ∧ E 2 = .slice none 0 0 ∧ E 3 = .slice Al3_1 ml3_1 cl3_1 ∧ E 4 = .int .i64 v4_0 ∧ E 5 = .int .i64 v5_1 ∧ E 18 = .bool (decide (v4_0 ≤ 7)) ∧ I64 v5_1 ∧ Cx (fun _ => False) O0 w wv [.box g3 32 [.int .i64 b_0_0, .slice Ab_0_1 b_0_1.length cb_0_1], .ro (.sl (.int .i64)) [.slice Ab_0_1 b_0_1.length cb_0_1] b_0_1, .own 33 (.pr (.int .i64) (.pr (.int .i64) (.int .i64))) (.slice Al3_1 ml3_1 cl3_1) l3_1] ∧ loopN m (F.ref36_All_b1 n b_0_0 b_0_1 v4_0) (l3_1, v5_1) = some o35) n ⟨l3_0, z33, Al3_0, l3_0.length, cl3_0, e1, e2, e3, e4, rfl, rfl, (chk_rng h34), hC.sel [0, 1, 2] (by decide), hl1⟩ ?_
          have hbK1 := hb
          clear hb hC hl1
          rintro m38 E40 w39 ⟨l3_1, v5_1, Al3_1, ml3_1, cl3_1, e1, e2, e3, e4, e5, e18, hrv5_1, hC, hl1⟩ K37 hK37
          obtain ⟨m38', o41, rfl, hb, hl1⟩ := loopN_some hl1
          unfold F.ref36_All_b1 at hb
          obtain ⟨rfl, hll3_1, hcl3_1⟩ := (hC.ow (i := 2) rfl).sl_len
          refine Wc.seq fun K42 hK42 => ?_
          refine Wc.seq fun K43 hK43 => ?_
          refine Wc.region (by decide +kernel) ?_
          refine lex.pure (v := .int .i64 v5_1) (pu_move e5) ?_
          refine lex.pure (v := .pointer (some ((⟨g3, 0, none⟩ : Addr).add 0))) (pu_field (sz := 1) Try.underlying32 rfl Try.sizeOf3 (by decide) rfl e1) ?_
          refine lex.val (v := .int .i64 b_0_0) (ld_fld (hC.bx (i := 0) rfl) Try.isAgg3 rfl rfl) ?_
          obtain ⟨z44, h45, hb⟩ := bd hb
          refine lex.pure (v := .int .i64 z44) (pu_addc (a := b_0_0) (b := 1) rfl rfl h45) ?_
          refine lex.pure (v := .bool (decide (v5_1 ≤ z44))) (pu_leq (k := .i64) (a := v5_1) (b := z44) rfl rfl) ?_
          refine lex.nil ?_
          refine hK43 _ _ ?_
          refine Wc.cond (t := (decide (v5_1 ≤ z44))) (rfl) (fun hq46 => ?_) (fun hq46 => ?_)
          · replace hb := (cT hq46).symm.trans hb
            refine Wc.skip ?_
            refine hK42 _ _ ?_
            refine Wc.seq fun K47 hK47 => ?_
            refine Wc.block ?_
            refine Wc.seq fun K48 hK48 => ?_
            refine Wc.region (by decide +kernel) ?_
            refine lex.pure (v := .int .i64 0) (pu_assign rfl) ?_
            refine lex.nil ?_
            refine hK48 _ _ ?_
            obtain ⟨o49, hl2, hb⟩ := bd hb
            refine Wc.cut (fun E wv => ∃ (l3_2 : List (Int × (Int × Int))) (v6_2 : Int) (Al3_2 : Option Addr) (ml3_2 cl3_2 : Nat), E 1 = .pointer (some ⟨g3, 0, none⟩) ∧ E 2 = .slice none 0 0 ∧ E 3 = .slice Al3_2 ml3_2 cl3_2 ∧ E 4 = .int .i64 v4_0 ∧ E 5 = .int .i64 v5_1 ∧ E 6 = .int .i64 v6_2 ∧ E 18 = .bool (decide (v4_0 ≤ 7)) ∧ E 29 = .bool (decide (v5_1 ≤ z44)) ∧ I64 v6_2 ∧ Cx (fun _ => False) O0 w wv [.box g3 32 [.int .i64 b_0_0, .slice Ab_0_1 b_0_1.length cb_0_1], .ro (.sl (.int .i64)) [.slice Ab_0_1 b_0_1.length cb_0_1] b_0_1, .own 33 (.pr (.int .i64) (.pr (.int .i64) (.int .i64))) (.slice Al3_2 ml3_2 cl3_2) l3_2] ∧ ((chk (v5_1 + 1)).bind fun z107 => some (.inl (l3_2, z107))) = some o41) (fun K50 hK50 => ?_) ?_
            · refine Wc.block ?_
              refine Wc.loop (fun m E wv => ∃ (l3_2 : List (Int × (Int × Int))) (v6_2 : Int) (Al3_2 : Option Addr) (ml3_2 cl3_2 : Nat), E 1 = .pointer (some ⟨g3, 0, none⟩) ∧ E 2 = .slice none 0 0 ∧ E 3 = .slice Al3_2 ml3_2 cl3_2 ∧ E 4 = .int .i64 v4_0 ∧ E 5 = .int .i64 v5_1 ∧ E 6 = .int .i64 v6_2 ∧ E 18 = .bool (decide (v4_0 ≤ 7)) ∧ E 29 = .bool (decide (v5_1 ≤ z44)) ∧ I64 v6_2 ∧ Cx (fun _ => False) O0 w wv [.box g3 32 [.int .i64 b_0_0, .slice Ab_0_1 b_0_1.length cb_0_1], .ro (.sl (.int .i64)) [.slice Ab_0_1 b_0_1.length cb_0_1] b_0_1, .own 33 (.pr (.int .i64) (.pr (.int .i64) (.int .i64))) (.slice Al3_2 ml3_2 cl3_2) l3_2] ∧ loopN m (F.ref36_All_b2 n b_0_0 b_0_1 v4_0 v5_1) (l3_2, v6_2) = some o49) n ⟨l3_1, 0, Al3_1, l3_1.length, cl3_1, e1, e2, e3, e4, e5, rfl, e18, rfl, (show I64 0 from by unfold I64; omega), hC.sel [0, 1, 2] (by decide), hl2⟩ ?_
              have hbK2 := hb
              clear hb hC hl2
              rintro m52 E54 w53 ⟨l3_2, v6_2, Al3_2, ml3_2, cl3_2, e1, e2, e3, e4, e5, e6, e18, e29, hrv6_2, hC, hl2⟩ K51 hK51
              obtain ⟨m52', o55, rfl, hb, hl2⟩ := loopN_some hl2
              unfold F.ref36_All_b2 at hb
              obtain ⟨rfl, hll3_2, hcl3_2⟩ := (hC.ow (i := 2) rfl).sl_len
              refine Wc.seq fun K56 hK56 => ?_
              refine Wc.seq fun K57 hK57 => ?_
              refine Wc.region (by decide +kernel) ?_
              refine lex.pure (v := .int .i64 v6_2) (pu_move e6) ?_
              refine lex.pure (v := .pointer (some ((⟨g3, 0, none⟩ : Addr).add 1))) (pu_field (sz := 1) Try.underlying32 rfl Try.sizeOf22 (by decide) rfl e1) ?_
              refine lex.val (v := .slice Ab_0_1 b_0_1.length cb_0_1) (ld_fld (hC.bx (i := 0) rfl) Try.isAgg22 rfl rfl) ?_
              refine lex.pure (v := .int .i64 (b_0_1.length : Int)) (pu_len (A := Ab_0_1) (n := b_0_1.length) (m := cb_0_1) Try.underlying22 rfl) ?_
              obtain ⟨z58, h59, hb⟩ := bd hb
              refine lex.pure (v := .int .i64 z58) (pu_addc (a := (b_0_1.length : Int)) (b := 1) rfl rfl h59) ?_
              refine lex.pure (v := .bool (decide (v6_2 ≤ z58))) (pu_leq (k := .i64) (a := v6_2) (b := z58) rfl rfl) ?_
              refine lex.nil ?_
              refine hK57 _ _ ?_
              refine Wc.cond (t := (decide (v6_2 ≤ z58))) (rfl) (fun hq60 => ?_) (fun hq60 => ?_)
              · replace hb := (cT hq60).symm.trans hb
                refine Wc.skip ?_
                refine hK56 _ _ ?_
                refine Wc.seq fun K61 hK61 => ?_
                refine Wc.block ?_
                refine Wc.seq fun K62 hK62 => ?_
                refine Wc.region (by decide +kernel) ?_
                refine lex.val (v := .agg #[.int .i64 b_0_0, .slice Ab_0_1 b_0_1.length cb_0_1]) (ld_blk (hC.bx (i := 0) rfl) Try.isAgg32 Try.sizeOf32 e1) ?_
                refine lex.pure (v := .int .i64 v4_0) (pu_move e4) ?_
                refine lex.pure (v := .int .i64 v5_1) (pu_move e5) ?_
                refine lex.pure (v := .int .i64 v6_2) (pu_move e6) ?_
                refine lex.pure (v := .agg #[.int .i64 v4_0, .int .i64 v5_1, .int .i64 v6_2]) (pu_builds (places := [(0, 1), (1, 1), (2, 1)]) (pv := [(0, .int .i64 v4_0), (1, .int .i64 v5_1), (2, .int .i64 v6_2)]) Try.type33 Try.underlying33 rfl (mp_cons Try.type3 (mp_cons Try.type3 (mp_cons Try.type3 mp_nil rfl rfl) rfl rfl) rfl rfl) rfl (by simp [Instr.fill, Value.cells])) ?_
                obtain ⟨y63, h64, hb⟩ := bd hb
                refine lex.cl (⟨_, _, op_call (vs := [.agg #[.int .i64 b_0_0, .slice Ab_0_1 b_0_1.length cb_0_1], .agg #[.int .i64 v4_0, .int .i64 v5_1, .int .i64 v6_2]]) Try.call13 rfl rfl rfl, ref36_Apply_ok n hC.lt hb_0_0 (hC.rd (i := 1) rfl) hrv4_0 hrv5_1 hrv6_2 h64⟩) ?_
                rintro _ w74 ⟨A66, m67, c68, rfl, hr65, hr70, hr71, hr72, hr73, hK⟩
                replace hC := hC.merge hK
                clear hK
                obtain ⟨rfl, hl75, hc76⟩ := (hC.rd (i := 0) rfl).sl_len
                refine lex.pure (v := .tuple #[.agg #[.int .i64 y63.1, .slice A66 y63.2.1.length c68], .agg #[.int .i64 y63.2.2.1, .int .i64 y63.2.2.2.1, .int .i64 y63.2.2.2.2.1], .int .i64 y63.2.2.2.2.2]) (pu_move rfl) ?_
                refine lex.pure (v := .agg #[.int .i64 y63.1, .slice A66 y63.2.1.length c68]) (pu_extract rfl rfl) ?_
                refine lex.pure (v := .agg #[.int .i64 y63.2.2.1, .int .i64 y63.2.2.2.1, .int .i64 y63.2.2.2.2.1]) (pu_extract rfl rfl) ?_
                refine lex.pure (v := .int .i64 y63.2.2.2.2.2) (pu_extract rfl rfl) ?_
                refine lex.op (hC.alloc (cs := [.int .i64 0, .slice none 0 0]) Try.zeroValue32 rfl) ?_
                rintro _ w78 ⟨g77, rfl, hC, hF, hG⟩
                clear hG
                refine lex.op (hC.alloc (cs := [.int .i64 0, .int .i64 0, .int .i64 0]) Try.zeroValue33 rfl) ?_
                rintro _ w81 ⟨g80, rfl, hC, hF, hG⟩
                clear hG
                refine lex.sk (hC.seta (i := 1) (ds := [.int .i64 y63.1, .slice A66 y63.2.1.length c68]) rfl Try.type32 rfl rfl rfl rfl rfl) ?_
                rintro w83 ⟨hC, hF⟩
                refine lex.sk (hC.seta (i := 0) (ds := [.int .i64 y63.2.2.1, .int .i64 y63.2.2.2.1, .int .i64 y63.2.2.2.2.1]) rfl Try.type33 rfl rfl rfl rfl rfl) ?_
                rintro w84 ⟨hC, hF⟩
                refine lex.pure (v := .int .i64 y63.2.2.2.2.2) (pu_assign rfl) ?_
                refine lex.nil ?_
                refine hK62 _ _ ?_
                refine Wc.fresh fun E85 hE => ?_
                have e1 : E85 1 = .pointer (some ⟨g3, 0, none⟩) := (congrFun hE 1).trans e1
                have e2 : E85 2 = .slice none 0 0 := (congrFun hE 2).trans e2
                have e3 : E85 3 = .slice Al3_2 l3_2.length cl3_2 := (congrFun hE 3).trans e3
                have e4 : E85 4 = .int .i64 v4_0 := (congrFun hE 4).trans e4
                have e5 : E85 5 = .int .i64 v5_1 := (congrFun hE 5).trans e5
                have e6 : E85 6 = .int .i64 v6_2 := (congrFun hE 6).trans e6
                have e9 : E85 9 = .int .i64 y63.2.2.2.2.2 := (congrFun hE 9).trans rfl
                have e18 : E85 18 = .bool (decide (v4_0 ≤ 7)) := (congrFun hE 18).trans e18
                have e29 : E85 29 = .bool (decide (v5_1 ≤ z44)) := (congrFun hE 29).trans e29
                have e37 : E85 37 = .bool (decide (v6_2 ≤ z58)) := (congrFun hE 37).trans rfl
                clear hE
                refine Wc.seq fun K86 hK86 => ?_
                refine Wc.region (by decide +kernel) ?_
                refine lex.pure (v := .int .i64 y63.2.2.2.2.2) (pu_move e9) ?_
                refine lex.pure (v := .bool (decide (y63.2.2.2.2.2 = 0))) (pu_eql (k := .i64) (a := y63.2.2.2.2.2) (b := 0) rfl rfl) ?_
                refine lex.nil ?_
                refine hK86 _ _ ?_
                refine Wc.cond (t := (decide (y63.2.2.2.2.2 = 0))) (rfl) (fun hq87 => ?_) (fun hq87 => ?_)
                · replace hb := (cT hq87).symm.trans hb
                  refine Wc.region (by decide +kernel) ?_
                  refine lex.pure (v := .slice Al3_2 l3_2.length cl3_2) (pu_move e3) ?_
                  refine lex.pure (v := .int .i64 v4_0) (pu_move e4) ?_
                  refine lex.pure (v := .int .i64 v5_1) (pu_move e5) ?_
                  refine lex.pure (v := .int .i64 v6_2) (pu_move e6) ?_
                  refine lex.pure (v := .agg #[.int .i64 v4_0, .int .i64 v5_1, .int .i64 v6_2]) (pu_builds (places := [(0, 1), (1, 1), (2, 1)]) (pv := [(0, .int .i64 v4_0), (1, .int .i64 v5_1), (2, .int .i64 v6_2)]) Try.type33 Try.underlying33 rfl (mp_cons Try.type3 (mp_cons Try.type3 (mp_cons Try.type3 mp_nil rfl rfl) rfl rfl) rfl rfl) rfl (by simp [Instr.fill, Value.cells])) ?_
                  refine lex.op (hC.lit (s := (.pr (.int .i64) (.pr (.int .i64) (.int .i64)))) (vs := [.agg #[.int .i64 v4_0, .int .i64 v5_1, .int .i64 v6_2]]) (xs := [(v4_0, v5_1, v6_2)]) Try.underlying49 Try.type33 rfl rfl (Nat.le_of_ble_eq_true rfl) rfl rfl (by simp [Value.cells, Sh.n]) rfl (show Elems _ _ (.pr (.int .i64) (.pr (.int .i64) (.int .i64))) ([.int .i64 v4_0, .int .i64 v5_1, .int .i64 v6_2] ++ ([])) ([(v4_0, v5_1, v6_2)] : List (Int × (Int × Int))) from Elems.cons (⟨[.int .i64 v4_0], [.int .i64 v5_1, .int .i64 v6_2], rfl, ⟨rfl, I64.wr hrv4_0⟩, ⟨[.int .i64 v5_1], [.int .i64 v6_2], rfl, ⟨rfl, I64.wr hrv5_1⟩, ⟨rfl, I64.wr hrv6_2⟩⟩⟩) (Elems.nil _ _ _))) ?_
                  rintro _ w92 ⟨A88, c89, rfl, hl90, hc91, hC, hF, hN⟩
                  clear hF hN
                  obtain ⟨u94, h95, hb⟩ := bd hb
                  refine lex.op (hC.app (i := 6) (s := (.pr (.int .i64) (.pr (.int .i64) (.int .i64)))) (xs := l3_2) (ys := ([(v4_0, v5_1, v6_2)] : List (Int × (Int × Int)))) (m := ((([(v4_0, v5_1, v6_2)] : List (Int × (Int × Int)))).length)) rfl Try.underlying49 Try.underlying49 Try.type33 rfl rfl rfl (hC.srco (i := 0) rfl) rfl rfl (by have := lim_some h95; simp at this ⊢; omega) (by decide)) ?_
                  rintro _ w100 ⟨A96, c97, rfl, hl98, hc99, hC, hF, hN⟩
                  clear hF hN
                  refine lex.pure (v := .slice A96 ((l3_2 ++ ([(v4_0, v5_1, v6_2)] : List (Int × (Int × Int)))).length) c97) (pu_assign rfl) ?_
                  refine lex.nil ?_
                  refine hK61 _ _ ?_
                  refine Wc.region (by decide +kernel) ?_
                  refine lex.pure (v := .int .i64 v6_2) (pu_move e6) ?_
                  obtain ⟨z101, h102, hb⟩ := bd hb
                  refine lex.pure (v := .int .i64 z101) (pu_addc (a := v6_2) (b := 1) rfl rfl h102) ?_
                  refine lex.pure (v := .int .i64 z101) (pu_assign rfl) ?_
                  refine lex.nil ?_
                  obtain rfl := Option.some.inj hb
                  exact hK51 m52' _ _ (Nat.lt_succ_self _) ⟨(l3_2 ++ ([(v4_0, v5_1, v6_2)] : List (Int × (Int × Int)))), z101, A96, (l3_2 ++ ([(v4_0, v5_1, v6_2)] : List (Int × (Int × Int)))).length, c97, e1, e2, rfl, e4, e5, rfl, e18, e29, (chk_rng h102), hC.sel [4, 5, 6] (by decide), lN hl2⟩
                · replace hb := (cF hq87).symm.trans hb
                  refine Wc.skip ?_
                  refine hK61 _ _ ?_
                  refine Wc.region (by decide +kernel) ?_
                  refine lex.pure (v := .int .i64 v6_2) (pu_move e6) ?_
                  obtain ⟨z103, h104, hb⟩ := bd hb
                  refine lex.pure (v := .int .i64 z103) (pu_addc (a := v6_2) (b := 1) rfl rfl h104) ?_
                  refine lex.pure (v := .int .i64 z103) (pu_assign rfl) ?_
                  refine lex.nil ?_
                  obtain rfl := Option.some.inj hb
                  exact hK51 m52' _ _ (Nat.lt_succ_self _) ⟨l3_2, z103, Al3_2, l3_2.length, cl3_2, e1, e2, e3, e4, e5, rfl, e18, e29, (chk_rng h104), hC.sel [3, 4, 5] (by decide), lN hl2⟩
              · replace hb := (cF hq60).symm.trans hb
                refine Wc.exit rfl ?_
                obtain rfl := Option.some.inj hb
                obtain rfl := (lX hl2).symm
                exact hK50 _ _ ⟨l3_2, v6_2, Al3_2, l3_2.length, cl3_2, e1, e2, e3, e4, e5, e6, e18, e29, hrv6_2, hC.sel [0, 1, 2] (by decide), hbK2⟩
            · clear hb hC hl2
              rintro E106 w105 ⟨l3_2, v6_2, Al3_2, ml3_2, cl3_2, e1, e2, e3, e4, e5, e6, e18, e29, hrv6_2, hC, hb⟩
              obtain ⟨rfl, hll3_2, hcl3_2⟩ := (hC.ow (i := 2) rfl).sl_len
              refine hK47 _ _ ?_
              refine Wc.region (by decide +kernel) ?_
              refine lex.pure (v := .int .i64 v5_1) (pu_move e5) ?_
              obtain ⟨z107, h108, hb⟩ := bd hb
              refine lex.pure (v := .int .i64 z107) (pu_addc (a := v5_1) (b := 1) rfl rfl h108) ?_
              refine lex.pure (v := .int .i64 z107) (pu_assign rfl) ?_
              refine lex.nil ?_
              obtain rfl := Option.some.inj hb
              exact hK37 m38' _ _ (Nat.lt_succ_self _) ⟨l3_2, z107, Al3_2, l3_2.length, cl3_2, e1, e2, e3, e4, rfl, e18, (chk_rng h108), hC.sel [0, 1, 2] (by decide), lN hl1⟩
          · replace hb := (cF hq46).symm.trans hb
            refine Wc.exit rfl ?_
            obtain rfl := Option.some.inj hb
            obtain rfl := (lX hl1).symm
            exact hK36 _ _ ⟨l3_1, v5_1, Al3_1, l3_1.length, cl3_1, e1, e2, e3, e4, e5, e18, hrv5_1, hC.sel [0, 1, 2] (by decide), hbK1⟩
        · clear hb hC hl1
          rintro E110 w109 ⟨l3_1, v5_1, Al3_1, ml3_1, cl3_1, e1, e2, e3, e4, e5, e18, hrv5_1, hC, hb⟩
          obtain ⟨rfl, hll3_1, hcl3_1⟩ := (hC.ow (i := 2) rfl).sl_len
          refine hK29 _ _ ?_
          refine Wc.region (by decide +kernel) ?_
          refine lex.pure (v := .int .i64 v4_0) (pu_move e4) ?_
          obtain ⟨z111, h112, hb⟩ := bd hb
          refine lex.pure (v := .int .i64 z111) (pu_addc (a := v4_0) (b := 1) rfl rfl h112) ?_
          refine lex.pure (v := .int .i64 z111) (pu_assign rfl) ?_
          refine lex.nil ?_
          obtain rfl := Option.some.inj hb
          exact hK21 m22' _ _ (Nat.lt_succ_self _) ⟨l3_1, z111, Al3_1, l3_1.length, cl3_1, e1, e2, e3, rfl, (chk_rng h112), hC.sel [0, 1, 2] (by decide), lN hl0⟩
      · replace hb := (cF hq28).symm.trans hb
        refine Wc.exit rfl ?_
        obtain rfl := Option.some.inj hb
        obtain rfl := (lX hl0).symm
        exact hK20 _ _ ⟨l3_0, v4_0, Al3_0, l3_0.length, cl3_0, e2, e3, hrv4_0, hC.sel [2] (by decide), hbK0⟩
    · clear hb hC hl0
      rintro E114 w113 ⟨l3_0, v4_0, Al3_0, ml3_0, cl3_0, e2, e3, hrv4_0, hC, hb⟩
      obtain ⟨rfl, hll3_0, hcl3_0⟩ := (hC.ow (i := 0) rfl).sl_len
      refine hK15 _ _ ?_
      refine Wc.seq fun K115 hK115 => ?_
      refine Wc.region (by decide +kernel) ?_
      refine lex.pure (v := .slice Al3_0 l3_0.length cl3_0) (pu_move e3) ?_
      refine lex.pure (v := .slice Al3_0 l3_0.length cl3_0) (pu_assign rfl) ?_
      refine lex.nil ?_
      refine hK115 _ _ ?_
      obtain rfl := Option.some.inj hb
      refine Wc.ret ?_
      refine hKR _ _ ?_
      refine ⟨_, res1 Try.results21 (show RV _ _ _ (.tmp _) (.slice Al3_0 l3_0.length cl3_0) from rfl), _, rfl, Al3_0, l3_0.length, cl3_0, rfl, hC.sel [0] (by decide)⟩
end Go.Proofs.Ytkjpldmelafooaa
