/- The walks: part 29. -/
import Derived.Test.YtkeaonceaaafcaaS
import Derived.Test.YtkeaonceaaafcaaG0
import Derived.Test.YtkeaonceaaafcaaG27
set_option linter.unusedVariables false
set_option linter.unusedSimpArgs false
namespace Go.Proofs.Ytkeaonceaaafcaa
open Ev
set_option maxRecDepth 100000 in
set_option maxHeartbeats 4000000 in
theorem braid_Inverse_ok (n : Nat) {w : World} {O0 : List Nat} (hO : ∀ k ∈ O0, k < w.heap.size) {b_0_0 : Int} (hb_0_0 : I64 b_0_0) {Ab_0_1 : Option Addr} {mb_0_1 cb_0_1 : Nat} {b_0_1 : List Int} (hb_0_1 : Rep O0 w (.sl (.int .i64)) [.slice Ab_0_1 mb_0_1 cb_0_1] b_0_1) {r : Int × (List Int)} (hb : F.braid_Inverse n b_0_0 b_0_1 = some r) :
    Calls Try.prog 37 #[.agg #[.int .i64 b_0_0, .slice Ab_0_1 mb_0_1 cb_0_1]] w fun e w' => ∃ v, e = .returned v ∧ ∃ (A1 : Option Addr) (m1 c1 : Nat), v = .agg #[.int .i64 r.1, .slice A1 m1 c1] ∧ I64 r.1 ∧ Cx (fun _ => False) O0 w w' [.own 3 (.int .i64) (.slice A1 m1 c1) r.2] := by
  unfold F.braid_Inverse at hb
  have hC := Cx.start hO
  replace hC := hC.arg rfl hb_0_1
  clear hO
  obtain ⟨rfl, hlb_0_1, hcb_0_1⟩ := hb_0_1.sl_len
  replace hC : Cx (fun _ => False) O0 w w ([.ro (.sl (.int .i64)) [.slice Ab_0_1 b_0_1.length cb_0_1] b_0_1] ++ marksF ([] : List Nat)) := hC
  refine calls_of_WcM Try.func37 rfl (by rw [Try.ntmps37]; exact Nat.le_of_ble_eq_true rfl) fun KR hKR => ?_
  refine Wc.seq fun K2 hK2 => ?_
  refine Wc.region (by decide +kernel) ?_
  replace hC : Cx (fun _ => False) O0 w w ([.ro (.sl (.int .i64)) [.slice Ab_0_1 b_0_1.length cb_0_1] b_0_1] ++ marksF ([] : List Nat)) := hC
  refine lex.op (hC.box (cs := [.int .i64 b_0_0, .slice Ab_0_1 b_0_1.length cb_0_1]) rfl rfl) ?_
  rintro _ w4 ⟨g3, rfl, hC, hF, hG⟩
  clear hG
  replace hC : Cx (fun _ => False) O0 w w4 ([.box g3 24 [.int .i64 b_0_0, .slice Ab_0_1 b_0_1.length cb_0_1], .ro (.sl (.int .i64)) [.slice Ab_0_1 b_0_1.length cb_0_1] b_0_1] ++ marksF ([] : List Nat)) := hC
  refine lex.op (hC.alloc (cs := [.int .i64 0, .slice none 0 0]) Try.zeroValue24 rfl) ?_
  rintro _ w7 ⟨g6, rfl, hC, hF, hG⟩
  clear hG
  refine lex.nil ?_
  refine hK2 _ _ ?_
  refine Wc.seq fun K9 hK9 => ?_
  refine Wc.seq fun K10 hK10 => ?_
  refine Wc.region (by decide +kernel) ?_
  replace hC : Cx (fun _ => False) O0 w w7 ([.box g6 24 [.int .i64 0, .slice none 0 0], .box g3 24 [.int .i64 b_0_0, .slice Ab_0_1 b_0_1.length cb_0_1], .ro (.sl (.int .i64)) [.slice Ab_0_1 b_0_1.length cb_0_1] b_0_1] ++ marksF ([] : List Nat)) := hC
  refine lex.val (v := .agg #[.int .i64 b_0_0, .slice Ab_0_1 b_0_1.length cb_0_1]) (ld_blk (hC.bx (i := 1) rfl) Try.isAgg24 Try.sizeOf24 rfl) ?_
  obtain ⟨y11, h12, hb⟩ := bd hb
  refine lex.cl (⟨_, _, op_call (vs := [.agg #[.int .i64 b_0_0, .slice Ab_0_1 b_0_1.length cb_0_1]]) Try.call14 rfl rfl rfl, braid_Valid_ok n hC.lt hb_0_0 (hC.rd (i := 2) rfl) h12⟩) ?_
  rintro _ w13 ⟨rfl, hK⟩
  replace hC := hC.merge hK
  clear hK
  replace hC : Cx (fun _ => False) O0 w w13 ([.box g6 24 [.int .i64 0, .slice none 0 0], .box g3 24 [.int .i64 b_0_0, .slice Ab_0_1 b_0_1.length cb_0_1], .ro (.sl (.int .i64)) [.slice Ab_0_1 b_0_1.length cb_0_1] b_0_1] ++ marksF ([] : List Nat)) := hC
  refine lex.pure (v := .bool (!y11)) (pu_not (q := y11) rfl) ?_
  refine lex.nil ?_
  refine hK10 _ _ ?_
  refine Wc.cond (t := (!y11)) (rfl) (fun hq14 => ?_) (fun hq14 => ?_)
  · replace hb := (cT hq14).symm.trans hb
    refine Wc.seq fun K15 hK15 => ?_
    refine Wc.region (by decide +kernel) ?_
    refine lex.pure (v := .agg #[.int .i64 0, .slice none 0 0]) (pu_builds (places := [(0, 1), (1, 1)]) (pv := []) Try.type24 Try.underlying24 rfl (mp_cons Try.type3 (mp_cons Try.type22 mp_nil rfl rfl) rfl rfl) rfl (by simp [Instr.fill, Value.cells])) ?_
    refine lex.sk (hC.seta (i := 0) (ds := [.int .i64 0, .slice none 0 0]) rfl Try.type24 rfl rfl rfl rfl rfl) ?_
    rintro w16 ⟨hC, hF⟩
    refine lex.nil ?_
    refine hK15 _ _ ?_
    replace hC := hC.nil 3 (.int .i64)
    replace hC : Cx (fun _ => False) O0 w w16 ([.own 3 (.int .i64) (.slice none 0 0) ([] : List Int), .box g6 24 [.int .i64 0, .slice none 0 0], .box g3 24 [.int .i64 b_0_0, .slice Ab_0_1 b_0_1.length cb_0_1], .ro (.sl (.int .i64)) [.slice Ab_0_1 b_0_1.length cb_0_1] b_0_1] ++ marksF ([] : List Nat)) := hC
    obtain rfl := Option.some.inj hb
    refine Wc.ret ?_
    replace hC : Cx (fun _ => False) O0 w w16 (marksF ([] : List Nat) ++ [.own 3 (.int .i64) (.slice none 0 0) ([] : List Int), .box g6 24 [.int .i64 0, .slice none 0 0], .box g3 24 [.int .i64 b_0_0, .slice Ab_0_1 b_0_1.length cb_0_1], .ro (.sl (.int .i64)) [.slice Ab_0_1 b_0_1.length cb_0_1] b_0_1]) := hC.perm List.perm_append_comm
    refine hKR _ _ _ _ _ _ _ rfl hC fun w18 hC => ?_
    refine ⟨_, res1 Try.results37 ⟨_, rfl, loadVar_blk (hC.bx (i := 1) rfl) Try.isAgg24 Try.sizeOf24⟩, _, rfl, none, 0, 0, rfl, (show I64 0 from by unfold I64; omega), hC.sel [0] (by decide)⟩
  · replace hb := (cF hq14).symm.trans hb
    refine Wc.skip ?_
    refine hK9 _ _ ?_
    refine Wc.seq fun K19 hK19 => ?_
    refine Wc.region (by decide +kernel) ?_
    refine lex.pure (v := .pointer (some ((⟨g3, 0, none⟩ : Addr).add 1))) (pu_field (sz := 1) Try.underlying24 rfl Try.sizeOf22 (by decide) rfl rfl) ?_
    refine lex.val (v := .slice Ab_0_1 b_0_1.length cb_0_1) (ld_fld (hC.bx (i := 1) rfl) Try.isAgg22 rfl rfl) ?_
    refine lex.pure (v := .int .i64 (b_0_1.length : Int)) (pu_len (A := Ab_0_1) (n := b_0_1.length) (m := cb_0_1) Try.underlying22 rfl) ?_
    obtain ⟨u20, h21, hb⟩ := bd hb
    refine lex.op (hC.make0 (s := (.int .i64)) (n := (b_0_1.length : Int)) Try.underlying22 Try.type3 rfl rfl rfl rfl (pos_some h21).1 (pos_some h21).2 (by decide)) ?_
    rintro _ w26 ⟨A22, c23, rfl, hl24, hc25, hC, hF, hN⟩
    clear hF hN
    replace hC : Cx (fun _ => False) O0 w w26 ([.own 3 (.int .i64) (.slice A22 ((([] : List Int)).length) c23) ([] : List Int), .box g6 24 [.int .i64 0, .slice none 0 0], .box g3 24 [.int .i64 b_0_0, .slice Ab_0_1 b_0_1.length cb_0_1], .ro (.sl (.int .i64)) [.slice Ab_0_1 b_0_1.length cb_0_1] b_0_1] ++ marksF ([] : List Nat)) := hC
    refine lex.op (hC.alloc (cs := [.slice none 0 0]) Try.zeroValue22 rfl) ?_
    rintro _ w29 ⟨g28, rfl, hC, hF, hG⟩
    clear hG
    replace hC : Cx (fun _ => False) O0 w w29 ([.box g28 22 [.slice none 0 0], .own 3 (.int .i64) (.slice A22 ((([] : List Int)).length) c23) ([] : List Int), .box g6 24 [.int .i64 0, .slice none 0 0], .box g3 24 [.int .i64 b_0_0, .slice Ab_0_1 b_0_1.length cb_0_1], .ro (.sl (.int .i64)) [.slice Ab_0_1 b_0_1.length cb_0_1] b_0_1] ++ marksF ([] : List Nat)) := hC
    refine lex.sk (hC.setf (i := 0) (k := 0) (v := .slice A22 ((([] : List Int)).length) c23) rfl Try.sizeOf22 rfl (by rw [Addr.add_zero']; exact rfl) rfl rfl) ?_
    rintro w31 ⟨hC, hF⟩
    refine lex.nil ?_
    refine hK19 _ _ ?_
    refine Wc.fresh fun E32 hE => ?_
    have e1 : E32 1 = .pointer (some ⟨g3, 0, none⟩) := (congrFun hE 1).trans rfl
    have e2 : E32 2 = .pointer (some ⟨g6, 0, none⟩) := (congrFun hE 2).trans rfl
    have e3 : E32 3 = .pointer (some ⟨g28, 0, none⟩) := (congrFun hE 3).trans rfl
    clear hE
    refine Wc.seq fun K33 hK33 => ?_
    refine Wc.seq fun K34 hK34 => ?_
    refine Wc.region (by decide +kernel) ?_
    replace hC : Cx (fun _ => False) O0 w w31 ([.box g28 22 [.slice A22 ((([] : List Int)).length) c23], .own 3 (.int .i64) (.slice A22 ((([] : List Int)).length) c23) ([] : List Int), .box g6 24 [.int .i64 0, .slice none 0 0], .box g3 24 [.int .i64 b_0_0, .slice Ab_0_1 b_0_1.length cb_0_1], .ro (.sl (.int .i64)) [.slice Ab_0_1 b_0_1.length cb_0_1] b_0_1] ++ marksF ([] : List Nat)) := hC
    refine lex.pure (v := .pointer (some ((⟨g3, 0, none⟩ : Addr).add 1))) (pu_field (sz := 1) Try.underlying24 rfl Try.sizeOf22 (by decide) rfl e1) ?_
    refine lex.val (v := .slice Ab_0_1 b_0_1.length cb_0_1) (ld_fld (hC.bx (i := 3) rfl) Try.isAgg22 rfl rfl) ?_
    refine lex.cl (⟨_, _, op_call (vs := [.slice Ab_0_1 b_0_1.length cb_0_1]) Try.call58 rfl rfl rfl, slices_Backward_Lint_int_ok (m := b_0_1.length) hC.lt⟩) ?_
    rintro _ w37 ⟨g35, rfl, hK⟩
    replace hC := hC.merge hK
    clear hK
    refine lex.nil ?_
    refine hK34 _ _ ?_
    replace hC : Cx (fun _ => False) O0 w w37 ([.box g35 22 [.slice Ab_0_1 b_0_1.length cb_0_1], .box g28 22 [.slice A22 ((([] : List Int)).length) c23], .own 3 (.int .i64) (.slice A22 ((([] : List Int)).length) c23) ([] : List Int), .box g6 24 [.int .i64 0, .slice none 0 0], .box g3 24 [.int .i64 b_0_0, .slice Ab_0_1 b_0_1.length cb_0_1], .ro (.sl (.int .i64)) [.slice Ab_0_1 b_0_1.length cb_0_1] b_0_1] ++ marksF ([] : List Nat)) := hC
    obtain ⟨o38, hl0, hb⟩ := bd hb
    refine Wc.cut (fun E wv => ∃ (ms_0 : List Nat) (kf30_0_0 : List Int) (Akf30_0_0 : Option Addr) (mkf30_0_0 ckf30_0_0 : Nat), E 1 = .pointer (some ⟨g3, 0, none⟩) ∧ E 2 = .pointer (some ⟨g6, 0, none⟩) ∧ E 3 = .pointer (some ⟨g28, 0, none⟩) ∧ E.ms = ms_0 ∧ Cx (fun _ => False) O0 w wv ([.box g3 24 [.int .i64 b_0_0, .slice Ab_0_1 b_0_1.length cb_0_1], .ro (.sl (.int .i64)) [.slice Ab_0_1 b_0_1.length cb_0_1] b_0_1, .box g6 24 [.int .i64 0, .slice none 0 0], .box g28 22 [.slice Akf30_0_0 mkf30_0_0 ckf30_0_0], .own 3 (.int .i64) (.slice Akf30_0_0 mkf30_0_0 ckf30_0_0) kf30_0_0] ++ marksF ms_0) ∧ (some (b_0_0, kf30_0_0) : Option (Int × (List Int))) = some r) (fun K39 hK39 => ?_) ?_
    · refine Wc.block ?_
      replace hC := hC.selT [4, 5, 3, 1, 2, 0] (by decide)
      replace hC : Cx (fun _ => False) O0 w w37 ([.box g3 24 [.int .i64 b_0_0, .slice Ab_0_1 b_0_1.length cb_0_1], .ro (.sl (.int .i64)) [.slice Ab_0_1 b_0_1.length cb_0_1] b_0_1, .box g6 24 [.int .i64 0, .slice none 0 0], .box g28 22 [.slice A22 ((([] : List Int)).length) c23], .own 3 (.int .i64) (.slice A22 ((([] : List Int)).length) c23) ([] : List Int), .box g35 22 [.slice Ab_0_1 b_0_1.length cb_0_1]] ++ marksF ([] : List Nat)) := hC
      refine Wc.range (fun kk L => ∃ (m : Nat) (kf30_0_0 : List Int) (Akf30_0_0 : Option Addr) (mkf30_0_0 ckf30_0_0 : Nat), L = ([.box g3 24 [.int .i64 b_0_0, .slice Ab_0_1 b_0_1.length cb_0_1], .ro (.sl (.int .i64)) [.slice Ab_0_1 b_0_1.length cb_0_1] b_0_1, .box g6 24 [.int .i64 0, .slice none 0 0], .box g28 22 [.slice Akf30_0_0 mkf30_0_0 ckf30_0_0], .own 3 (.int .i64) (.slice Akf30_0_0 mkf30_0_0 ckf30_0_0) kf30_0_0, .box g35 22 [.slice Ab_0_1 b_0_1.length cb_0_1]] ++ marksF ([] : List Nat)) ∧ loopN m (F.braid_Inverse_b0 n b_0_1) (kk, kf30_0_0) = some o38) (fun _ => False) ([] : List Nat) (fun id L => ∃ (kf30_0_0 : List Int) (Akf30_0_0 : Option Addr) (mkf30_0_0 ckf30_0_0 : Nat), L = ([.box g3 24 [.int .i64 b_0_0, .slice Ab_0_1 b_0_1.length cb_0_1], .ro (.sl (.int .i64)) [.slice Ab_0_1 b_0_1.length cb_0_1] b_0_1, .box g6 24 [.int .i64 0, .slice none 0 0], .box g28 22 [.slice Akf30_0_0 mkf30_0_0 ckf30_0_0], .own 3 (.int .i64) (.slice Akf30_0_0 mkf30_0_0 ckf30_0_0) kf30_0_0, .box g35 22 [.slice Ab_0_1 b_0_1.length cb_0_1]] ++ marksF ([] : List Nat)) ∧ o38 = kf30_0_0) rfl Try.call66 (slices_Backward_Lint_int_it (A := Ab_0_1) (c := cb_0_1) (xs := b_0_1)) (fun _ => rfl) (by simp) (fun kk => [(17, .int .i64 ((b_0_1.length : Int) - 1 - (kk : Int))), (18, .int .i64 (b_0_1.getD (b_0_1.length - 1 - kk) 0))]) (fun kk => by simp) hC ⟨n, ([] : List Int), A22, (([] : List Int)).length, c23, rfl, hl0⟩ ?_ _ (fun l kk W => Wc.region (by decide +kernel) (lex.pure (v := .int .i64 (b_0_1.getD (b_0_1.length - 1 - kk) 0)) (pu_assign rfl) (lex.nil ⟨rfl, rfl⟩))) ?_ ?_ ?_ ?_
      · rintro k L W f1 f2 ⟨m, kf30_0_0, Akf30_0_0, mkf30_0_0, ckf30_0_0, rfl, hl0⟩ hC
        exact rdBackR hC (i := 7) (j := 3) rfl rfl
      · have hbK0 := hb
        clear hb hC hl0
        rintro k_0 l44 D45 oB46 oK47 L w41 hk ⟨m40, kf30_0_0, Akf30_0_0, mkf30_0_0, ckf30_0_0, rfl, hl0⟩ hC Kn Kr Kx hKn hKr hKx
        obtain ⟨m40', o43, rfl, hb, hl0⟩ := loopN_some hl0
        unfold F.braid_Inverse_b0 at hb
        replace hb := (cT (decide_eq_true hk)).symm.trans hb
        obtain ⟨x_0, hxx, hb⟩ := bd hb
        have hx_0 : I64 x_0 := by obtain ⟨_, _, _, _, hr⟩ := hC.elr (i := 3) rfl (rev_i hxx); exact i64w hr.2
        refine Wc.fresh fun E42 hE => ?_
        have e1 : E42 1 = .pointer (some ⟨g3, 0, none⟩) := (congrFun hE 1).trans e1
        have e2 : E42 2 = .pointer (some ⟨g6, 0, none⟩) := (congrFun hE 2).trans e2
        have e3 : E42 3 = .pointer (some ⟨g28, 0, none⟩) := (congrFun hE 3).trans e3
        have e16 : E42 16 = .func (.func 66) #[] #[.pointer (some ⟨g35, 0, none⟩)] := (congrFun hE 16).trans rfl
        have e18 : E42 18 = .int .i64 x_0 := (congrFun hE 18).trans (congrArg (Value.int .i64) (rev_x hxx))
        have e5 : E42 5 = .int .i64 x_0 := (congrFun hE 5).trans (congrArg (Value.int .i64) (rev_x hxx))
        clear hE
        obtain ⟨rfl, hlkf30_0_0, hckf30_0_0⟩ := (hC.ow (i := 6) rfl).sl_len
        refine Wc.block ?_
        refine Wc.region (by decide +kernel) ?_
        replace hC : Cx (fun _ => False) O0 w w41 ([.obj l44 oB46, .obj D45 oK47, .box g3 24 [.int .i64 b_0_0, .slice Ab_0_1 b_0_1.length cb_0_1], .ro (.sl (.int .i64)) [.slice Ab_0_1 b_0_1.length cb_0_1] b_0_1, .box g6 24 [.int .i64 0, .slice none 0 0], .box g28 22 [.slice Akf30_0_0 kf30_0_0.length ckf30_0_0], .own 3 (.int .i64) (.slice Akf30_0_0 kf30_0_0.length ckf30_0_0) kf30_0_0, .box g35 22 [.slice Ab_0_1 b_0_1.length cb_0_1]] ++ marksF ([] : List Nat)) := hC
        refine lex.val (v := .slice Akf30_0_0 kf30_0_0.length ckf30_0_0) (ld_one Try.isAgg22 e3 ((hC.bx (i := 5) rfl).cell (j := 0) rfl)) ?_
        refine lex.pure (v := .int .i64 x_0) (pu_move e5) ?_
        obtain ⟨z50, h51, hb⟩ := bd hb
        refine lex.pure (v := .int .i64 z50) (pu_negc (a := x_0) rfl h51) ?_
        refine lex.op (hC.lit (s := (.int .i64)) (vs := [.int .i64 z50]) (xs := [z50]) Try.underlying22 Try.type3 rfl rfl (Nat.le_of_ble_eq_true rfl) rfl rfl (by simp [Value.cells, Sh.n]) rfl (show Elems _ _ (.int .i64) ([.int .i64 z50] ++ ([])) ([z50] : List Int) from Elems.cons (⟨rfl, I64.wr (chk_rng h51)⟩) (Elems.nil _ _ _))) ?_
        rintro _ w56 ⟨A52, c53, rfl, hl54, hc55, hC, hF, hN⟩
        clear hF hN
        replace hC : Cx (fun _ => False) O0 w w56 ([.own 3 (.int .i64) (.slice A52 ((([z50] : List Int)).length) c53) ([z50] : List Int), .obj l44 oB46, .obj D45 oK47, .box g3 24 [.int .i64 b_0_0, .slice Ab_0_1 b_0_1.length cb_0_1], .ro (.sl (.int .i64)) [.slice Ab_0_1 b_0_1.length cb_0_1] b_0_1, .box g6 24 [.int .i64 0, .slice none 0 0], .box g28 22 [.slice Akf30_0_0 kf30_0_0.length ckf30_0_0], .own 3 (.int .i64) (.slice Akf30_0_0 kf30_0_0.length ckf30_0_0) kf30_0_0, .box g35 22 [.slice Ab_0_1 b_0_1.length cb_0_1]] ++ marksF ([] : List Nat)) := hC
        obtain ⟨u58, h59, hb⟩ := bd hb
        refine lex.op (hC.app (i := 7) (s := (.int .i64)) (xs := kf30_0_0) (ys := ([z50] : List Int)) (m := ((([z50] : List Int)).length)) rfl Try.underlying22 Try.underlying22 Try.type3 rfl rfl rfl (hC.srco (i := 0) rfl) rfl rfl (by have := lim_some h59; simp at this ⊢ <;> omega) (by decide)) ?_
        rintro _ w64 ⟨A60, c61, rfl, hl62, hc63, hC, hF, hN⟩
        clear hF hN
        replace hC : Cx (fun _ => False) O0 w w64 ([.own 3 (.int .i64) (.slice A52 ((([z50] : List Int)).length) c53) ([z50] : List Int), .obj l44 oB46, .obj D45 oK47, .box g3 24 [.int .i64 b_0_0, .slice Ab_0_1 b_0_1.length cb_0_1], .ro (.sl (.int .i64)) [.slice Ab_0_1 b_0_1.length cb_0_1] b_0_1, .box g6 24 [.int .i64 0, .slice none 0 0], .box g28 22 [.slice Akf30_0_0 kf30_0_0.length ckf30_0_0], .own 3 (.int .i64) (.slice A60 ((kf30_0_0 ++ ([z50] : List Int)).length) c61) (kf30_0_0 ++ ([z50] : List Int)), .box g35 22 [.slice Ab_0_1 b_0_1.length cb_0_1]] ++ marksF ([] : List Nat)) := hC
        refine lex.sk (hC.setf (i := 6) (k := 0) (v := .slice A60 ((kf30_0_0 ++ ([z50] : List Int)).length) c61) rfl Try.sizeOf22 rfl (by rw [Addr.add_zero']; exact e3) rfl rfl) ?_
        rintro w65 ⟨hC, hF⟩
        refine lex.nil ?_
        obtain rfl := Option.some.inj hb
        replace hC : Cx (fun _ => False) O0 w w65 ([.own 3 (.int .i64) (.slice A52 ((([z50] : List Int)).length) c53) ([z50] : List Int), .obj l44 oB46, .obj D45 oK47, .box g3 24 [.int .i64 b_0_0, .slice Ab_0_1 b_0_1.length cb_0_1], .ro (.sl (.int .i64)) [.slice Ab_0_1 b_0_1.length cb_0_1] b_0_1, .box g6 24 [.int .i64 0, .slice none 0 0], .box g28 22 [.slice A60 ((kf30_0_0 ++ ([z50] : List Int)).length) c61], .own 3 (.int .i64) (.slice A60 ((kf30_0_0 ++ ([z50] : List Int)).length) c61) (kf30_0_0 ++ ([z50] : List Int)), .box g35 22 [.slice Ab_0_1 b_0_1.length cb_0_1]] ++ marksF ([] : List Nat)) := hC
        exact hKn _ _ _ ⟨m40', (kf30_0_0 ++ ([z50] : List Int)), A60, (kf30_0_0 ++ ([z50] : List Int)).length, c61, rfl, lN hl0⟩ (hC.selT [1, 2, 3, 4, 5, 6, 7, 8] (by decide))
      · rintro D_0 L wv ⟨m, kf30_0_0, Akf30_0_0, mkf30_0_0, ckf30_0_0, rfl, hl0⟩ hC
        obtain ⟨m', o2, rfl, hb2, hl2⟩ := loopN_some hl0
        unfold F.braid_Inverse_b0 at hb2
        replace hb2 := (cF (decide_eq_false (Nat.lt_irrefl _))).symm.trans hb2
        obtain rfl := Option.some.inj hb2
        obtain rfl := (lX hl2).symm
        replace hC := hC.markIn
        obtain ⟨rfl, hlkf30_0_0, hckf30_0_0⟩ := (hC.ow (i := 4) rfl).sl_len
        replace hC : Cx (fun _ => False) O0 w wv ([.box g3 24 [.int .i64 b_0_0, .slice Ab_0_1 b_0_1.length cb_0_1], .ro (.sl (.int .i64)) [.slice Ab_0_1 b_0_1.length cb_0_1] b_0_1, .box g6 24 [.int .i64 0, .slice none 0 0], .box g28 22 [.slice Akf30_0_0 kf30_0_0.length ckf30_0_0], .own 3 (.int .i64) (.slice Akf30_0_0 kf30_0_0.length ckf30_0_0) kf30_0_0, .box g35 22 [.slice Ab_0_1 b_0_1.length cb_0_1]] ++ marksF (D_0 :: ([] : List Nat))) := hC
        exact hK39 _ _ ⟨(D_0 :: ([] : List Nat)), kf30_0_0, Akf30_0_0, kf30_0_0.length, ckf30_0_0, e1, e2, e3, rfl, hC.selT [0, 1, 2, 3, 4] (by decide), hb⟩
      · exact fun _ _ _ h => h.elim
      · exact fun _ _ _ _ h => absurd h List.not_mem_nil
    · clear hb hC hl0
      rintro E67 w66 ⟨ms_0, kf30_0_0, Akf30_0_0, mkf30_0_0, ckf30_0_0, e1, e2, e3, hms, hC, hb⟩
      obtain ⟨rfl, hlkf30_0_0, hckf30_0_0⟩ := (hC.ow (i := 4) rfl).sl_len
      refine hK33 _ _ ?_
      refine Wc.seq fun K68 hK68 => ?_
      refine Wc.region (by decide +kernel) ?_
      replace hC : Cx (fun _ => False) O0 w w66 ([.box g3 24 [.int .i64 b_0_0, .slice Ab_0_1 b_0_1.length cb_0_1], .ro (.sl (.int .i64)) [.slice Ab_0_1 b_0_1.length cb_0_1] b_0_1, .box g6 24 [.int .i64 0, .slice none 0 0], .box g28 22 [.slice Akf30_0_0 kf30_0_0.length ckf30_0_0], .own 3 (.int .i64) (.slice Akf30_0_0 kf30_0_0.length ckf30_0_0) kf30_0_0] ++ marksF ms_0) := hC
      refine lex.pure (v := .pointer (some ((⟨g3, 0, none⟩ : Addr).add 0))) (pu_field (sz := 1) Try.underlying24 rfl Try.sizeOf3 (by decide) rfl e1) ?_
      refine lex.val (v := .int .i64 b_0_0) (ld_fld (hC.bx (i := 0) rfl) Try.isAgg3 rfl rfl) ?_
      refine lex.val (v := .slice Akf30_0_0 kf30_0_0.length ckf30_0_0) (ld_one Try.isAgg22 e3 ((hC.bx (i := 3) rfl).cell (j := 0) rfl)) ?_
      refine lex.pure (v := .agg #[.int .i64 b_0_0, .slice Akf30_0_0 kf30_0_0.length ckf30_0_0]) (pu_builds (places := [(0, 1), (1, 1)]) (pv := [(0, .int .i64 b_0_0), (1, .slice Akf30_0_0 kf30_0_0.length ckf30_0_0)]) Try.type24 Try.underlying24 rfl (mp_cons Try.type3 (mp_cons Try.type22 mp_nil rfl rfl) rfl rfl) rfl (by simp [Instr.fill, Value.cells])) ?_
      refine lex.sk (hC.seta (i := 2) (ds := [.int .i64 b_0_0, .slice Akf30_0_0 kf30_0_0.length ckf30_0_0]) rfl Try.type24 rfl rfl rfl e2 rfl) ?_
      rintro w69 ⟨hC, hF⟩
      refine lex.nil ?_
      refine hK68 _ _ ?_
      replace hC : Cx (fun _ => False) O0 w w69 ([.box g3 24 [.int .i64 b_0_0, .slice Ab_0_1 b_0_1.length cb_0_1], .ro (.sl (.int .i64)) [.slice Ab_0_1 b_0_1.length cb_0_1] b_0_1, .box g6 24 [.int .i64 b_0_0, .slice Akf30_0_0 kf30_0_0.length ckf30_0_0], .box g28 22 [.slice Akf30_0_0 kf30_0_0.length ckf30_0_0], .own 3 (.int .i64) (.slice Akf30_0_0 kf30_0_0.length ckf30_0_0) kf30_0_0] ++ marksF ms_0) := hC
      obtain rfl := Option.some.inj hb
      refine Wc.ret ?_
      replace hC : Cx (fun _ => False) O0 w w69 (marksF ms_0 ++ [.box g3 24 [.int .i64 b_0_0, .slice Ab_0_1 b_0_1.length cb_0_1], .ro (.sl (.int .i64)) [.slice Ab_0_1 b_0_1.length cb_0_1] b_0_1, .box g6 24 [.int .i64 b_0_0, .slice Akf30_0_0 kf30_0_0.length ckf30_0_0], .box g28 22 [.slice Akf30_0_0 kf30_0_0.length ckf30_0_0], .own 3 (.int .i64) (.slice Akf30_0_0 kf30_0_0.length ckf30_0_0) kf30_0_0]) := hC.perm List.perm_append_comm
      refine hKR _ _ _ _ _ _ _ hms hC fun w70 hC => ?_
      refine ⟨_, res1 Try.results37 ⟨_, e2, loadVar_blk (hC.bx (i := 2) rfl) Try.isAgg24 Try.sizeOf24⟩, _, rfl, Akf30_0_0, kf30_0_0.length, ckf30_0_0, rfl, hb_0_0, hC.sel [4] (by decide)⟩
end Go.Proofs.Ytkeaonceaaafcaa
