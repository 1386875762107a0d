/- The walks: part 15. -/
import Derived.Test.YtkjpldmelafooaaS
import Derived.Test.YtkjpldmelafooaaG0
import Derived.Test.YtkjpldmelafooaaG2
set_option linter.unusedVariables false
set_option linter.unusedSimpArgs false
namespace Go.Proofs.Ytkjpldmelafooaa
open Ev
set_option maxRecDepth 100000 in
set_option maxHeartbeats 4000000 in
theorem slices_Backward_Lint_int_it {gb : Nat} {A : Option Addr} {c : Nat} {xs : List Int} : IterOk Try.prog 61 #[.pointer (some ⟨gb, 0, none⟩)] xs.length (fun k => #[.int .i64 ((xs.length : Int) - 1 - (k : Int)), .int .i64 (xs.getD (xs.length - 1 - k) 0)]) (RdBack gb 22 A c xs) := by
  intro l A' B W hrd hround hA0
  refine calls_of_Wc Try.func61 rfl (by rw [Try.ntmps61]; exact Nat.le_of_ble_eq_true rfl) fun KR hKR => ?_
  have fin : ∀ E w, (A' xs.length w ∨ B w) → KR E w := fun E w h => hKR _ _ ⟨_, res0 Try.results61, ⟨_, rfl⟩, h⟩
  refine Wc.seq fun K1 hK1 => ?_
  refine Wc.region (by decide +kernel) ?_
  obtain ⟨hb, hl, hx⟩ := hrd 0 W hA0
  refine lex.val (v := .slice A xs.length c) (ld_one Try.isAgg22 rfl (hb.cell (j := 0) rfl)) ?_
  refine lex.pure (v := .int .i64 (xs.length : Int)) (pu_len (A := A) (n := xs.length) (m := c) Try.underlying22 rfl) ?_
  refine lex.pure (v := .int .i64 ((xs.length : Int) - 1)) (pu_sub (a := (xs.length : Int)) (b := 1) rfl rfl (by unfold I64; omega)) ?_
  refine lex.pure (v := .int .i64 ((xs.length : Int) - 1)) (pu_assign rfl) ?_
  refine lex.nil ?_
  refine hK1 _ _ ?_
  refine Wc.block ?_
  refine Wc.loop (fun m E wv => ∃ k : Nat, m = xs.length - k ∧ k ≤ xs.length ∧ E 0 = .func (.yield l) #[] #[] ∧ E 1 = .pointer (some ⟨gb, 0, none⟩) ∧ E 3 = .int .i64 ((xs.length : Int) - 1 - (k : Int)) ∧ A' k wv) xs.length ⟨0, by omega, by omega, rfl, rfl, by rw [show (xs.length : Int) - 1 - ((0 : Nat) : Int) = (xs.length : Int) - 1 by omega]; rfl, hA0⟩ ?_
  clear hb hx hA0
  rintro m E1 w1 ⟨k, rfl, hk, e0, e1, e3, hA⟩ K hK
  obtain ⟨hb, _, hx⟩ := hrd k w1 hA
  refine Wc.seq fun K2 hK2 => ?_
  refine Wc.seq fun K3 hK3 => ?_
  refine Wc.region (by decide +kernel) ?_
  refine lex.pure (v := .int .i64 ((xs.length : Int) - 1 - (k : Int))) (pu_move e3) ?_
  refine lex.pure (v := .bool (decide (0 ≤ (xs.length : Int) - 1 - (k : Int)))) (pu_geq (k := .i64) (a := (xs.length : Int) - 1 - (k : Int)) (b := 0) rfl rfl) ?_
  refine lex.nil ?_
  refine hK3 _ _ ?_
  refine Wc.cond (t := decide (0 ≤ (xs.length : Int) - 1 - (k : Int))) rfl (fun hq => ?_) (fun hq => ?_)
  · refine Wc.skip ?_
    refine hK2 _ _ ?_
    have hkl : k < xs.length := by have := of_decide_eq_true hq; omega
    have hi : xs[xs.length - 1 - k]? = some (xs.getD (xs.length - 1 - k) 0) := by
      rw [List.getD_eq_getElem?_getD, List.getElem?_eq_getElem (by omega)]; rfl
    obtain ⟨ad, hA1, hcell⟩ := hx _ _ hi
    subst hA1
    refine Wc.seq fun K4 hK4 => ?_
    refine Wc.block ?_
    refine Wc.seq fun K5 hK5 => ?_
    refine Wc.region (by decide +kernel) ?_
    refine lex.pure (v := .func (.yield l) #[] #[]) (pu_move e0) ?_
    refine lex.pure (v := .int .i64 ((xs.length : Int) - 1 - (k : Int))) (pu_move e3) ?_
    refine lex.val (v := .slice (some ad) xs.length c) (ld_one Try.isAgg22 e1 (hb.cell (j := 0) rfl)) ?_
    refine lex.pure (v := .int .i64 ((xs.length : Int) - 1 - (k : Int))) (pu_move e3) ?_
    refine lex.pure (v := .pointer (some (ad.add (((xs.length : Int) - 1 - (k : Int)).toNat * 1)))) (pu_index (a := (xs.length : Int) - 1 - (k : Int)) Try.underlying22 Try.sizeOf3 rfl rfl (by omega)) ?_
    refine lex.val (v := .int .i64 (xs.getD (xs.length - 1 - k) 0)) (ld_one Try.isAgg3 rfl (by rw [show ((xs.length : Int) - 1 - (k : Int)).toNat * 1 = xs.length - 1 - k by omega]; exact hcell)) ?_
    obtain ⟨fn, tmps, assign, body, hy, hR⟩ := hround k w1 hkl hA
    refine lex.yield (op_yield (vs := [.int .i64 ((xs.length : Int) - 1 - (k : Int)), .int .i64 (xs.getD (xs.length - 1 - k) 0)]) rfl rfl rfl hy) hR ?_
    rintro e w2 (⟨rfl, hA2⟩ | ⟨rfl, hB⟩)
    · refine ⟨_, rfl, ?_⟩
      refine lex.pure (v := .bool (!true)) (pu_not rfl) ?_
      refine lex.nil ?_
      refine hK5 _ _ ?_
      refine Wc.cond_false rfl ?_
      refine Wc.skip ?_
      refine hK4 _ _ ?_
      refine Wc.region (by decide +kernel) ?_
      refine lex.pure (v := .int .i64 ((xs.length : Int) - 1 - (k : Int))) (pu_move e3) ?_
      refine lex.pure (v := .int .i64 ((xs.length : Int) - 1 - (k : Int) - 1)) (pu_sub (a := (xs.length : Int) - 1 - (k : Int)) (b := 1) rfl rfl (by unfold I64; omega)) ?_
      refine lex.pure (v := .int .i64 ((xs.length : Int) - 1 - (k : Int) - 1)) (pu_assign rfl) ?_
      refine lex.nil ?_
      exact hK (xs.length - (k + 1)) _ _ (by omega) ⟨k + 1, rfl, by omega, e0, e1, by rw [show (xs.length : Int) - 1 - ((k + 1 : Nat) : Int) = (xs.length : Int) - 1 - (k : Int) - 1 by omega]; rfl, hA2⟩
    · refine ⟨_, rfl, ?_⟩
      refine lex.pure (v := .bool (!false)) (pu_not rfl) ?_
      refine lex.nil ?_
      refine hK5 _ _ ?_
      refine Wc.cond_true rfl ?_
      refine Wc.ret ?_
      exact fin _ _ (.inr hB)
  · refine Wc.exit rfl ?_
    have : k = xs.length := by have := of_decide_eq_false hq; omega
    subst this
    exact fin _ _ (.inl hA)
set_option maxRecDepth 100000 in
set_option maxHeartbeats 4000000 in
theorem slices_Backward_Lint_int_ok {w : World} {O0 : List Nat} {A : Option Addr} {m c : Nat} (hO : ∀ k ∈ O0, k < w.heap.size) : Calls Try.prog 40 #[.slice A m c] w fun e w' => ∃ v, e = .returned v ∧ ∃ gb, v = .func (.func 61) #[] #[.pointer (some ⟨gb, 0, none⟩)] ∧ Cx (fun _ => False) O0 w w' [.box gb 22 [.slice A m c]] := by
  have hC := Cx.start hO
  refine calls_of_Wc Try.func40 rfl (by rw [Try.ntmps40]; exact Nat.le_of_ble_eq_true rfl) fun KR hKR => ?_
  refine Wc.seq fun K1 hK1 => ?_
  refine Wc.region (by decide +kernel) ?_
  refine lex.op (hC.box (cs := [.slice A m c]) rfl rfl) ?_
  rintro _ w2 ⟨g1, rfl, hC, hF, hG⟩
  refine lex.pure (v := .nilFunc) (pu_assign rfl) ?_
  refine lex.nil ?_
  refine hK1 _ _ ?_
  refine Wc.seq fun K2 hK2 => ?_
  refine Wc.region (by decide +kernel) ?_
  refine lex.pure (v := .func (.func 61) #[] #[.pointer (some ⟨g1, 0, none⟩)]) (pu_funcc (l := [.pointer (some ⟨g1, 0, none⟩)]) rfl) ?_
  refine lex.pure (v := .func (.func 61) #[] #[.pointer (some ⟨g1, 0, none⟩)]) (pu_assign rfl) ?_
  refine lex.nil ?_
  refine hK2 _ _ ?_
  refine Wc.ret ?_
  refine hKR _ _ ?_
  exact ⟨_, res1 Try.results40 (show RV _ _ _ (.tmp _) (.func (.func 61) #[] #[.pointer (some ⟨g1, 0, none⟩)]) from rfl), _, rfl, g1, rfl, hC⟩

set_option maxRecDepth 100000 in
set_option maxHeartbeats 4000000 in
theorem braid_Inverse_ok (n : Nat) {w : World} {O0 : List Nat} (hO : ∀ k ∈ O0, k < w.heap.size) {b_0_0 : Int} (hb_0_0 : I64 b_0_0) {Ab_0_1 : Option Addr} {mb_0_1 cb_0_1 : Nat} {b_0_1 : List Int} (hb_0_1 : Rep O0 w (.sl (.int .i64)) [.slice Ab_0_1 mb_0_1 cb_0_1] b_0_1) {r : Int × (List Int)} (hb : F.braid_Inverse n b_0_0 b_0_1 = some r) :
    Calls Try.prog 25 #[.agg #[.int .i64 b_0_0, .slice Ab_0_1 mb_0_1 cb_0_1]] w fun e w' => ∃ v, e = .returned v ∧ ∃ (A1 : Option Addr) (m1 c1 : Nat), v = .agg #[.int .i64 r.1, .slice A1 m1 c1] ∧ I64 r.1 ∧ Cx (fun _ => False) O0 w w' [.own 3 (.int .i64) (.slice A1 m1 c1) r.2] := by
  unfold F.braid_Inverse at hb
  have hC := Cx.start hO
  replace hC := hC.arg rfl hb_0_1
  clear hO
  obtain ⟨rfl, hlb_0_1, hcb_0_1⟩ := hb_0_1.sl_len
  replace hC : Cx (fun _ => False) O0 w w ([.ro (.sl (.int .i64)) [.slice Ab_0_1 b_0_1.length cb_0_1] b_0_1] ++ marksF ([] : List Nat)) := hC
  refine calls_of_WcM Try.func25 rfl (by rw [Try.ntmps25]; exact Nat.le_of_ble_eq_true rfl) fun KR hKR => ?_
  refine Wc.seq fun K2 hK2 => ?_
  refine Wc.region (by decide +kernel) ?_
  replace hC : Cx (fun _ => False) O0 w w ([.ro (.sl (.int .i64)) [.slice Ab_0_1 b_0_1.length cb_0_1] b_0_1] ++ marksF ([] : List Nat)) := hC
  refine lex.op (hC.box (cs := [.int .i64 b_0_0, .slice Ab_0_1 b_0_1.length cb_0_1]) rfl rfl) ?_
  rintro _ w4 ⟨g3, rfl, hC, hF, hG⟩
  clear hG
  replace hC : Cx (fun _ => False) O0 w w4 ([.box g3 27 [.int .i64 b_0_0, .slice Ab_0_1 b_0_1.length cb_0_1], .ro (.sl (.int .i64)) [.slice Ab_0_1 b_0_1.length cb_0_1] b_0_1] ++ marksF ([] : List Nat)) := hC
  refine lex.op (hC.alloc (cs := [.int .i64 0, .slice none 0 0]) Try.zeroValue27 rfl) ?_
  rintro _ w7 ⟨g6, rfl, hC, hF, hG⟩
  clear hG
  refine lex.nil ?_
  refine hK2 _ _ ?_
  refine Wc.seq fun K9 hK9 => ?_
  refine Wc.seq fun K10 hK10 => ?_
  refine Wc.region (by decide +kernel) ?_
  replace hC : Cx (fun _ => False) O0 w w7 ([.box g6 27 [.int .i64 0, .slice none 0 0], .box g3 27 [.int .i64 b_0_0, .slice Ab_0_1 b_0_1.length cb_0_1], .ro (.sl (.int .i64)) [.slice Ab_0_1 b_0_1.length cb_0_1] b_0_1] ++ marksF ([] : List Nat)) := hC
  refine lex.val (v := .agg #[.int .i64 b_0_0, .slice Ab_0_1 b_0_1.length cb_0_1]) (ld_blk (hC.bx (i := 1) rfl) Try.isAgg27 Try.sizeOf27 rfl) ?_
  obtain ⟨y11, h12, hb⟩ := bd hb
  refine lex.cl (⟨_, _, op_call (vs := [.agg #[.int .i64 b_0_0, .slice Ab_0_1 b_0_1.length cb_0_1]]) Try.call15 rfl rfl rfl, braid_Valid_ok n hC.lt hb_0_0 (hC.rd (i := 2) rfl) h12⟩) ?_
  rintro _ w13 ⟨rfl, hK⟩
  replace hC := hC.merge hK
  clear hK
  replace hC : Cx (fun _ => False) O0 w w13 ([.box g6 27 [.int .i64 0, .slice none 0 0], .box g3 27 [.int .i64 b_0_0, .slice Ab_0_1 b_0_1.length cb_0_1], .ro (.sl (.int .i64)) [.slice Ab_0_1 b_0_1.length cb_0_1] b_0_1] ++ marksF ([] : List Nat)) := hC
  refine lex.pure (v := .bool (!y11)) (pu_not (q := y11) rfl) ?_
  refine lex.nil ?_
  refine hK10 _ _ ?_
  refine Wc.cond (t := (!y11)) (rfl) (fun hq14 => ?_) (fun hq14 => ?_)
  · replace hb := (cT hq14).symm.trans hb
    refine Wc.seq fun K15 hK15 => ?_
    refine Wc.region (by decide +kernel) ?_
    refine lex.pure (v := .agg #[.int .i64 0, .slice none 0 0]) (pu_builds (places := [(0, 1), (1, 1)]) (pv := []) Try.type27 Try.underlying27 rfl (mp_cons Try.type3 (mp_cons Try.type22 mp_nil rfl rfl) rfl rfl) rfl (by simp [Instr.fill, Value.cells])) ?_
    refine lex.sk (hC.seta (i := 0) (ds := [.int .i64 0, .slice none 0 0]) rfl Try.type27 rfl rfl rfl rfl rfl) ?_
    rintro w16 ⟨hC, hF⟩
    refine lex.nil ?_
    refine hK15 _ _ ?_
    replace hC := hC.nil 3 (.int .i64)
    replace hC : Cx (fun _ => False) O0 w w16 ([.own 3 (.int .i64) (.slice none 0 0) ([] : List Int), .box g6 27 [.int .i64 0, .slice none 0 0], .box g3 27 [.int .i64 b_0_0, .slice Ab_0_1 b_0_1.length cb_0_1], .ro (.sl (.int .i64)) [.slice Ab_0_1 b_0_1.length cb_0_1] b_0_1] ++ marksF ([] : List Nat)) := hC
    obtain rfl := Option.some.inj hb
    refine Wc.ret ?_
    replace hC : Cx (fun _ => False) O0 w w16 (marksF ([] : List Nat) ++ [.own 3 (.int .i64) (.slice none 0 0) ([] : List Int), .box g6 27 [.int .i64 0, .slice none 0 0], .box g3 27 [.int .i64 b_0_0, .slice Ab_0_1 b_0_1.length cb_0_1], .ro (.sl (.int .i64)) [.slice Ab_0_1 b_0_1.length cb_0_1] b_0_1]) := hC.perm List.perm_append_comm
    refine hKR _ _ _ _ _ _ _ rfl hC fun w18 hC => ?_
    refine ⟨_, res1 Try.results25 ⟨_, rfl, loadVar_blk (hC.bx (i := 1) rfl) Try.isAgg27 Try.sizeOf27⟩, _, rfl, none, 0, 0, rfl, (show I64 0 from by unfold I64; omega), hC.sel [0] (by decide)⟩
  · replace hb := (cF hq14).symm.trans hb
    refine Wc.skip ?_
    refine hK9 _ _ ?_
    refine Wc.seq fun K19 hK19 => ?_
    refine Wc.region (by decide +kernel) ?_
    refine lex.pure (v := .pointer (some ((⟨g3, 0, none⟩ : Addr).add 1))) (pu_field (sz := 1) Try.underlying27 rfl Try.sizeOf22 (by decide) rfl rfl) ?_
    refine lex.val (v := .slice Ab_0_1 b_0_1.length cb_0_1) (ld_fld (hC.bx (i := 1) rfl) Try.isAgg22 rfl rfl) ?_
    refine lex.pure (v := .int .i64 (b_0_1.length : Int)) (pu_len (A := Ab_0_1) (n := b_0_1.length) (m := cb_0_1) Try.underlying22 rfl) ?_
    obtain ⟨u20, h21, hb⟩ := bd hb
    refine lex.op (hC.make0 (s := (.int .i64)) (n := (b_0_1.length : Int)) Try.underlying22 Try.type3 rfl rfl rfl rfl (pos_some h21).1 (pos_some h21).2 (by decide)) ?_
    rintro _ w26 ⟨A22, c23, rfl, hl24, hc25, hC, hF, hN⟩
    clear hF hN
    replace hC : Cx (fun _ => False) O0 w w26 ([.own 3 (.int .i64) (.slice A22 ((([] : List Int)).length) c23) ([] : List Int), .box g6 27 [.int .i64 0, .slice none 0 0], .box g3 27 [.int .i64 b_0_0, .slice Ab_0_1 b_0_1.length cb_0_1], .ro (.sl (.int .i64)) [.slice Ab_0_1 b_0_1.length cb_0_1] b_0_1] ++ marksF ([] : List Nat)) := hC
    refine lex.op (hC.alloc (cs := [.slice none 0 0]) Try.zeroValue22 rfl) ?_
    rintro _ w29 ⟨g28, rfl, hC, hF, hG⟩
    clear hG
    replace hC : Cx (fun _ => False) O0 w w29 ([.box g28 22 [.slice none 0 0], .own 3 (.int .i64) (.slice A22 ((([] : List Int)).length) c23) ([] : List Int), .box g6 27 [.int .i64 0, .slice none 0 0], .box g3 27 [.int .i64 b_0_0, .slice Ab_0_1 b_0_1.length cb_0_1], .ro (.sl (.int .i64)) [.slice Ab_0_1 b_0_1.length cb_0_1] b_0_1] ++ marksF ([] : List Nat)) := hC
    refine lex.sk (hC.setf (i := 0) (k := 0) (v := .slice A22 ((([] : List Int)).length) c23) rfl Try.sizeOf22 rfl (by rw [Addr.add_zero']; exact rfl) rfl rfl) ?_
    rintro w31 ⟨hC, hF⟩
    refine lex.nil ?_
    refine hK19 _ _ ?_
    refine Wc.fresh fun E32 hE => ?_
    have e1 : E32 1 = .pointer (some ⟨g3, 0, none⟩) := (congrFun hE 1).trans rfl
    have e2 : E32 2 = .pointer (some ⟨g6, 0, none⟩) := (congrFun hE 2).trans rfl
    have e3 : E32 3 = .pointer (some ⟨g28, 0, none⟩) := (congrFun hE 3).trans rfl
    clear hE
    refine Wc.seq fun K33 hK33 => ?_
    refine Wc.seq fun K34 hK34 => ?_
    refine Wc.region (by decide +kernel) ?_
    replace hC : Cx (fun _ => False) O0 w w31 ([.box g28 22 [.slice A22 ((([] : List Int)).length) c23], .own 3 (.int .i64) (.slice A22 ((([] : List Int)).length) c23) ([] : List Int), .box g6 27 [.int .i64 0, .slice none 0 0], .box g3 27 [.int .i64 b_0_0, .slice Ab_0_1 b_0_1.length cb_0_1], .ro (.sl (.int .i64)) [.slice Ab_0_1 b_0_1.length cb_0_1] b_0_1] ++ marksF ([] : List Nat)) := hC
    refine lex.pure (v := .pointer (some ((⟨g3, 0, none⟩ : Addr).add 1))) (pu_field (sz := 1) Try.underlying27 rfl Try.sizeOf22 (by decide) rfl e1) ?_
    refine lex.val (v := .slice Ab_0_1 b_0_1.length cb_0_1) (ld_fld (hC.bx (i := 3) rfl) Try.isAgg22 rfl rfl) ?_
    refine lex.cl (⟨_, _, op_call (vs := [.slice Ab_0_1 b_0_1.length cb_0_1]) Try.call40 rfl rfl rfl, slices_Backward_Lint_int_ok (m := b_0_1.length) hC.lt⟩) ?_
    rintro _ w37 ⟨g35, rfl, hK⟩
    replace hC := hC.merge hK
    clear hK
    refine lex.nil ?_
    refine hK34 _ _ ?_
    replace hC : Cx (fun _ => False) O0 w w37 ([.box g35 22 [.slice Ab_0_1 b_0_1.length cb_0_1], .box g28 22 [.slice A22 ((([] : List Int)).length) c23], .own 3 (.int .i64) (.slice A22 ((([] : List Int)).length) c23) ([] : List Int), .box g6 27 [.int .i64 0, .slice none 0 0], .box g3 27 [.int .i64 b_0_0, .slice Ab_0_1 b_0_1.length cb_0_1], .ro (.sl (.int .i64)) [.slice Ab_0_1 b_0_1.length cb_0_1] b_0_1] ++ marksF ([] : List Nat)) := hC
    obtain ⟨o38, hl0, hb⟩ := bd hb
    refine Wc.cut (fun E wv => ∃ (ms_0 : List Nat) (kf30_0_0 : List Int) (Akf30_0_0 : Option Addr) (mkf30_0_0 ckf30_0_0 : Nat), E 1 = .pointer (some ⟨g3, 0, none⟩) ∧ E 2 = .pointer (some ⟨g6, 0, none⟩) ∧ E 3 = .pointer (some ⟨g28, 0, none⟩) ∧ E.ms = ms_0 ∧ Cx (fun _ => False) O0 w wv ([.box g3 27 [.int .i64 b_0_0, .slice Ab_0_1 b_0_1.length cb_0_1], .ro (.sl (.int .i64)) [.slice Ab_0_1 b_0_1.length cb_0_1] b_0_1, .box g6 27 [.int .i64 0, .slice none 0 0], .box g28 22 [.slice Akf30_0_0 mkf30_0_0 ckf30_0_0], .own 3 (.int .i64) (.slice Akf30_0_0 mkf30_0_0 ckf30_0_0) kf30_0_0] ++ marksF ms_0) ∧ (some (b_0_0, kf30_0_0) : Option (Int × (List Int))) = some r) (fun K39 hK39 => ?_) ?_
    · refine Wc.block ?_
      replace hC := hC.selT [4, 5, 3, 1, 2, 0] (by decide)
      replace hC : Cx (fun _ => False) O0 w w37 ([.box g3 27 [.int .i64 b_0_0, .slice Ab_0_1 b_0_1.length cb_0_1], .ro (.sl (.int .i64)) [.slice Ab_0_1 b_0_1.length cb_0_1] b_0_1, .box g6 27 [.int .i64 0, .slice none 0 0], .box g28 22 [.slice A22 ((([] : List Int)).length) c23], .own 3 (.int .i64) (.slice A22 ((([] : List Int)).length) c23) ([] : List Int), .box g35 22 [.slice Ab_0_1 b_0_1.length cb_0_1]] ++ marksF ([] : List Nat)) := hC
      refine Wc.range (fun kk L => ∃ (m : Nat) (kf30_0_0 : List Int) (Akf30_0_0 : Option Addr) (mkf30_0_0 ckf30_0_0 : Nat), L = ([.box g3 27 [.int .i64 b_0_0, .slice Ab_0_1 b_0_1.length cb_0_1], .ro (.sl (.int .i64)) [.slice Ab_0_1 b_0_1.length cb_0_1] b_0_1, .box g6 27 [.int .i64 0, .slice none 0 0], .box g28 22 [.slice Akf30_0_0 mkf30_0_0 ckf30_0_0], .own 3 (.int .i64) (.slice Akf30_0_0 mkf30_0_0 ckf30_0_0) kf30_0_0, .box g35 22 [.slice Ab_0_1 b_0_1.length cb_0_1]] ++ marksF ([] : List Nat)) ∧ loopN m (F.braid_Inverse_b0 n b_0_1) (kk, kf30_0_0) = some o38) (fun _ => False) ([] : List Nat) (fun id L => ∃ (kf30_0_0 : List Int) (Akf30_0_0 : Option Addr) (mkf30_0_0 ckf30_0_0 : Nat), L = ([.box g3 27 [.int .i64 b_0_0, .slice Ab_0_1 b_0_1.length cb_0_1], .ro (.sl (.int .i64)) [.slice Ab_0_1 b_0_1.length cb_0_1] b_0_1, .box g6 27 [.int .i64 0, .slice none 0 0], .box g28 22 [.slice Akf30_0_0 mkf30_0_0 ckf30_0_0], .own 3 (.int .i64) (.slice Akf30_0_0 mkf30_0_0 ckf30_0_0) kf30_0_0, .box g35 22 [.slice Ab_0_1 b_0_1.length cb_0_1]] ++ marksF ([] : List Nat)) ∧ o38 = kf30_0_0) rfl Try.call61 (slices_Backward_Lint_int_it (A := Ab_0_1) (c := cb_0_1) (xs := b_0_1)) (fun _ => rfl) (by simp) (fun kk => [(17, .int .i64 ((b_0_1.length : Int) - 1 - (kk : Int))), (18, .int .i64 (b_0_1.getD (b_0_1.length - 1 - kk) 0))]) (fun kk => by simp) hC ⟨n, ([] : List Int), A22, (([] : List Int)).length, c23, rfl, hl0⟩ ?_ _ (fun l kk W => Wc.region (by decide +kernel) (lex.pure (v := .int .i64 (b_0_1.getD (b_0_1.length - 1 - kk) 0)) (pu_assign rfl) (lex.nil ⟨rfl, rfl⟩))) ?_ ?_ ?_ ?_
      · rintro k L W f1 f2 ⟨m, kf30_0_0, Akf30_0_0, mkf30_0_0, ckf30_0_0, rfl, hl0⟩ hC
        exact rdBackR hC (i := 7) (j := 3) rfl rfl
      · have hbK0 := hb
        clear hb hC hl0
        rintro k_0 l44 D45 oB46 oK47 L w41 hk ⟨m40, kf30_0_0, Akf30_0_0, mkf30_0_0, ckf30_0_0, rfl, hl0⟩ hC Kn Kr Kx hKn hKr hKx
        obtain ⟨m40', o43, rfl, hb, hl0⟩ := loopN_some hl0
        unfold F.braid_Inverse_b0 at hb
        replace hb := (cT (decide_eq_true hk)).symm.trans hb
        obtain ⟨x_0, hxx, hb⟩ := bd hb
        have hx_0 : I64 x_0 := by obtain ⟨_, _, _, _, hr⟩ := hC.elr (i := 3) rfl (rev_i hxx); exact i64w hr.2
        refine Wc.fresh fun E42 hE => ?_
        have e1 : E42 1 = .pointer (some ⟨g3, 0, none⟩) := (congrFun hE 1).trans e1
        have e2 : E42 2 = .pointer (some ⟨g6, 0, none⟩) := (congrFun hE 2).trans e2
        have e3 : E42 3 = .pointer (some ⟨g28, 0, none⟩) := (congrFun hE 3).trans e3
        have e16 : E42 16 = .func (.func 61) #[] #[.pointer (some ⟨g35, 0, none⟩)] := (congrFun hE 16).trans rfl
        have e18 : E42 18 = .int .i64 x_0 := (congrFun hE 18).trans (congrArg (Value.int .i64) (rev_x hxx))
        have e5 : E42 5 = .int .i64 x_0 := (congrFun hE 5).trans (congrArg (Value.int .i64) (rev_x hxx))
        clear hE
        obtain ⟨rfl, hlkf30_0_0, hckf30_0_0⟩ := (hC.ow (i := 6) rfl).sl_len
        refine Wc.block ?_
        refine Wc.region (by decide +kernel) ?_
        replace hC : Cx (fun _ => False) O0 w w41 ([.obj l44 oB46, .obj D45 oK47, .box g3 27 [.int .i64 b_0_0, .slice Ab_0_1 b_0_1.length cb_0_1], .ro (.sl (.int .i64)) [.slice Ab_0_1 b_0_1.length cb_0_1] b_0_1, .box g6 27 [.int .i64 0, .slice none 0 0], .box g28 22 [.slice Akf30_0_0 kf30_0_0.length ckf30_0_0], .own 3 (.int .i64) (.slice Akf30_0_0 kf30_0_0.length ckf30_0_0) kf30_0_0, .box g35 22 [.slice Ab_0_1 b_0_1.length cb_0_1]] ++ marksF ([] : List Nat)) := hC
        refine lex.val (v := .slice Akf30_0_0 kf30_0_0.length ckf30_0_0) (ld_one Try.isAgg22 e3 ((hC.bx (i := 5) rfl).cell (j := 0) rfl)) ?_
        refine lex.pure (v := .int .i64 x_0) (pu_move e5) ?_
        obtain ⟨z50, h51, hb⟩ := bd hb
        refine lex.pure (v := .int .i64 z50) (pu_negc (a := x_0) rfl h51) ?_
        refine lex.op (hC.lit (s := (.int .i64)) (vs := [.int .i64 z50]) (xs := [z50]) Try.underlying22 Try.type3 rfl rfl (Nat.le_of_ble_eq_true rfl) rfl rfl (by simp [Value.cells, Sh.n]) rfl (show Elems _ _ (.int .i64) ([.int .i64 z50] ++ ([])) ([z50] : List Int) from Elems.cons (⟨rfl, I64.wr (chk_rng h51)⟩) (Elems.nil _ _ _))) ?_
        rintro _ w56 ⟨A52, c53, rfl, hl54, hc55, hC, hF, hN⟩
        clear hF hN
        replace hC : Cx (fun _ => False) O0 w w56 ([.own 3 (.int .i64) (.slice A52 ((([z50] : List Int)).length) c53) ([z50] : List Int), .obj l44 oB46, .obj D45 oK47, .box g3 27 [.int .i64 b_0_0, .slice Ab_0_1 b_0_1.length cb_0_1], .ro (.sl (.int .i64)) [.slice Ab_0_1 b_0_1.length cb_0_1] b_0_1, .box g6 27 [.int .i64 0, .slice none 0 0], .box g28 22 [.slice Akf30_0_0 kf30_0_0.length ckf30_0_0], .own 3 (.int .i64) (.slice Akf30_0_0 kf30_0_0.length ckf30_0_0) kf30_0_0, .box g35 22 [.slice Ab_0_1 b_0_1.length cb_0_1]] ++ marksF ([] : List Nat)) := hC
        obtain ⟨u58, h59, hb⟩ := bd hb
        refine lex.op (hC.app (i := 7) (s := (.int .i64)) (xs := kf30_0_0) (ys := ([z50] : List Int)) (m := ((([z50] : List Int)).length)) rfl Try.underlying22 Try.underlying22 Try.type3 rfl rfl rfl (hC.srco (i := 0) rfl) rfl rfl (by have := lim_some h59; simp at this ⊢ <;> omega) (by decide)) ?_
        rintro _ w64 ⟨A60, c61, rfl, hl62, hc63, hC, hF, hN⟩
        clear hF hN
        replace hC : Cx (fun _ => False) O0 w w64 ([.own 3 (.int .i64) (.slice A52 ((([z50] : List Int)).length) c53) ([z50] : List Int), .obj l44 oB46, .obj D45 oK47, .box g3 27 [.int .i64 b_0_0, .slice Ab_0_1 b_0_1.length cb_0_1], .ro (.sl (.int .i64)) [.slice Ab_0_1 b_0_1.length cb_0_1] b_0_1, .box g6 27 [.int .i64 0, .slice none 0 0], .box g28 22 [.slice Akf30_0_0 kf30_0_0.length ckf30_0_0], .own 3 (.int .i64) (.slice A60 ((kf30_0_0 ++ ([z50] : List Int)).length) c61) (kf30_0_0 ++ ([z50] : List Int)), .box g35 22 [.slice Ab_0_1 b_0_1.length cb_0_1]] ++ marksF ([] : List Nat)) := hC
        refine lex.sk (hC.setf (i := 6) (k := 0) (v := .slice A60 ((kf30_0_0 ++ ([z50] : List Int)).length) c61) rfl Try.sizeOf22 rfl (by rw [Addr.add_zero']; exact e3) rfl rfl) ?_
        rintro w65 ⟨hC, hF⟩
        refine lex.nil ?_
        obtain rfl := Option.some.inj hb
        replace hC : Cx (fun _ => False) O0 w w65 ([.own 3 (.int .i64) (.slice A52 ((([z50] : List Int)).length) c53) ([z50] : List Int), .obj l44 oB46, .obj D45 oK47, .box g3 27 [.int .i64 b_0_0, .slice Ab_0_1 b_0_1.length cb_0_1], .ro (.sl (.int .i64)) [.slice Ab_0_1 b_0_1.length cb_0_1] b_0_1, .box g6 27 [.int .i64 0, .slice none 0 0], .box g28 22 [.slice A60 ((kf30_0_0 ++ ([z50] : List Int)).length) c61], .own 3 (.int .i64) (.slice A60 ((kf30_0_0 ++ ([z50] : List Int)).length) c61) (kf30_0_0 ++ ([z50] : List Int)), .box g35 22 [.slice Ab_0_1 b_0_1.length cb_0_1]] ++ marksF ([] : List Nat)) := hC
        exact hKn _ _ _ ⟨m40', (kf30_0_0 ++ ([z50] : List Int)), A60, (kf30_0_0 ++ ([z50] : List Int)).length, c61, rfl, lN hl0⟩ (hC.selT [1, 2, 3, 4, 5, 6, 7, 8] (by decide))
      · rintro D_0 L wv ⟨m, kf30_0_0, Akf30_0_0, mkf30_0_0, ckf30_0_0, rfl, hl0⟩ hC
        obtain ⟨m', o2, rfl, hb2, hl2⟩ := loopN_some hl0
        unfold F.braid_Inverse_b0 at hb2
        replace hb2 := (cF (decide_eq_false (Nat.lt_irrefl _))).symm.trans hb2
        obtain rfl := Option.some.inj hb2
        obtain rfl := (lX hl2).symm
        replace hC := hC.markIn
        obtain ⟨rfl, hlkf30_0_0, hckf30_0_0⟩ := (hC.ow (i := 4) rfl).sl_len
        replace hC : Cx (fun _ => False) O0 w wv ([.box g3 27 [.int .i64 b_0_0, .slice Ab_0_1 b_0_1.length cb_0_1], .ro (.sl (.int .i64)) [.slice Ab_0_1 b_0_1.length cb_0_1] b_0_1, .box g6 27 [.int .i64 0, .slice none 0 0], .box g28 22 [.slice Akf30_0_0 kf30_0_0.length ckf30_0_0], .own 3 (.int .i64) (.slice Akf30_0_0 kf30_0_0.length ckf30_0_0) kf30_0_0, .box g35 22 [.slice Ab_0_1 b_0_1.length cb_0_1]] ++ marksF (D_0 :: ([] : List Nat))) := hC
        exact hK39 _ _ ⟨(D_0 :: ([] : List Nat)), kf30_0_0, Akf30_0_0, kf30_0_0.length, ckf30_0_0, e1, e2, e3, rfl, hC.selT [0, 1, 2, 3, 4] (by decide), hb⟩
      · exact fun _ _ _ h => h.elim
      · exact fun _ _ _ _ h => absurd h List.not_mem_nil
    · clear hb hC hl0
      rintro E67 w66 ⟨ms_0, kf30_0_0, Akf30_0_0, mkf30_0_0, ckf30_0_0, e1, e2, e3, hms, hC, hb⟩
      obtain ⟨rfl, hlkf30_0_0, hckf30_0_0⟩ := (hC.ow (i := 4) rfl).sl_len
      refine hK33 _ _ ?_
      refine Wc.seq fun K68 hK68 => ?_
      refine Wc.region (by decide +kernel) ?_
      replace hC : Cx (fun _ => False) O0 w w66 ([.box g3 27 [.int .i64 b_0_0, .slice Ab_0_1 b_0_1.length cb_0_1], .ro (.sl (.int .i64)) [.slice Ab_0_1 b_0_1.length cb_0_1] b_0_1, .box g6 27 [.int .i64 0, .slice none 0 0], .box g28 22 [.slice Akf30_0_0 kf30_0_0.length ckf30_0_0], .own 3 (.int .i64) (.slice Akf30_0_0 kf30_0_0.length ckf30_0_0) kf30_0_0] ++ marksF ms_0) := hC
      refine lex.pure (v := .pointer (some ((⟨g3, 0, none⟩ : Addr).add 0))) (pu_field (sz := 1) Try.underlying27 rfl Try.sizeOf3 (by decide) rfl e1) ?_
      refine lex.val (v := .int .i64 b_0_0) (ld_fld (hC.bx (i := 0) rfl) Try.isAgg3 rfl rfl) ?_
      refine lex.val (v := .slice Akf30_0_0 kf30_0_0.length ckf30_0_0) (ld_one Try.isAgg22 e3 ((hC.bx (i := 3) rfl).cell (j := 0) rfl)) ?_
      refine lex.pure (v := .agg #[.int .i64 b_0_0, .slice Akf30_0_0 kf30_0_0.length ckf30_0_0]) (pu_builds (places := [(0, 1), (1, 1)]) (pv := [(0, .int .i64 b_0_0), (1, .slice Akf30_0_0 kf30_0_0.length ckf30_0_0)]) Try.type27 Try.underlying27 rfl (mp_cons Try.type3 (mp_cons Try.type22 mp_nil rfl rfl) rfl rfl) rfl (by simp [Instr.fill, Value.cells])) ?_
      refine lex.sk (hC.seta (i := 2) (ds := [.int .i64 b_0_0, .slice Akf30_0_0 kf30_0_0.length ckf30_0_0]) rfl Try.type27 rfl rfl rfl e2 rfl) ?_
      rintro w69 ⟨hC, hF⟩
      refine lex.nil ?_
      refine hK68 _ _ ?_
      replace hC : Cx (fun _ => False) O0 w w69 ([.box g3 27 [.int .i64 b_0_0, .slice Ab_0_1 b_0_1.length cb_0_1], .ro (.sl (.int .i64)) [.slice Ab_0_1 b_0_1.length cb_0_1] b_0_1, .box g6 27 [.int .i64 b_0_0, .slice Akf30_0_0 kf30_0_0.length ckf30_0_0], .box g28 22 [.slice Akf30_0_0 kf30_0_0.length ckf30_0_0], .own 3 (.int .i64) (.slice Akf30_0_0 kf30_0_0.length ckf30_0_0) kf30_0_0] ++ marksF ms_0) := hC
      obtain rfl := Option.some.inj hb
      refine Wc.ret ?_
      replace hC : Cx (fun _ => False) O0 w w69 (marksF ms_0 ++ [.box g3 27 [.int .i64 b_0_0, .slice Ab_0_1 b_0_1.length cb_0_1], .ro (.sl (.int .i64)) [.slice Ab_0_1 b_0_1.length cb_0_1] b_0_1, .box g6 27 [.int .i64 b_0_0, .slice Akf30_0_0 kf30_0_0.length ckf30_0_0], .box g28 22 [.slice Akf30_0_0 kf30_0_0.length ckf30_0_0], .own 3 (.int .i64) (.slice Akf30_0_0 kf30_0_0.length ckf30_0_0) kf30_0_0]) := hC.perm List.perm_append_comm
      refine hKR _ _ _ _ _ _ _ hms hC fun w70 hC => ?_
      refine ⟨_, res1 Try.results25 ⟨_, e2, loadVar_blk (hC.bx (i := 2) rfl) Try.isAgg27 Try.sizeOf27⟩, _, rfl, Akf30_0_0, kf30_0_0.length, ckf30_0_0, rfl, hb_0_0, hC.sel [4] (by decide)⟩

set_option maxRecDepth 100000 in
set_option maxHeartbeats 4000000 in
theorem braid_Mul_ok (n : Nat) {w : World} {O0 : List Nat} (hO : ∀ k ∈ O0, k < w.heap.size) {a_0_0 : Int} (ha_0_0 : I64 a_0_0) {Aa_0_1 : Option Addr} {ma_0_1 ca_0_1 : Nat} {a_0_1 : List Int} (ha_0_1 : Rep O0 w (.sl (.int .i64)) [.slice Aa_0_1 ma_0_1 ca_0_1] a_0_1) {b_1_0 : Int} (hb_1_0 : I64 b_1_0) {Ab_1_1 : Option Addr} {mb_1_1 cb_1_1 : Nat} {b_1_1 : List Int} (hb_1_1 : Rep O0 w (.sl (.int .i64)) [.slice Ab_1_1 mb_1_1 cb_1_1] b_1_1) {r : Int × (List Int) × Int} (hb : F.braid_Mul n a_0_0 a_0_1 b_1_0 b_1_1 = some r) :
    Calls Try.prog 24 #[.agg #[.int .i64 a_0_0, .slice Aa_0_1 ma_0_1 ca_0_1], .agg #[.int .i64 b_1_0, .slice Ab_1_1 mb_1_1 cb_1_1]] w fun e w' => ∃ v, e = .returned v ∧ ∃ (A1 : Option Addr) (m1 c1 : Nat), v = .tuple #[.agg #[.int .i64 r.1, .slice A1 m1 c1], .int .i64 r.2.2] ∧ I64 r.1 ∧ I64 r.2.2 ∧ Cx (fun _ => False) O0 w w' [.own 3 (.int .i64) (.slice A1 m1 c1) r.2.1] := by
  unfold F.braid_Mul at hb
  have hC := Cx.start hO
  replace hC := hC.arg rfl ha_0_1
  replace hC := hC.arg rfl hb_1_1
  clear hO
  obtain ⟨rfl, hla_0_1, hca_0_1⟩ := ha_0_1.sl_len
  obtain ⟨rfl, hlb_1_1, hcb_1_1⟩ := hb_1_1.sl_len
  refine calls_of_Wc Try.func24 rfl (by rw [Try.ntmps24]; exact Nat.le_of_ble_eq_true rfl) fun KR hKR => ?_
  refine Wc.seq fun K3 hK3 => ?_
  refine Wc.region (by decide +kernel) ?_
  refine lex.op (hC.box (cs := [.int .i64 a_0_0, .slice Aa_0_1 a_0_1.length ca_0_1]) rfl rfl) ?_
  rintro _ w5 ⟨g4, rfl, hC, hF, hG⟩
  clear hG
  refine lex.op (hC.box (cs := [.int .i64 b_1_0, .slice Ab_1_1 b_1_1.length cb_1_1]) rfl rfl) ?_
  rintro _ w8 ⟨g7, rfl, hC, hF, hG⟩
  clear hG
  refine lex.op (hC.alloc (cs := [.int .i64 0, .slice none 0 0]) Try.zeroValue27 rfl) ?_
  rintro _ w11 ⟨g10, rfl, hC, hF, hG⟩
  clear hG
  refine lex.pure (v := .int .i64 0) (pu_assign rfl) ?_
  refine lex.nil ?_
  refine hK3 _ _ ?_
  refine Wc.seq fun K13 hK13 => ?_
  refine Wc.seq fun K14 hK14 => ?_
  refine Wc.region (by decide +kernel) ?_
  refine lex.val (v := .agg #[.int .i64 a_0_0, .slice Aa_0_1 a_0_1.length ca_0_1]) (ld_blk (hC.bx (i := 2) rfl) Try.isAgg27 Try.sizeOf27 rfl) ?_
  obtain ⟨y15, h16, hb⟩ := bd hb
  refine lex.cl (⟨_, _, op_call (vs := [.agg #[.int .i64 a_0_0, .slice Aa_0_1 a_0_1.length ca_0_1]]) Try.call15 rfl rfl rfl, braid_Valid_ok n hC.lt ha_0_0 (hC.rd (i := 4) rfl) h16⟩) ?_
  rintro _ w17 ⟨rfl, hK⟩
  replace hC := hC.merge hK
  clear hK
  refine lex.pure (v := .bool (!y15)) (pu_not (q := y15) rfl) ?_
  refine lex.pure (v := .bool (!y15)) (pu_move rfl) ?_
  rcases bS (!y15) with hq18 | hq18
  · replace hb := (cT hq18).symm.trans hb
    refine lex.gskip (want_f rfl rfl (show _ = Value.bool (!y15) from rfl) hq18) ?_
    refine lex.gskip (want_f rfl rfl (show _ = Value.bool (!y15) from rfl) hq18) ?_
    refine lex.gskip (want_f rfl rfl (show _ = Value.bool (!y15) from rfl) hq18) ?_
    refine lex.pure (v := .bool true) (pu_pickT (q := (!y15)) rfl hq18 rfl) ?_
    refine lex.nil ?_
    refine hK14 _ _ ?_
    refine Wc.cond_true (rfl) ?_
    refine Wc.seq fun K19 hK19 => ?_
    refine Wc.region (by decide +kernel) ?_
    refine lex.pure (v := .agg #[.int .i64 0, .slice none 0 0]) (pu_builds (places := [(0, 1), (1, 1)]) (pv := []) Try.type27 Try.underlying27 rfl (mp_cons Try.type3 (mp_cons Try.type22 mp_nil rfl rfl) rfl rfl) rfl (by simp [Instr.fill, Value.cells])) ?_
    refine lex.sk (hC.seta (i := 0) (ds := [.int .i64 0, .slice none 0 0]) rfl Try.type27 rfl rfl rfl rfl rfl) ?_
    rintro w20 ⟨hC, hF⟩
    refine lex.pure (v := .int .i64 1) (pu_assign rfl) ?_
    refine lex.nil ?_
    refine hK19 _ _ ?_
    replace hC := hC.nil 3 (.int .i64)
    obtain rfl := Option.some.inj hb
    refine Wc.ret ?_
    refine hKR _ _ ?_
    refine ⟨_, res2 Try.results24 ⟨_, rfl, loadVar_blk (hC.bx (i := 1) rfl) Try.isAgg27 Try.sizeOf27⟩ (show RV _ _ _ (.tmp _) (.int .i64 1) from rfl), _, rfl, none, 0, 0, rfl, (show I64 0 from by unfold I64; omega), (show I64 1 from by unfold I64; omega), hC.sel [0] (by decide)⟩
  · replace hb := (cF hq18).symm.trans hb
    refine lex.gval (want_t rfl rfl (show _ = Value.bool (!y15) from rfl) hq18) (v := .agg #[.int .i64 b_1_0, .slice Ab_1_1 b_1_1.length cb_1_1]) (ld_blk (hC.bx (i := 1) rfl) Try.isAgg27 Try.sizeOf27 rfl) ?_
    obtain ⟨y22, h23, hb⟩ := bd hb
    refine lex.gcl (want_t rfl rfl (show _ = Value.bool (!y15) from rfl) hq18) (⟨_, _, op_call (vs := [.agg #[.int .i64 b_1_0, .slice Ab_1_1 b_1_1.length cb_1_1]]) Try.call15 rfl rfl rfl, braid_Valid_ok n hC.lt hb_1_0 (hC.rd (i := 3) rfl) h23⟩) ?_
    rintro _ w24 ⟨rfl, hK⟩
    replace hC := hC.merge hK
    clear hK
    refine lex.gpure (want_t rfl rfl (show _ = Value.bool (!y15) from rfl) hq18) (v := .bool (!y22)) (pu_not (q := y22) rfl) ?_
    refine lex.pure (v := .bool (!y22)) (pu_pickF (q := (!y15)) rfl hq18 rfl) ?_
    refine lex.nil ?_
    refine hK14 _ _ ?_
    refine Wc.fresh fun E25 hE => ?_
    have e2 : E25 2 = .pointer (some ⟨g4, 0, none⟩) := (congrFun hE 2).trans rfl
    have e3 : E25 3 = .pointer (some ⟨g7, 0, none⟩) := (congrFun hE 3).trans rfl
    have e4 : E25 4 = .pointer (some ⟨g10, 0, none⟩) := (congrFun hE 4).trans rfl
    have e5 : E25 5 = .int .i64 0 := (congrFun hE 5).trans rfl
    have e13 : E25 13 = .bool (!y22) := (congrFun hE 13).trans rfl
    clear hE
    refine Wc.cond (t := (!y22)) (e13) (fun hq26 => ?_) (fun hq26 => ?_)
    · replace hb := (cT hq26).symm.trans hb
      refine Wc.seq fun K27 hK27 => ?_
      refine Wc.region (by decide +kernel) ?_
      refine lex.pure (v := .agg #[.int .i64 0, .slice none 0 0]) (pu_builds (places := [(0, 1), (1, 1)]) (pv := []) Try.type27 Try.underlying27 rfl (mp_cons Try.type3 (mp_cons Try.type22 mp_nil rfl rfl) rfl rfl) rfl (by simp [Instr.fill, Value.cells])) ?_
      refine lex.sk (hC.seta (i := 0) (ds := [.int .i64 0, .slice none 0 0]) rfl Try.type27 rfl rfl rfl e4 rfl) ?_
      rintro w28 ⟨hC, hF⟩
      refine lex.pure (v := .int .i64 1) (pu_assign rfl) ?_
      refine lex.nil ?_
      refine hK27 _ _ ?_
      replace hC := hC.nil 3 (.int .i64)
      obtain rfl := Option.some.inj hb
      refine Wc.ret ?_
      refine hKR _ _ ?_
      refine ⟨_, res2 Try.results24 ⟨_, e4, loadVar_blk (hC.bx (i := 1) rfl) Try.isAgg27 Try.sizeOf27⟩ (show RV _ _ _ (.tmp _) (.int .i64 1) from rfl), _, rfl, none, 0, 0, rfl, (show I64 0 from by unfold I64; omega), (show I64 1 from by unfold I64; omega), hC.sel [0] (by decide)⟩
    · replace hb := (cF hq26).symm.trans hb
      refine Wc.skip ?_
      refine hK13 _ _ ?_
      refine Wc.seq fun K30 hK30 => ?_
      refine Wc.seq fun K31 hK31 => ?_
      refine Wc.region (by decide +kernel) ?_
      refine lex.pure (v := .pointer (some ((⟨g4, 0, none⟩ : Addr).add 0))) (pu_field (sz := 1) Try.underlying27 rfl Try.sizeOf3 (by decide) rfl e2) ?_
      refine lex.val (v := .int .i64 a_0_0) (ld_fld (hC.bx (i := 2) rfl) Try.isAgg3 rfl rfl) ?_
      refine lex.pure (v := .pointer (some ((⟨g7, 0, none⟩ : Addr).add 0))) (pu_field (sz := 1) Try.underlying27 rfl Try.sizeOf3 (by decide) rfl e3) ?_
      refine lex.val (v := .int .i64 b_1_0) (ld_fld (hC.bx (i := 1) rfl) Try.isAgg3 rfl rfl) ?_
      refine lex.pure (v := .bool (!(decide (a_0_0 = b_1_0)))) (pu_neq (k := .i64) (a := a_0_0) (b := b_1_0) rfl rfl) ?_
      refine lex.nil ?_
      refine hK31 _ _ ?_
      refine Wc.cond (t := (!(decide (a_0_0 = b_1_0)))) (rfl) (fun hq32 => ?_) (fun hq32 => ?_)
      · replace hb := (cT hq32).symm.trans hb
        refine Wc.seq fun K33 hK33 => ?_
        refine Wc.region (by decide +kernel) ?_
        refine lex.pure (v := .agg #[.int .i64 0, .slice none 0 0]) (pu_builds (places := [(0, 1), (1, 1)]) (pv := []) Try.type27 Try.underlying27 rfl (mp_cons Try.type3 (mp_cons Try.type22 mp_nil rfl rfl) rfl rfl) rfl (by simp [Instr.fill, Value.cells])) ?_
        refine lex.sk (hC.seta (i := 0) (ds := [.int .i64 0, .slice none 0 0]) rfl Try.type27 rfl rfl rfl e4 rfl) ?_
        rintro w34 ⟨hC, hF⟩
        refine lex.pure (v := .int .i64 2) (pu_assign rfl) ?_
        refine lex.nil ?_
        refine hK33 _ _ ?_
        replace hC := hC.nil 3 (.int .i64)
        obtain rfl := Option.some.inj hb
        refine Wc.ret ?_
        refine hKR _ _ ?_
        refine ⟨_, res2 Try.results24 ⟨_, e4, loadVar_blk (hC.bx (i := 1) rfl) Try.isAgg27 Try.sizeOf27⟩ (show RV _ _ _ (.tmp _) (.int .i64 2) from rfl), _, rfl, none, 0, 0, rfl, (show I64 0 from by unfold I64; omega), (show I64 2 from by unfold I64; omega), hC.sel [0] (by decide)⟩
      · replace hb := (cF hq32).symm.trans hb
        refine Wc.skip ?_
        refine hK30 _ _ ?_
        refine Wc.seq fun K36 hK36 => ?_
        refine Wc.seq fun K37 hK37 => ?_
        refine Wc.region (by decide +kernel) ?_
        refine lex.pure (v := .pointer (some ((⟨g4, 0, none⟩ : Addr).add 1))) (pu_field (sz := 1) Try.underlying27 rfl Try.sizeOf22 (by decide) rfl e2) ?_
        refine lex.val (v := .slice Aa_0_1 a_0_1.length ca_0_1) (ld_fld (hC.bx (i := 2) rfl) Try.isAgg22 rfl rfl) ?_
        refine lex.pure (v := .int .i64 (a_0_1.length : Int)) (pu_len (A := Aa_0_1) (n := a_0_1.length) (m := ca_0_1) Try.underlying22 rfl) ?_
        refine lex.pure (v := .pointer (some ((⟨g7, 0, none⟩ : Addr).add 1))) (pu_field (sz := 1) Try.underlying27 rfl Try.sizeOf22 (by decide) rfl e3) ?_
        refine lex.val (v := .slice Ab_1_1 b_1_1.length cb_1_1) (ld_fld (hC.bx (i := 1) rfl) Try.isAgg22 rfl rfl) ?_
        refine lex.pure (v := .int .i64 (b_1_1.length : Int)) (pu_len (A := Ab_1_1) (n := b_1_1.length) (m := cb_1_1) Try.underlying22 rfl) ?_
        obtain ⟨z38, h39, hb⟩ := bd hb
        refine lex.pure (v := .int .i64 z38) (pu_addc (a := (a_0_1.length : Int)) (b := (b_1_1.length : Int)) rfl rfl h39) ?_
        refine lex.pure (v := .bool (decide (200 < z38))) (pu_gtr (k := .i64) (a := z38) (b := 200) rfl rfl) ?_
        refine lex.nil ?_
        refine hK37 _ _ ?_
        refine Wc.fresh fun E40 hE => ?_
        have e2 : E40 2 = .pointer (some ⟨g4, 0, none⟩) := (congrFun hE 2).trans e2
        have e3 : E40 3 = .pointer (some ⟨g7, 0, none⟩) := (congrFun hE 3).trans e3
        have e4 : E40 4 = .pointer (some ⟨g10, 0, none⟩) := (congrFun hE 4).trans e4
        have e5 : E40 5 = .int .i64 0 := (congrFun hE 5).trans e5
        have e28 : E40 28 = .bool (decide (200 < z38)) := (congrFun hE 28).trans rfl
        clear hE
        refine Wc.cond (t := (decide (200 < z38))) (e28) (fun hq41 => ?_) (fun hq41 => ?_)
        · replace hb := (cT hq41).symm.trans hb
          refine Wc.seq fun K42 hK42 => ?_
          refine Wc.region (by decide +kernel) ?_
          refine lex.pure (v := .agg #[.int .i64 0, .slice none 0 0]) (pu_builds (places := [(0, 1), (1, 1)]) (pv := []) Try.type27 Try.underlying27 rfl (mp_cons Try.type3 (mp_cons Try.type22 mp_nil rfl rfl) rfl rfl) rfl (by simp [Instr.fill, Value.cells])) ?_
          refine lex.sk (hC.seta (i := 0) (ds := [.int .i64 0, .slice none 0 0]) rfl Try.type27 rfl rfl rfl e4 rfl) ?_
          rintro w43 ⟨hC, hF⟩
          refine lex.pure (v := .int .i64 5) (pu_assign rfl) ?_
          refine lex.nil ?_
          refine hK42 _ _ ?_
          replace hC := hC.nil 3 (.int .i64)
          obtain rfl := Option.some.inj hb
          refine Wc.ret ?_
          refine hKR _ _ ?_
          refine ⟨_, res2 Try.results24 ⟨_, e4, loadVar_blk (hC.bx (i := 1) rfl) Try.isAgg27 Try.sizeOf27⟩ (show RV _ _ _ (.tmp _) (.int .i64 5) from rfl), _, rfl, none, 0, 0, rfl, (show I64 0 from by unfold I64; omega), (show I64 5 from by unfold I64; omega), hC.sel [0] (by decide)⟩
        · replace hb := (cF hq41).symm.trans hb
          refine Wc.skip ?_
          refine hK36 _ _ ?_
          refine Wc.seq fun K45 hK45 => ?_
          refine Wc.regionMix [31, 33, 35] (frm [31, 33, 35] ([] : List Fact) [.box g10 27 [.int .i64 0, .slice none 0 0]]) (fun _ => rfl) mixed (by decide +kernel) (by decide +kernel) fun w47 hw46 => ?_
          replace hC := hC.step (Fr.of_drew hw46)
          have hM := Fr.refl (fun k => k ∈ blocks ([] : List Fact)) w47
          clear hw46
          have hS := hC
          have hD : Fr (fun k => k ∈ blocks (([] : List Fact) ++ [.box g10 27 [.int .i64 0, .slice none 0 0]])) w47 w47 := hM.wide
          have hUf12 : g10 < w47.heap.size → g10 ∈ blocks (([] : List Fact) ++ [.box g10 27 [.int .i64 0, .slice none 0 0]]) := fun _ => box_in (i := 0) rfl
          refine mixE.pure (v := .pointer (some ((⟨g4, 0, none⟩ : Addr).add 0))) (pu_field (sz := 1) Try.underlying27 rfl Try.sizeOf3 (by decide) rfl e2) ?_
          refine mixE.steady hD (v := .int .i64 a_0_0) (fun _ hF => ld_fld (hS.bx2 (i := 2) rfl [0] (by decide) hF) Try.isAgg3 rfl rfl) ?_
          refine mixE.pure (v := .pointer (some ((⟨g4, 0, none⟩ : Addr).add 1))) (pu_field (sz := 1) Try.underlying27 rfl Try.sizeOf22 (by decide) rfl e2) ?_
          refine mixE.steady hD (v := .slice Aa_0_1 a_0_1.length ca_0_1) (fun _ hF => ld_fld (hS.bx2 (i := 2) rfl [0] (by decide) hF) Try.isAgg22 rfl rfl) ?_
          refine mixE.pure (v := .pointer (some ((⟨g7, 0, none⟩ : Addr).add 1))) (pu_field (sz := 1) Try.underlying27 rfl Try.sizeOf22 (by decide) rfl e3) ?_
          refine mixE.steady hD (v := .slice Ab_1_1 b_1_1.length cb_1_1) (fun _ hF => ld_fld (hS.bx2 (i := 1) rfl [0] (by decide) hF) Try.isAgg22 rfl rfl) ?_
          refine mixE.op hM (hC.lit (s := (.sl (.int .i64))) (vs := [.slice Aa_0_1 a_0_1.length ca_0_1, .slice Ab_1_1 b_1_1.length cb_1_1]) (xs := [a_0_1, b_1_1]) Try.underlying89 Try.type22 rfl rfl (Nat.le_of_ble_eq_true rfl) rfl rfl (by simp [Value.cells, Sh.n]) rfl (show Elems _ _ (.sl (.int .i64)) ([.slice Aa_0_1 a_0_1.length ca_0_1] ++ ([.slice Ab_1_1 b_1_1.length cb_1_1] ++ ([]))) ([a_0_1, b_1_1] : List (List Int)) from Elems.cons (hC.rd (i := 4) rfl) (Elems.cons (hC.rd (i := 3) rfl) (Elems.nil _ _ _)))) ?_
          rintro _ w52 ⟨A48, c49, rfl, hl50, hc51, hC, hF, hN⟩
          have hBf53 := Beside.new hM hN
          have hUf53 := Beside.new (hM.wide (H := [.box g10 27 [.int .i64 0, .slice none 0 0]])) hN
          replace hM := hM.none hF
          replace hD := hM.wide (H := [.box g10 27 [.int .i64 0, .slice none 0 0]])
          refine ⟨hM, ?_⟩
          clear hF hN
          obtain ⟨y54, h55, hb⟩ := bd hb
          refine mixE.cl hM (⟨_, _, op_call (vs := [.slice A48 ((([a_0_1, b_1_1] : List (List Int))).length) c49]) Try.call39 rfl rfl rfl, slices_Concat_Lint_int_ok n (hC.lentLt [.slice A48 ((([a_0_1, b_1_1] : List (List Int))).length) c49]) ((hC.ow (i := 0) rfl).lend (vs := [.slice A48 ((([a_0_1, b_1_1] : List (List Int))).length) c49]) (by simp)) h55⟩) ?_
          rintro _ w60 ⟨A56, m57, c58, rfl, hK⟩
          have hBf59 := Beside.cl (i := 0) hM hK rfl
          have hUf59 := hBf59.wide (H := [.box g10 27 [.int .i64 0, .slice none 0 0]])
          replace hM := hM.none hK.fr
          replace hD := hM.wide (H := [.box g10 27 [.int .i64 0, .slice none 0 0]])
          refine ⟨hM, ?_⟩
          replace hC := hC.mergeF hK rfl
          clear hK
          obtain ⟨rfl, hl61, hc62⟩ := (hC.ow (i := 0) rfl).sl_len
          refine mixE.pure (v := .agg #[.int .i64 a_0_0, .slice A56 y54.length c58]) (pu_builds (places := [(0, 1), (1, 1)]) (pv := [(0, .int .i64 a_0_0), (1, .slice A56 y54.length c58)]) Try.type27 Try.underlying27 rfl (mp_cons Try.type3 (mp_cons Try.type22 mp_nil rfl rfl) rfl rfl) rfl (by simp [Instr.fill, Value.cells])) ?_
          refine mixE.sk hD (hC.seta (i := 2) (ds := [.int .i64 a_0_0, .slice A56 y54.length c58]) rfl Try.type27 rfl rfl rfl e4 rfl) ?_
          rintro w63 ⟨hC, hF⟩
          replace hD := hD.besideG hUf12 hF
          clear hF
          refine ⟨hD, ?_⟩
          refine mixE.pure (v := .int .i64 0) (pu_assign rfl) ?_
          refine mixE.nil ?_
          clear hS hM
          clear hD
          refine hK45 _ _ ?_
          obtain rfl := Option.some.inj hb
          refine Wc.ret ?_
          refine hKR _ _ ?_
          refine ⟨_, res2 Try.results24 ⟨_, e4, loadVar_blk (hC.bx (i := 2) rfl) Try.isAgg27 Try.sizeOf27⟩ (show RV _ _ _ (.tmp _) (.int .i64 0) from rfl), _, rfl, A56, y54.length, c58, rfl, ha_0_0, (show I64 0 from by unfold I64; omega), hC.sel [0] (by decide)⟩

set_option maxRecDepth 100000 in
set_option maxHeartbeats 4000000 in
theorem word_Valid_ok (n : Nat) {w : World} {O0 : List Nat} (hO : ∀ k ∈ O0, k < w.heap.size) {Awx_0 : Option Addr} {mwx_0 cwx_0 : Nat} {wx_0 : List Int} (hwx_0 : Rep O0 w (.sl (.int .i64)) [.slice Awx_0 mwx_0 cwx_0] wx_0) {rank_1 : Int} (hrank_1 : I64 rank_1) {r : Bool} (hb : F.word_Valid n wx_0 rank_1 = some r) :
    Calls Try.prog 78 #[.slice Awx_0 mwx_0 cwx_0, .int .i64 rank_1] w fun e w' => ∃ v, e = .returned v ∧ v = .bool r ∧ Cx (fun _ => False) O0 w w' [] := by
  unfold F.word_Valid at hb
  have hC := Cx.start hO
  replace hC := hC.arg rfl hwx_0
  clear hO
  obtain ⟨rfl, hlwx_0, hcwx_0⟩ := hwx_0.sl_len
  refine calls_of_Wc Try.func78 rfl (by rw [Try.ntmps78]; exact Nat.le_of_ble_eq_true rfl) fun KR hKR => ?_
  refine Wc.seq fun K2 hK2 => ?_
  refine Wc.region (by decide +kernel) ?_
  refine lex.pure (v := .bool false) (pu_assign rfl) ?_
  refine lex.nil ?_
  refine hK2 _ _ ?_
  refine Wc.seq fun K3 hK3 => ?_
  refine Wc.seq fun K4 hK4 => ?_
  refine Wc.region (by decide +kernel) ?_
  refine lex.pure (v := .slice Awx_0 wx_0.length cwx_0) (pu_move rfl) ?_
  refine lex.pure (v := .int .i64 (wx_0.length : Int)) (pu_len (A := Awx_0) (n := wx_0.length) (m := cwx_0) Try.underlying82 rfl) ?_
  refine lex.pure (v := .int .i64 0) (pu_move rfl) ?_
  refine lex.nil ?_
  refine hK4 _ _ ?_
  obtain ⟨o5, hl0, hb⟩ := bd hb
  refine Wc.cut (fun E wv => ∃ (v9_0 : Int), E 4 = .bool false ∧ I64 v9_0 ∧ Cx (fun _ => False) O0 w wv [] ∧ (some true : Option (Bool)) = some r) (fun K6 hK6 => ?_) ?_
  · refine Wc.block ?_
    refine Wc.loop (fun m E wv => ∃ (v9_0 : Int), E 1 = .int .i64 rank_1 ∧ E 4 = .bool false ∧ E 7 = .slice Awx_0 wx_0.length cwx_0 ∧ E 8 = .int .i64 (wx_0.length : Int) ∧ E 9 = .int .i64 v9_0 ∧ I64 v9_0 ∧ Cx (fun _ => False) O0 w wv [.ro (.sl (.int .i64)) [.slice Awx_0 wx_0.length cwx_0] wx_0] ∧ loopN m (F.word_Valid_b0 n wx_0 rank_1) v9_0 = some o5) n ⟨0, rfl, rfl, rfl, rfl, rfl, (show I64 0 from by unfold I64; omega), hC.sel [0] (by decide), hl0⟩ ?_
    have hbK0 := hb
    clear hb hC hl0
    rintro m8 E10 w9 ⟨v9_0, e1, e4, e7, e8, e9, hrv9_0, hC, hl0⟩ K7 hK7
    obtain ⟨m8', o11, rfl, hb, hl0⟩ := loopN_some hl0
    unfold F.word_Valid_b0 at hb
    refine Wc.seq fun K12 hK12 => ?_
    refine Wc.region (by decide +kernel) ?_
    refine lex.pure (v := .bool (decide (v9_0 < (wx_0.length : Int)))) (pu_lss (k := .i64) (a := v9_0) (b := (wx_0.length : Int)) e9 e8) ?_
    refine lex.nil ?_
    refine hK12 _ _ ?_
    refine Wc.seq fun K13 hK13 => ?_
    refine Wc.cond (t := (decide (v9_0 < (wx_0.length : Int)))) (rfl) (fun hq14 => ?_) (fun hq14 => ?_)
    · replace hb := (cT hq14).symm.trans hb
      refine Wc.skip ?_
      refine hK13 _ _ ?_
      refine Wc.seq fun K15 hK15 => ?_
      refine Wc.block ?_
      refine Wc.seq fun K16 hK16 => ?_
      refine Wc.region (by decide +kernel) ?_
      obtain ⟨x17, h18, hb⟩ := bd hb
      obtain ⟨ad19, cs20, hA, hc21, hr22⟩ := hC.elr (i := 0) rfl (get_some h18).2
      subst hA
      refine lex.pure (v := .pointer (some (ad19.add (v9_0.toNat * 1)))) (pu_index (a := v9_0) Try.underlying82 Try.sizeOf3 e7 e9 (get_some h18).1) ?_
      obtain ⟨rfl, hr22'⟩ := hr22
      refine lex.val (v := .int .i64 x17) (ld_one Try.isAgg3 rfl (hc21 0 _ rfl)) ?_
      refine lex.pure (v := .int .i64 x17) (pu_assign rfl) ?_
      refine lex.nil ?_
      refine hK16 _ _ ?_
      refine Wc.seq fun K23 hK23 => ?_
      refine Wc.region (by decide +kernel) ?_
      refine lex.pure (v := .int .i64 rank_1) (pu_move e1) ?_
      refine lex.pure (v := .bool (decide (rank_1 < 1))) (pu_lss (k := .i64) (a := rank_1) (b := 1) rfl rfl) ?_
      refine lex.pure (v := .bool (decide (rank_1 < 1))) (pu_move rfl) ?_
      rcases bS (decide (rank_1 < 1)) with hq24 | hq24
      · replace hb := (cT hq24).symm.trans hb
        refine lex.gskip (want_f rfl rfl (show _ = Value.bool (decide (rank_1 < 1)) from rfl) hq24) ?_
        refine lex.gskip (want_f rfl rfl (show _ = Value.bool (decide (rank_1 < 1)) from rfl) hq24) ?_
        refine lex.pure (v := .bool true) (pu_pickT (q := (decide (rank_1 < 1))) rfl hq24 rfl) ?_
        refine lex.pure (v := .bool true) (pu_move rfl) ?_
        refine lex.gskip (want_f rfl rfl (show _ = Value.bool true from rfl) rfl) ?_
        refine lex.gskip (want_f rfl rfl (show _ = Value.bool true from rfl) rfl) ?_
        refine lex.gskip (want_f rfl rfl (show _ = Value.bool true from rfl) rfl) ?_
        refine lex.pure (v := .bool true) (pu_pickT (q := true) rfl rfl rfl) ?_
        refine lex.pure (v := .bool true) (pu_move rfl) ?_
        refine lex.gskip (want_f rfl rfl (show _ = Value.bool true from rfl) rfl) ?_
        refine lex.gskip (want_f rfl rfl (show _ = Value.bool true from rfl) rfl) ?_
        refine lex.gskip (want_f rfl rfl (show _ = Value.bool true from rfl) rfl) ?_
        refine lex.gskip (want_f rfl rfl (show _ = Value.bool true from rfl) rfl) ?_
        refine lex.pure (v := .bool true) (pu_pickT (q := true) rfl rfl rfl) ?_
        refine lex.nil ?_
        refine hK23 _ _ ?_
        refine Wc.cond_true (rfl) ?_
        refine Wc.seq fun K25 hK25 => ?_
        refine Wc.region (by decide +kernel) ?_
        refine lex.pure (v := .bool false) (pu_assign rfl) ?_
        refine lex.nil ?_
        refine hK25 _ _ ?_
        obtain rfl := Option.some.inj hb
        obtain rfl := (lX hl0).symm
        replace hb := hbK0
        obtain rfl := Option.some.inj hb
        refine Wc.ret ?_
        refine hKR _ _ ?_
        refine ⟨_, res1 Try.results78 (show RV _ _ _ (.tmp _) (.bool false) from rfl), _, rfl, rfl, hC.sel [] (by decide)⟩
      · replace hb := (cF hq24).symm.trans hb
        refine lex.gpure (want_t rfl rfl (show _ = Value.bool (decide (rank_1 < 1)) from rfl) hq24) (v := .int .i64 x17) (pu_move rfl) ?_
        refine lex.gpure (want_t rfl rfl (show _ = Value.bool (decide (rank_1 < 1)) from rfl) hq24) (v := .bool (decide (x17 = 0))) (pu_eql (k := .i64) (a := x17) (b := 0) rfl rfl) ?_
        refine lex.pure (v := .bool (decide (x17 = 0))) (pu_pickF (q := (decide (rank_1 < 1))) rfl hq24 rfl) ?_
        refine lex.pure (v := .bool (decide (x17 = 0))) (pu_move rfl) ?_
        rcases bS (decide (x17 = 0)) with hq26 | hq26
        · replace hb := (cT hq26).symm.trans hb
          refine lex.gskip (want_f rfl rfl (show _ = Value.bool (decide (x17 = 0)) from rfl) hq26) ?_
          refine lex.gskip (want_f rfl rfl (show _ = Value.bool (decide (x17 = 0)) from rfl) hq26) ?_
          refine lex.gskip (want_f rfl rfl (show _ = Value.bool (decide (x17 = 0)) from rfl) hq26) ?_
          refine lex.pure (v := .bool true) (pu_pickT (q := (decide (x17 = 0))) rfl hq26 rfl) ?_
          refine lex.pure (v := .bool true) (pu_move rfl) ?_
          refine lex.gskip (want_f rfl rfl (show _ = Value.bool true from rfl) rfl) ?_
          refine lex.gskip (want_f rfl rfl (show _ = Value.bool true from rfl) rfl) ?_
          refine lex.gskip (want_f rfl rfl (show _ = Value.bool true from rfl) rfl) ?_
          refine lex.gskip (want_f rfl rfl (show _ = Value.bool true from rfl) rfl) ?_
          refine lex.pure (v := .bool true) (pu_pickT (q := true) rfl rfl rfl) ?_
          refine lex.nil ?_
          refine hK23 _ _ ?_
          refine Wc.cond_true (rfl) ?_
          refine Wc.seq fun K27 hK27 => ?_
          refine Wc.region (by decide +kernel) ?_
          refine lex.pure (v := .bool false) (pu_assign rfl) ?_
          refine lex.nil ?_
          refine hK27 _ _ ?_
          obtain rfl := Option.some.inj hb
          obtain rfl := (lX hl0).symm
          replace hb := hbK0
          obtain rfl := Option.some.inj hb
          refine Wc.ret ?_
          refine hKR _ _ ?_
          refine ⟨_, res1 Try.results78 (show RV _ _ _ (.tmp _) (.bool false) from rfl), _, rfl, rfl, hC.sel [] (by decide)⟩
        · replace hb := (cF hq26).symm.trans hb
          refine lex.gpure (want_t rfl rfl (show _ = Value.bool (decide (x17 = 0)) from rfl) hq26) (v := .int .i64 x17) (pu_move rfl) ?_
          refine lex.gpure (want_t rfl rfl (show _ = Value.bool (decide (x17 = 0)) from rfl) hq26) (v := .int .i64 rank_1) (pu_move e1) ?_
          refine lex.gpure (want_t rfl rfl (show _ = Value.bool (decide (x17 = 0)) from rfl) hq26) (v := .bool (decide (rank_1 < x17))) (pu_gtr (k := .i64) (a := x17) (b := rank_1) rfl rfl) ?_
          refine lex.pure (v := .bool (decide (rank_1 < x17))) (pu_pickF (q := (decide (x17 = 0))) rfl hq26 rfl) ?_
          refine lex.pure (v := .bool (decide (rank_1 < x17))) (pu_move rfl) ?_
          rcases bS (decide (rank_1 < x17)) with hq28 | hq28
          · replace hb := (cT hq28).symm.trans hb
            refine lex.gskip (want_f rfl rfl (show _ = Value.bool (decide (rank_1 < x17)) from rfl) hq28) ?_
            refine lex.gskip (want_f rfl rfl (show _ = Value.bool (decide (rank_1 < x17)) from rfl) hq28) ?_
            refine lex.gskip (want_f rfl rfl (show _ = Value.bool (decide (rank_1 < x17)) from rfl) hq28) ?_
            refine lex.gskip (want_f rfl rfl (show _ = Value.bool (decide (rank_1 < x17)) from rfl) hq28) ?_
            refine lex.pure (v := .bool true) (pu_pickT (q := (decide (rank_1 < x17))) rfl hq28 rfl) ?_
            refine lex.nil ?_
            refine hK23 _ _ ?_
            refine Wc.cond_true (rfl) ?_
            refine Wc.seq fun K29 hK29 => ?_
            refine Wc.region (by decide +kernel) ?_
            refine lex.pure (v := .bool false) (pu_assign rfl) ?_
            refine lex.nil ?_
            refine hK29 _ _ ?_
            obtain rfl := Option.some.inj hb
            obtain rfl := (lX hl0).symm
            replace hb := hbK0
            obtain rfl := Option.some.inj hb
            refine Wc.ret ?_
            refine hKR _ _ ?_
            refine ⟨_, res1 Try.results78 (show RV _ _ _ (.tmp _) (.bool false) from rfl), _, rfl, rfl, hC.sel [] (by decide)⟩
          · replace hb := (cF hq28).symm.trans hb
            refine lex.gpure (want_t rfl rfl (show _ = Value.bool (decide (rank_1 < x17)) from rfl) hq28) (v := .int .i64 x17) (pu_move rfl) ?_
            refine lex.gpure (want_t rfl rfl (show _ = Value.bool (decide (rank_1 < x17)) from rfl) hq28) (v := .int .i64 rank_1) (pu_move e1) ?_
            obtain ⟨z30, h31, hb⟩ := bd hb
            refine lex.gpure (want_t rfl rfl (show _ = Value.bool (decide (rank_1 < x17)) from rfl) hq28) (v := .int .i64 z30) (pu_negc (a := rank_1) rfl h31) ?_
            refine lex.gpure (want_t rfl rfl (show _ = Value.bool (decide (rank_1 < x17)) from rfl) hq28) (v := .bool (decide (x17 < z30))) (pu_lss (k := .i64) (a := x17) (b := z30) rfl rfl) ?_
            refine lex.pure (v := .bool (decide (x17 < z30))) (pu_pickF (q := (decide (rank_1 < x17))) rfl hq28 rfl) ?_
            refine lex.nil ?_
            refine hK23 _ _ ?_
            refine Wc.cond (t := (decide (x17 < z30))) (rfl) (fun hq32 => ?_) (fun hq32 => ?_)
            · replace hb := (cT hq32).symm.trans hb
              refine Wc.seq fun K33 hK33 => ?_
              refine Wc.region (by decide +kernel) ?_
              refine lex.pure (v := .bool false) (pu_assign rfl) ?_
              refine lex.nil ?_
              refine hK33 _ _ ?_
              obtain rfl := Option.some.inj hb
              obtain rfl := (lX hl0).symm
              replace hb := hbK0
              obtain rfl := Option.some.inj hb
              refine Wc.ret ?_
              refine hKR _ _ ?_
              refine ⟨_, res1 Try.results78 (show RV _ _ _ (.tmp _) (.bool false) from rfl), _, rfl, rfl, hC.sel [] (by decide)⟩
            · replace hb := (cF hq32).symm.trans hb
              refine Wc.skip ?_
              refine hK15 _ _ ?_
              refine Wc.region (by decide +kernel) ?_
              obtain ⟨z34, h35, hb⟩ := bd hb
              refine lex.pure (v := .int .i64 z34) (pu_addc (a := v9_0) (b := 1) e9 rfl h35) ?_
              refine lex.pure (v := .int .i64 z34) (pu_move rfl) ?_
              refine lex.nil ?_
              obtain rfl := Option.some.inj hb
              exact hK7 m8' _ _ (Nat.lt_succ_self _) ⟨z34, e1, e4, e7, e8, rfl, (chk_rng h35), hC.sel [0] (by decide), lN hl0⟩
    · replace hb := (cF hq14).symm.trans hb
      refine Wc.exit rfl ?_
      obtain rfl := Option.some.inj hb
      obtain rfl := (lX hl0).symm
      exact hK6 _ _ ⟨v9_0, e4, hrv9_0, hC.sel [] (by decide), hbK0⟩
  · clear hb hC hl0
    rintro E37 w36 ⟨v9_0, e4, hrv9_0, hC, hb⟩
    refine hK3 _ _ ?_
    refine Wc.seq fun K38 hK38 => ?_
    refine Wc.region (by decide +kernel) ?_
    refine lex.pure (v := .bool true) (pu_assign rfl) ?_
    refine lex.nil ?_
    refine hK38 _ _ ?_
    obtain rfl := Option.some.inj hb
    refine Wc.ret ?_
    refine hKR _ _ ?_
    refine ⟨_, res1 Try.results78 (show RV _ _ _ (.tmp _) (.bool true) from rfl), _, rfl, rfl, hC.sel [] (by decide)⟩

set_option maxRecDepth 100000 in
set_option maxHeartbeats 4000000 in
theorem word_push_ok (n : Nat) {w : World} {O0 : List Nat} (hO : ∀ k ∈ O0, k < w.heap.size) {Astack_0 : Option Addr} {mstack_0 cstack_0 : Nat} {stack_0 : List Int} {Aletters_1 : Option Addr} {mletters_1 cletters_1 : Nat} {letters_1 : List Int} (hletters_1 : Rep O0 w (.sl (.int .i64)) [.slice Aletters_1 mletters_1 cletters_1] letters_1) (hio : Tk O0 w [.own 3 (.int .i64) (.slice Astack_0 mstack_0 cstack_0) stack_0]) {r : (List Int)} (hb : F.word_push n stack_0 letters_1 = some r) :
    Calls Try.prog 93 #[.slice Astack_0 mstack_0 cstack_0, .slice Aletters_1 mletters_1 cletters_1] w fun e w' => ∃ v, e = .returned v ∧ ∃ (A0 : Option Addr) (m0 c0 : Nat), v = .slice A0 m0 c0 ∧ Cx (fun k => k ∈ blocks [.own 3 (.int .i64) (.slice Astack_0 mstack_0 cstack_0) stack_0]) O0 w w' [.own 3 (.int .i64) (.slice A0 m0 c0) r] := by
  unfold F.word_push at hb
  have hC := Cx.startTk hO hio
  have hsub := hio.2.2
  replace hC := hC.argTk (by first | exact hsub | exact fun k hk => hsub k (by simpa [blocks, Fact.blk] using hk)) hletters_1
  clear hO
  obtain ⟨rfl, hlletters_1, hcletters_1⟩ := hletters_1.sl_len
  obtain ⟨rfl, hlstack_0, hcstack_0⟩ := (hC.ow (i := 1) rfl).sl_len
  clear hio hsub
  obtain ⟨I, hI, hC⟩ : ∃ I : Nat → Prop, I = (fun k => k ∈ blocks [.own 3 (.int .i64) (.slice Astack_0 stack_0.length cstack_0) stack_0]) ∧ Cx I O0 w w ([.ro (.sl (.int .i64)) [.slice Aletters_1 letters_1.length cletters_1] letters_1, .own 3 (.int .i64) (.slice Astack_0 stack_0.length cstack_0) stack_0]) := ⟨_, rfl, hC⟩
  refine calls_of_Wc Try.func93 rfl (by rw [Try.ntmps93]; exact Nat.le_of_ble_eq_true rfl) fun KR hKR => ?_
  refine Wc.seq fun K3 hK3 => ?_
  refine Wc.region (by decide +kernel) ?_
  refine lex.pure (v := .slice none 0 0) (pu_assign rfl) ?_
  refine lex.nil ?_
  refine hK3 _ _ ?_
  refine Wc.seq fun K4 hK4 => ?_
  refine Wc.seq fun K5 hK5 => ?_
  refine Wc.region (by decide +kernel) ?_
  refine lex.pure (v := .slice Aletters_1 letters_1.length cletters_1) (pu_move rfl) ?_
  refine lex.pure (v := .int .i64 (letters_1.length : Int)) (pu_len (A := Aletters_1) (n := letters_1.length) (m := cletters_1) Try.underlying22 rfl) ?_
  refine lex.pure (v := .int .i64 0) (pu_move rfl) ?_
  refine lex.nil ?_
  refine hK5 _ _ ?_
  obtain ⟨o6, hl0, hb⟩ := bd hb
  refine Wc.cut (fun E wv => ∃ (l0_0 : List Int) (v10_0 : Int) (Al0_0 : Option Addr) (ml0_0 cl0_0 : Nat), E 0 = .slice Al0_0 ml0_0 cl0_0 ∧ E 4 = .slice none 0 0 ∧ I64 v10_0 ∧ Cx I O0 w wv [.own 3 (.int .i64) (.slice Al0_0 ml0_0 cl0_0) l0_0] ∧ (some l0_0 : Option ((List Int))) = some r) (fun K7 hK7 => ?_) ?_
  · refine Wc.block ?_
    refine Wc.loop (fun m E wv => ∃ (l0_0 : List Int) (v10_0 : Int) (Al0_0 : Option Addr) (ml0_0 cl0_0 : Nat), E 0 = .slice Al0_0 ml0_0 cl0_0 ∧ E 4 = .slice none 0 0 ∧ E 8 = .slice Aletters_1 letters_1.length cletters_1 ∧ E 9 = .int .i64 (letters_1.length : Int) ∧ E 10 = .int .i64 v10_0 ∧ I64 v10_0 ∧ Cx I O0 w wv [.own 3 (.int .i64) (.slice Al0_0 ml0_0 cl0_0) l0_0, .ro (.sl (.int .i64)) [.slice Aletters_1 letters_1.length cletters_1] letters_1] ∧ loopN m (F.word_push_b0 n letters_1) (l0_0, v10_0) = some o6) n ⟨stack_0, 0, Astack_0, stack_0.length, cstack_0, rfl, rfl, rfl, rfl, rfl, (show I64 0 from by unfold I64; omega), hC.sel [1, 0] (by decide), hl0⟩ ?_
    have hbK0 := hb
    clear hb hC hl0
    rintro m9 E11 w10 ⟨l0_0, v10_0, Al0_0, ml0_0, cl0_0, e0, e4, e8, e9, e10, hrv10_0, hC, hl0⟩ K8 hK8
    obtain ⟨m9', o12, rfl, hb, hl0⟩ := loopN_some hl0
    unfold F.word_push_b0 at hb
    obtain ⟨rfl, hll0_0, hcl0_0⟩ := (hC.ow (i := 0) rfl).sl_len
    refine Wc.seq fun K13 hK13 => ?_
    refine Wc.region (by decide +kernel) ?_
    refine lex.pure (v := .bool (decide (v10_0 < (letters_1.length : Int)))) (pu_lss (k := .i64) (a := v10_0) (b := (letters_1.length : Int)) e10 e9) ?_
    refine lex.nil ?_
    refine hK13 _ _ ?_
    refine Wc.seq fun K14 hK14 => ?_
    refine Wc.cond (t := (decide (v10_0 < (letters_1.length : Int)))) (rfl) (fun hq15 => ?_) (fun hq15 => ?_)
    · replace hb := (cT hq15).symm.trans hb
      refine Wc.skip ?_
      refine hK14 _ _ ?_
      refine Wc.seq fun K16 hK16 => ?_
      refine Wc.block ?_
      refine Wc.seq fun K17 hK17 => ?_
      refine Wc.region (by decide +kernel) ?_
      obtain ⟨x18, h19, hb⟩ := bd hb
      obtain ⟨ad20, cs21, hA, hc22, hr23⟩ := hC.elr (i := 1) rfl (get_some h19).2
      subst hA
      refine lex.pure (v := .pointer (some (ad20.add (v10_0.toNat * 1)))) (pu_index (a := v10_0) Try.underlying22 Try.sizeOf3 e8 e10 (get_some h19).1) ?_
      obtain ⟨rfl, hr23'⟩ := hr23
      refine lex.val (v := .int .i64 x18) (ld_one Try.isAgg3 rfl (hc22 0 _ rfl)) ?_
      refine lex.pure (v := .int .i64 x18) (pu_assign rfl) ?_
      refine lex.nil ?_
      refine hK17 _ _ ?_
      refine Wc.seq fun K24 hK24 => ?_
      refine Wc.region (by decide +kernel) ?_
      refine lex.pure (v := .slice Al0_0 l0_0.length cl0_0) (pu_move e0) ?_
      refine lex.pure (v := .int .i64 (l0_0.length : Int)) (pu_len (A := Al0_0) (n := l0_0.length) (m := cl0_0) Try.underlying82 rfl) ?_
      obtain ⟨z25, h26, hb⟩ := bd hb
      refine lex.pure (v := .int .i64 z25) (pu_subc (a := (l0_0.length : Int)) (b := 1) rfl rfl h26) ?_
      refine lex.pure (v := .int .i64 z25) (pu_assign rfl) ?_
      refine lex.nil ?_
      refine hK24 _ _ ?_
      refine Wc.seq fun K27 hK27 => ?_
      refine Wc.region (by decide +kernel) ?_
      refine lex.pure (v := .int .i64 z25) (pu_move rfl) ?_
      refine lex.pure (v := .bool (decide (0 ≤ z25))) (pu_geq (k := .i64) (a := z25) (b := 0) rfl rfl) ?_
      refine lex.pure (v := .bool (decide (0 ≤ z25))) (pu_move rfl) ?_
      rcases bS (decide (0 ≤ z25)) with hq28 | hq28
      · replace hb := (cT hq28).symm.trans hb
        refine lex.gpure (want_t rfl rfl (show _ = Value.bool (decide (0 ≤ z25)) from rfl) hq28) (v := .slice Al0_0 l0_0.length cl0_0) (pu_move e0) ?_
        refine lex.gpure (want_t rfl rfl (show _ = Value.bool (decide (0 ≤ z25)) from rfl) hq28) (v := .int .i64 z25) (pu_move rfl) ?_
        obtain ⟨x29, h30, hb⟩ := bd hb
        obtain ⟨ad31, cs32, hA, hc33, hr34⟩ := hC.elo (i := 0) rfl (get_some h30).2
        subst hA
        refine lex.gpure (want_t rfl rfl (show _ = Value.bool (decide (0 ≤ z25)) from rfl) hq28) (v := .pointer (some (ad31.add (z25.toNat * 1)))) (pu_index (a := z25) Try.underlying82 Try.sizeOf3 rfl rfl (get_some h30).1) ?_
        obtain ⟨rfl, hr34'⟩ := hr34
        refine lex.gval (want_t rfl rfl (show _ = Value.bool (decide (0 ≤ z25)) from rfl) hq28) (v := .int .i64 x29) (ld_one Try.isAgg3 rfl (hc33 0 _ rfl)) ?_
        refine lex.gpure (want_t rfl rfl (show _ = Value.bool (decide (0 ≤ z25)) from rfl) hq28) (v := .int .i64 x18) (pu_move rfl) ?_
        obtain ⟨z35, h36, hb⟩ := bd hb
        refine lex.gpure (want_t rfl rfl (show _ = Value.bool (decide (0 ≤ z25)) from rfl) hq28) (v := .int .i64 z35) (pu_negc (a := x18) rfl h36) ?_
        refine lex.gpure (want_t rfl rfl (show _ = Value.bool (decide (0 ≤ z25)) from rfl) hq28) (v := .bool (decide (x29 = z35))) (pu_eql (k := .i64) (a := x29) (b := z35) rfl rfl) ?_
        refine lex.pure (v := .bool (decide (x29 = z35))) (pu_pickT (q := (decide (0 ≤ z25))) rfl hq28 rfl) ?_
        refine lex.nil ?_
        refine hK27 _ _ ?_
        refine Wc.fresh fun E37 hE => ?_
        have e0 : E37 0 = .slice (some ad31) l0_0.length cl0_0 := (congrFun hE 0).trans e0
        have e4 : E37 4 = .slice none 0 0 := (congrFun hE 4).trans e4
        have e6 : E37 6 = .int .i64 x18 := (congrFun hE 6).trans rfl
        have e7 : E37 7 = .int .i64 z25 := (congrFun hE 7).trans rfl
        have e8 : E37 8 = .slice (some ad20) letters_1.length cletters_1 := (congrFun hE 8).trans e8
        have e9 : E37 9 = .int .i64 (letters_1.length : Int) := (congrFun hE 9).trans e9
        have e10 : E37 10 = .int .i64 v10_0 := (congrFun hE 10).trans e10
        have e11 : E37 11 = .bool (decide (v10_0 < (letters_1.length : Int))) := (congrFun hE 11).trans rfl
        have e27 : E37 27 = .bool (decide (x29 = z35)) := (congrFun hE 27).trans rfl
        clear hE
        refine Wc.cond (t := (decide (x29 = z35))) (e27) (fun hq38 => ?_) (fun hq38 => ?_)
        · replace hb := (cT hq38).symm.trans hb
          refine Wc.region (by decide +kernel) ?_
          refine lex.pure (v := .slice (some ad31) l0_0.length cl0_0) (pu_move e0) ?_
          refine lex.pure (v := .int .i64 z25) (pu_move e7) ?_
          obtain ⟨u39, h40, hb⟩ := bd hb
          refine lex.pure (v := .slice (some ad31) ((l0_0.take z25.toNat).length) cl0_0) (pu_cuth (b := z25) Try.underlying82 Try.sizeOf3 rfl rfl (hC.ow (i := 0) rfl).sl_len (cut_some h40)) ?_
          replace hC := hC.cuth (i := 0) rfl (k := z25.toNat) (by have := cut_some h40; omega)
          obtain ⟨-, hl41, hc42⟩ := (hC.ow (i := 0) rfl).sl_len
          refine lex.pure (v := .slice (some ad31) ((l0_0.take z25.toNat).length) cl0_0) (pu_assign rfl) ?_
          refine lex.nil ?_
          refine hK16 _ _ ?_
          refine Wc.region (by decide +kernel) ?_
          obtain ⟨z43, h44, hb⟩ := bd hb
          refine lex.pure (v := .int .i64 z43) (pu_addc (a := v10_0) (b := 1) e10 rfl h44) ?_
          refine lex.pure (v := .int .i64 z43) (pu_move rfl) ?_
          refine lex.nil ?_
          obtain rfl := Option.some.inj hb
          exact hK8 m9' _ _ (Nat.lt_succ_self _) ⟨(l0_0.take z25.toNat), z43, (some ad31), (l0_0.take z25.toNat).length, cl0_0, rfl, e4, e8, e9, rfl, (chk_rng h44), hC.sel [0, 1] (by decide), lN hl0⟩
        · replace hb := (cF hq38).symm.trans hb
          refine Wc.region (by decide +kernel) ?_
          refine lex.pure (v := .slice (some ad31) l0_0.length cl0_0) (pu_move e0) ?_
          refine lex.pure (v := .int .i64 x18) (pu_move e6) ?_
          refine lex.op (hC.lit (s := (.int .i64)) (vs := [.int .i64 x18]) (xs := [x18]) Try.underlying82 Try.type3 rfl rfl (Nat.le_of_ble_eq_true rfl) rfl rfl (by simp [Value.cells, Sh.n]) rfl (show Elems _ _ (.int .i64) ([.int .i64 x18] ++ ([])) ([x18] : List Int) from Elems.cons (⟨rfl, I64.wr (wrap_I64 hr23')⟩) (Elems.nil _ _ _))) ?_
          rintro _ w49 ⟨A45, c46, rfl, hl47, hc48, hC, hF, hN⟩
          clear hF hN
          obtain ⟨u51, h52, hb⟩ := bd hb
          refine lex.op (hC.app (i := 1) (s := (.int .i64)) (xs := l0_0) (ys := ([x18] : List Int)) (m := ((([x18] : List Int)).length)) rfl Try.underlying82 Try.underlying82 Try.type3 rfl rfl rfl (hC.srco (i := 0) rfl) rfl rfl (by have := lim_some h52; simp at this ⊢ <;> omega) (by decide)) ?_
          rintro _ w57 ⟨A53, c54, rfl, hl55, hc56, hC, hF, hN⟩
          clear hF hN
          refine lex.pure (v := .slice A53 ((l0_0 ++ ([x18] : List Int)).length) c54) (pu_assign rfl) ?_
          refine lex.nil ?_
          refine hK16 _ _ ?_
          refine Wc.region (by decide +kernel) ?_
          obtain ⟨z58, h59, hb⟩ := bd hb
          refine lex.pure (v := .int .i64 z58) (pu_addc (a := v10_0) (b := 1) e10 rfl h59) ?_
          refine lex.pure (v := .int .i64 z58) (pu_move rfl) ?_
          refine lex.nil ?_
          obtain rfl := Option.some.inj hb
          exact hK8 m9' _ _ (Nat.lt_succ_self _) ⟨(l0_0 ++ ([x18] : List Int)), z58, A53, (l0_0 ++ ([x18] : List Int)).length, c54, rfl, e4, e8, e9, rfl, (chk_rng h59), hC.sel [1, 2] (by decide), lN hl0⟩
      · replace hb := (cF hq28).symm.trans hb
        refine lex.gskip (want_f rfl rfl (show _ = Value.bool (decide (0 ≤ z25)) from rfl) hq28) ?_
        refine lex.gskip (want_f rfl rfl (show _ = Value.bool (decide (0 ≤ z25)) from rfl) hq28) ?_
        refine lex.gskip (want_f rfl rfl (show _ = Value.bool (decide (0 ≤ z25)) from rfl) hq28) ?_
        refine lex.gskip (want_f rfl rfl (show _ = Value.bool (decide (0 ≤ z25)) from rfl) hq28) ?_
        refine lex.gskip (want_f rfl rfl (show _ = Value.bool (decide (0 ≤ z25)) from rfl) hq28) ?_
        refine lex.gskip (want_f rfl rfl (show _ = Value.bool (decide (0 ≤ z25)) from rfl) hq28) ?_
        refine lex.gskip (want_f rfl rfl (show _ = Value.bool (decide (0 ≤ z25)) from rfl) hq28) ?_
        refine lex.pure (v := .bool false) (pu_pickF (q := (decide (0 ≤ z25))) rfl hq28 rfl) ?_
        refine lex.nil ?_
        refine hK27 _ _ ?_
        refine Wc.fresh fun E60 hE => ?_
        have e0 : E60 0 = .slice Al0_0 l0_0.length cl0_0 := (congrFun hE 0).trans e0
        have e4 : E60 4 = .slice none 0 0 := (congrFun hE 4).trans e4
        have e6 : E60 6 = .int .i64 x18 := (congrFun hE 6).trans rfl
        have e7 : E60 7 = .int .i64 z25 := (congrFun hE 7).trans rfl
        have e8 : E60 8 = .slice (some ad20) letters_1.length cletters_1 := (congrFun hE 8).trans e8
        have e9 : E60 9 = .int .i64 (letters_1.length : Int) := (congrFun hE 9).trans e9
        have e10 : E60 10 = .int .i64 v10_0 := (congrFun hE 10).trans e10
        have e11 : E60 11 = .bool (decide (v10_0 < (letters_1.length : Int))) := (congrFun hE 11).trans rfl
        have e27 : E60 27 = .bool false := (congrFun hE 27).trans rfl
        clear hE
        refine Wc.cond_false (e27) ?_
        refine Wc.region (by decide +kernel) ?_
        refine lex.pure (v := .slice Al0_0 l0_0.length cl0_0) (pu_move e0) ?_
        refine lex.pure (v := .int .i64 x18) (pu_move e6) ?_
        refine lex.op (hC.lit (s := (.int .i64)) (vs := [.int .i64 x18]) (xs := [x18]) Try.underlying82 Try.type3 rfl rfl (Nat.le_of_ble_eq_true rfl) rfl rfl (by simp [Value.cells, Sh.n]) rfl (show Elems _ _ (.int .i64) ([.int .i64 x18] ++ ([])) ([x18] : List Int) from Elems.cons (⟨rfl, I64.wr (wrap_I64 hr23')⟩) (Elems.nil _ _ _))) ?_
        rintro _ w65 ⟨A61, c62, rfl, hl63, hc64, hC, hF, hN⟩
        clear hF hN
        obtain ⟨u67, h68, hb⟩ := bd hb
        refine lex.op (hC.app (i := 1) (s := (.int .i64)) (xs := l0_0) (ys := ([x18] : List Int)) (m := ((([x18] : List Int)).length)) rfl Try.underlying82 Try.underlying82 Try.type3 rfl rfl rfl (hC.srco (i := 0) rfl) rfl rfl (by have := lim_some h68; simp at this ⊢ <;> omega) (by decide)) ?_
        rintro _ w73 ⟨A69, c70, rfl, hl71, hc72, hC, hF, hN⟩
        clear hF hN
        refine lex.pure (v := .slice A69 ((l0_0 ++ ([x18] : List Int)).length) c70) (pu_assign rfl) ?_
        refine lex.nil ?_
        refine hK16 _ _ ?_
        refine Wc.region (by decide +kernel) ?_
        obtain ⟨z74, h75, hb⟩ := bd hb
        refine lex.pure (v := .int .i64 z74) (pu_addc (a := v10_0) (b := 1) e10 rfl h75) ?_
        refine lex.pure (v := .int .i64 z74) (pu_move rfl) ?_
        refine lex.nil ?_
        obtain rfl := Option.some.inj hb
        exact hK8 m9' _ _ (Nat.lt_succ_self _) ⟨(l0_0 ++ ([x18] : List Int)), z74, A69, (l0_0 ++ ([x18] : List Int)).length, c70, rfl, e4, e8, e9, rfl, (chk_rng h75), hC.sel [1, 2] (by decide), lN hl0⟩
    · replace hb := (cF hq15).symm.trans hb
      refine Wc.exit rfl ?_
      obtain rfl := Option.some.inj hb
      obtain rfl := (lX hl0).symm
      exact hK7 _ _ ⟨l0_0, v10_0, Al0_0, l0_0.length, cl0_0, e0, e4, hrv10_0, hC.sel [0] (by decide), hbK0⟩
  · clear hb hC hl0
    rintro E77 w76 ⟨l0_0, v10_0, Al0_0, ml0_0, cl0_0, e0, e4, hrv10_0, hC, hb⟩
    obtain ⟨rfl, hll0_0, hcl0_0⟩ := (hC.ow (i := 0) rfl).sl_len
    refine hK4 _ _ ?_
    refine Wc.seq fun K78 hK78 => ?_
    refine Wc.region (by decide +kernel) ?_
    refine lex.pure (v := .slice Al0_0 l0_0.length cl0_0) (pu_move e0) ?_
    refine lex.pure (v := .slice Al0_0 l0_0.length cl0_0) (pu_assign rfl) ?_
    refine lex.nil ?_
    refine hK78 _ _ ?_
    obtain rfl := Option.some.inj hb
    subst hI
    refine Wc.ret ?_
    refine hKR _ _ ?_
    refine ⟨_, res1 Try.results93 (show RV _ _ _ (.tmp _) (.slice Al0_0 l0_0.length cl0_0) from rfl), _, rfl, Al0_0, l0_0.length, cl0_0, rfl, hC.sel [0] (by decide)⟩
end Go.Proofs.Ytkjpldmelafooaa
