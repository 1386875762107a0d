/- The walks: part 16. -/
import Derived.Test.YtlkmcbgkohpmiaaS
import Derived.Test.YtlkmcbgkohpmiaaG1
import Derived.Test.YtlkmcbgkohpmiaaG2
import Derived.Test.YtlkmcbgkohpmiaaG4
import Derived.Test.YtlkmcbgkohpmiaaG5
import Derived.Test.YtlkmcbgkohpmiaaG14
import Derived.Test.YtlkmcbgkohpmiaaG15
set_option linter.unusedVariables false
set_option linter.unusedSimpArgs false
namespace Go.Proofs.Ytlkmcbgkohpmiaa
open Ev
set_option maxRecDepth 100000 in
set_option maxHeartbeats 4000000 in
theorem law35_ArtinLong_ok (n : Nat) {w : World} {O0 : List Nat} (hO : ∀ k ∈ O0, k < w.heap.size) {times_0 : Int} (htimes_0 : IntKind.u8.wrap times_0 = times_0) {nx_1 : Int} (hnx_1 : IntKind.u16.wrap nx_1 = nx_1) {r : Bool} (hb : F.law35_ArtinLong n times_0 nx_1 = some r) :
    Calls Try.prog 5 #[.int .u8 times_0, .int .u16 nx_1] w fun e w' => ∃ v, e = .returned v ∧ v = .bool r ∧ Cx (fun _ => False) O0 w w' [] := by
  unfold F.law35_ArtinLong at hb
  have hC := Cx.start hO
  clear hO
  refine calls_of_Wc Try.func5 rfl (by rw [Try.ntmps5]; exact Nat.le_of_ble_eq_true rfl) fun KR hKR => ?_
  refine Wc.seq fun K1 hK1 => ?_
  refine Wc.region (by decide +kernel) ?_
  refine lex.pure (v := .bool false) (pu_assign rfl) ?_
  refine lex.nil ?_
  refine hK1 _ _ ?_
  refine Wc.seq fun K2 hK2 => ?_
  refine Wc.seq fun K3 hK3 => ?_
  refine Wc.region (by decide +kernel) ?_
  obtain ⟨y4, h5, hb⟩ := bd hb
  refine lex.cl (⟨_, _, op_call (vs := []) Try.call9 rfl rfl rfl, law35_awake_ok n hC.lt  h5⟩) ?_
  rintro _ w6 ⟨rfl, hK⟩
  replace hC := hC.merge hK
  clear hK
  refine lex.pure (v := .bool (!y4)) (pu_not (q := y4) rfl) ?_
  refine lex.nil ?_
  refine hK3 _ _ ?_
  refine Wc.cond (t := (!y4)) (rfl) (fun hq7 => ?_) (fun hq7 => ?_)
  · replace hb := (cT hq7).symm.trans hb
    refine Wc.seq fun K8 hK8 => ?_
    refine Wc.region (by decide +kernel) ?_
    refine lex.pure (v := .bool false) (pu_assign rfl) ?_
    refine lex.nil ?_
    refine hK8 _ _ ?_
    obtain rfl := Option.some.inj hb
    refine Wc.ret ?_
    refine hKR _ _ ?_
    refine ⟨_, res1 Try.results5 (show RV _ _ _ (.tmp _) (.bool false) from rfl), _, rfl, rfl, hC.sel [] (by decide)⟩
  · replace hb := (cF hq7).symm.trans hb
    refine Wc.skip ?_
    refine hK2 _ _ ?_
    refine Wc.seq fun K9 hK9 => ?_
    refine Wc.region (by decide +kernel) ?_
    refine lex.pure (v := .agg #[.int .i64 3, .slice none 0 0]) (pu_builds (places := [(0, 1), (1, 1)]) (pv := [(0, .int .i64 3)]) Try.type24 Try.underlying24 rfl (mp_cons Try.type3 (mp_cons Try.type22 mp_nil rfl rfl) rfl rfl) rfl (by simp [Instr.fill, Value.cells])) ?_
    refine lex.op (hC.alloc (cs := [.int .i64 0, .slice none 0 0]) Try.zeroValue24 rfl) ?_
    rintro _ w11 ⟨g10, rfl, hC, hF, hG⟩
    clear hG
    refine lex.sk (hC.seta (i := 0) (ds := [.int .i64 3, .slice none 0 0]) rfl Try.type24 rfl rfl rfl rfl rfl) ?_
    rintro w13 ⟨hC, hF⟩
    refine lex.nil ?_
    refine hK9 _ _ ?_
    refine Wc.seq fun K14 hK14 => ?_
    refine Wc.seq fun K15 hK15 => ?_
    refine Wc.region (by decide +kernel) ?_
    refine lex.pure (v := .int .u8 times_0) (pu_move rfl) ?_
    refine lex.pure (v := .int .i64 times_0) (pu_conv (k := .u8) (a := times_0) Try.underlying5 Try.underlying3 rfl (small_u8 htimes_0).wr) ?_
    obtain ⟨u16, h17, hb⟩ := bd hb
    refine lex.pure (v := .int .i64 (Int.tmod times_0 50)) (pu_remc (a := times_0) (b := 50) rfl rfl h17) ?_
    obtain ⟨z18, h19, hb⟩ := bd hb
    refine lex.pure (v := .int .i64 z18) (pu_addc (a := (Int.tmod times_0 50)) (b := 1) rfl rfl h19) ?_
    refine lex.pure (v := .int .i64 0) (pu_move rfl) ?_
    refine lex.nil ?_
    refine hK15 _ _ ?_
    refine Wc.fresh fun E20 hE => ?_
    have e1 : E20 1 = .int .u16 nx_1 := (congrFun hE 1).trans rfl
    have e4 : E20 4 = .bool false := (congrFun hE 4).trans rfl
    have e5 : E20 5 = .pointer (some ⟨g10, 0, none⟩) := (congrFun hE 5).trans rfl
    have e22 : E20 22 = .int .i64 z18 := (congrFun hE 22).trans rfl
    have e23 : E20 23 = .int .i64 0 := (congrFun hE 23).trans rfl
    clear hE
    replace hC := hC.nil 3 (.int .i64)
    obtain ⟨o22, hl0, hb⟩ := bd hb
    refine Wc.cut (fun E wv => ∃ (v23_0 : Int) (kf12_1_0 : List Int) (Akf12_1_0 : Option Addr) (mkf12_1_0 ckf12_1_0 : Nat), E 1 = .int .u16 nx_1 ∧ E 4 = .bool false ∧ E 5 = .pointer (some ⟨g10, 0, none⟩) ∧ I64 v23_0 ∧ Cx (fun _ => False) O0 w wv [.box g10 24 [.int .i64 3, .slice Akf12_1_0 mkf12_1_0 ckf12_1_0], .own 3 (.int .i64) (.slice Akf12_1_0 mkf12_1_0 ckf12_1_0) kf12_1_0] ∧ ((F.ref35_Images n 3 kf12_1_0).bind fun y52 => (F.artin_Images n 3 kf12_1_0).bind fun y63 => (F.artin_Group n 3 kf12_1_0).bind fun y74 => cond (!(y52.2 == (decide (y63.2 = 0)))) (some false) (cond (!(y52.2 == (decide (y74.2.2.2 = 0)))) (some false) (cond (!y52.2) (cond (!(decide (y63.2 = 5))) (some false) (cond (!(decide (y74.2.2.2 = 5))) (some false) (cond (!(decide ((y63.1.length : Int) = 0))) (some false) (cond (!(decide (y74.1 = 0))) (some false) ((F.artin_Trivial n 3 kf12_1_0).bind fun y111 => cond y111 (some false) (F.law35_ArtinLong_j1 n nx_1)))))) ((F.artin_Trivial n 3 kf12_1_0).bind fun y116 => cond y116 (some false) (F.law35_ArtinLong_j1 n nx_1)))) : Option (Bool)) = some r) (fun K23 hK23 => ?_) ?_
    · refine Wc.block ?_
      refine Wc.loop (fun m E wv => ∃ (v23_0 : Int) (kf12_1_0 : List Int) (Akf12_1_0 : Option Addr) (mkf12_1_0 ckf12_1_0 : Nat), E 1 = .int .u16 nx_1 ∧ E 4 = .bool false ∧ E 5 = .pointer (some ⟨g10, 0, none⟩) ∧ E 22 = .int .i64 z18 ∧ E 23 = .int .i64 v23_0 ∧ I64 v23_0 ∧ Cx (fun _ => False) O0 w wv [.box g10 24 [.int .i64 3, .slice Akf12_1_0 mkf12_1_0 ckf12_1_0], .own 3 (.int .i64) (.slice Akf12_1_0 mkf12_1_0 ckf12_1_0) kf12_1_0] ∧ loopN m (F.law35_ArtinLong_b0 n z18) (v23_0, kf12_1_0) = some o22) n ⟨0, ([] : List Int), none, 0, 0, e1, e4, e5, e22, e23, (show I64 0 from by unfold I64; omega), hC.sel [1, 0] (by decide), hl0⟩ ?_
      have hbK0 := hb
      clear hb hC hl0
      rintro m25 E27 w26 ⟨v23_0, kf12_1_0, Akf12_1_0, mkf12_1_0, ckf12_1_0, e1, e4, e5, e22, e23, hrv23_0, hC, hl0⟩ K24 hK24
      obtain ⟨m25', o28, rfl, hb, hl0⟩ := loopN_some hl0
      unfold F.law35_ArtinLong_b0 at hb
      obtain ⟨rfl, hlkf12_1_0, hckf12_1_0⟩ := (hC.ow (i := 1) rfl).sl_len
      refine Wc.seq fun K29 hK29 => ?_
      refine Wc.region (by decide +kernel) ?_
      refine lex.pure (v := .bool (decide (v23_0 < z18))) (pu_lss (k := .i64) (a := v23_0) (b := z18) e23 e22) ?_
      refine lex.nil ?_
      refine hK29 _ _ ?_
      refine Wc.seq fun K30 hK30 => ?_
      refine Wc.cond (t := (decide (v23_0 < z18))) (rfl) (fun hq31 => ?_) (fun hq31 => ?_)
      · replace hb := (cT hq31).symm.trans hb
        refine Wc.skip ?_
        refine hK30 _ _ ?_
        refine Wc.seq fun K32 hK32 => ?_
        refine Wc.block ?_
        refine Wc.region (by decide +kernel) ?_
        refine lex.pure (v := .pointer (some ((⟨g10, 0, none⟩ : Addr).add 1))) (pu_field (sz := 1) Try.underlying24 rfl Try.sizeOf22 (by decide) rfl e5) ?_
        refine lex.val (v := .slice Akf12_1_0 kf12_1_0.length ckf12_1_0) (ld_fld (hC.bx (i := 0) rfl) Try.isAgg22 rfl rfl) ?_
        refine lex.op (hC.lit (s := (.int .i64)) (vs := [.int .i64 1, .int .i64 (-2)]) (xs := [1, (-2)]) Try.underlying22 Try.type3 rfl rfl (Nat.le_of_ble_eq_true rfl) rfl rfl (by simp [Value.cells, Sh.n]) rfl (show Elems _ _ (.int .i64) ([.int .i64 1] ++ ([.int .i64 (-2)] ++ ([]))) ([1, (-2)] : List Int) from Elems.cons (⟨rfl, I64.wr (show I64 1 from by unfold I64; omega)⟩) (Elems.cons (⟨rfl, I64.wr (show I64 (-2) from by unfold I64; omega)⟩) (Elems.nil _ _ _)))) ?_
        rintro _ w37 ⟨A33, c34, rfl, hl35, hc36, hC, hF, hN⟩
        clear hF hN
        obtain ⟨u39, h40, hb⟩ := bd hb
        refine lex.op (hC.app (i := 2) (s := (.int .i64)) (xs := kf12_1_0) (ys := ([1, (-2)] : List Int)) (m := ((([1, (-2)] : List Int)).length)) rfl Try.underlying22 Try.underlying22 Try.type3 rfl rfl rfl (hC.srco (i := 0) rfl) rfl rfl (by have := lim_some h40; simp at this ⊢ <;> omega) (by decide)) ?_
        rintro _ w45 ⟨A41, c42, rfl, hl43, hc44, hC, hF, hN⟩
        clear hF hN
        refine lex.pure (v := .pointer (some ((⟨g10, 0, none⟩ : Addr).add 1))) (pu_field (sz := 1) Try.underlying24 rfl Try.sizeOf22 (by decide) rfl e5) ?_
        refine lex.sk (hC.setf (i := 1) (k := 1) (v := .slice A41 ((kf12_1_0 ++ ([1, (-2)] : List Int)).length) c42) rfl Try.sizeOf22 rfl rfl rfl rfl) ?_
        rintro w46 ⟨hC, hF⟩
        refine lex.nil ?_
        refine hK32 _ _ ?_
        refine Wc.region (by decide +kernel) ?_
        obtain ⟨z47, h48, hb⟩ := bd hb
        refine lex.pure (v := .int .i64 z47) (pu_addc (a := v23_0) (b := 1) e23 rfl h48) ?_
        refine lex.pure (v := .int .i64 z47) (pu_move rfl) ?_
        refine lex.nil ?_
        obtain rfl := Option.some.inj hb
        exact hK24 m25' _ _ (Nat.lt_succ_self _) ⟨z47, (kf12_1_0 ++ ([1, (-2)] : List Int)), A41, (kf12_1_0 ++ ([1, (-2)] : List Int)).length, c42, e1, e4, e5, e22, rfl, (chk_rng h48), hC.sel [1, 2] (by decide), lN hl0⟩
      · replace hb := (cF hq31).symm.trans hb
        refine Wc.exit rfl ?_
        obtain rfl := Option.some.inj hb
        obtain rfl := (lX hl0).symm
        exact hK23 _ _ ⟨v23_0, kf12_1_0, Akf12_1_0, kf12_1_0.length, ckf12_1_0, e1, e4, e5, hrv23_0, hC.sel [0, 1] (by decide), hbK0⟩
    · clear hb hC hl0
      rintro E50 w49 ⟨v23_0, kf12_1_0, Akf12_1_0, mkf12_1_0, ckf12_1_0, e1, e4, e5, hrv23_0, hC, hb⟩
      obtain ⟨rfl, hlkf12_1_0, hckf12_1_0⟩ := (hC.ow (i := 1) rfl).sl_len
      refine hK14 _ _ ?_
      refine Wc.seq fun K51 hK51 => ?_
      refine Wc.region (by decide +kernel) ?_
      refine lex.pure (v := .pointer (some ((⟨g10, 0, none⟩ : Addr).add 0))) (pu_field (sz := 1) Try.underlying24 rfl Try.sizeOf3 (by decide) rfl e5) ?_
      refine lex.val (v := .int .i64 3) (ld_fld (hC.bx (i := 0) rfl) Try.isAgg3 rfl rfl) ?_
      refine lex.pure (v := .pointer (some ((⟨g10, 0, none⟩ : Addr).add 1))) (pu_field (sz := 1) Try.underlying24 rfl Try.sizeOf22 (by decide) rfl e5) ?_
      refine lex.val (v := .slice Akf12_1_0 kf12_1_0.length ckf12_1_0) (ld_fld (hC.bx (i := 0) rfl) Try.isAgg22 rfl rfl) ?_
      replace hC := hC.freeze (i := 1) rfl (hC.own_new (i := 1) rfl)
      obtain ⟨y52, h53, hb⟩ := bd hb
      refine lex.cl (⟨_, _, op_call (vs := [.int .i64 3, .slice Akf12_1_0 kf12_1_0.length ckf12_1_0]) Try.call20 rfl rfl rfl, ref35_Images_ok n hC.lt (show I64 3 from by unfold I64; omega) (hC.rd (i := 1) rfl) h53⟩) ?_
      rintro _ w58 ⟨A54, m55, c56, rfl, hK⟩
      replace hC := hC.merge hK
      clear hK
      obtain ⟨rfl, hl59, hc60⟩ := (hC.ow (i := 0) rfl).sl_len
      refine lex.pure (v := .tuple #[.slice A54 y52.1.length c56, .bool y52.2]) (pu_move rfl) ?_
      refine lex.pure (v := .slice A54 y52.1.length c56) (pu_extract rfl rfl) ?_
      refine lex.pure (v := .bool y52.2) (pu_extract rfl rfl) ?_
      refine lex.pure (v := .slice A54 y52.1.length c56) (pu_assign rfl) ?_
      refine lex.pure (v := .bool y52.2) (pu_assign rfl) ?_
      refine lex.nil ?_
      refine hK51 _ _ ?_
      refine Wc.fresh fun E61 hE => ?_
      have e1 : E61 1 = .int .u16 nx_1 := (congrFun hE 1).trans e1
      have e4 : E61 4 = .bool false := (congrFun hE 4).trans e4
      have e5 : E61 5 = .pointer (some ⟨g10, 0, none⟩) := (congrFun hE 5).trans e5
      have e7 : E61 7 = .bool y52.2 := (congrFun hE 7).trans rfl
      clear hE
      refine Wc.seq fun K62 hK62 => ?_
      refine Wc.region (by decide +kernel) ?_
      refine lex.val (v := .agg #[.int .i64 3, .slice Akf12_1_0 kf12_1_0.length ckf12_1_0]) (ld_blk (hC.bx (i := 1) rfl) Try.isAgg24 Try.sizeOf24 e5) ?_
      obtain ⟨y63, h64, hb⟩ := bd hb
      refine lex.cl (⟨_, _, op_call (vs := [.agg #[.int .i64 3, .slice Akf12_1_0 kf12_1_0.length ckf12_1_0]]) Try.call17 rfl rfl rfl, artin_Images_ok n hC.lt (show I64 3 from by unfold I64; omega) (hC.rd (i := 2) rfl) h64⟩) ?_
      rintro _ w70 ⟨A65, m66, c67, rfl, hr69, hK⟩
      replace hC := hC.merge hK
      clear hK
      obtain ⟨rfl, hl71, hc72⟩ := (hC.ow (i := 0) rfl).sl_len
      refine lex.pure (v := .tuple #[.slice A65 y63.1.length c67, .int .i64 y63.2]) (pu_move rfl) ?_
      refine lex.pure (v := .slice A65 y63.1.length c67) (pu_extract rfl rfl) ?_
      refine lex.pure (v := .int .i64 y63.2) (pu_extract rfl rfl) ?_
      refine lex.pure (v := .slice A65 y63.1.length c67) (pu_assign rfl) ?_
      refine lex.pure (v := .int .i64 y63.2) (pu_assign rfl) ?_
      refine lex.nil ?_
      refine hK62 _ _ ?_
      refine Wc.seq fun K73 hK73 => ?_
      refine Wc.region (by decide +kernel) ?_
      refine lex.val (v := .agg #[.int .i64 3, .slice Akf12_1_0 kf12_1_0.length ckf12_1_0]) (ld_blk (hC.bx (i := 2) rfl) Try.isAgg24 Try.sizeOf24 e5) ?_
      obtain ⟨y74, h75, hb⟩ := bd hb
      refine lex.cl (⟨_, _, op_call (vs := [.agg #[.int .i64 3, .slice Akf12_1_0 kf12_1_0.length ckf12_1_0]]) Try.call21 rfl rfl rfl, artin_Group_ok n hC.lt (show I64 3 from by unfold I64; omega) (hC.rd (i := 3) rfl) h75⟩) ?_
      rintro _ w86 ⟨A77, m78, c79, A81, m82, c83, rfl, hr76, hr85, hK⟩
      replace hC := hC.merge hK
      clear hK
      obtain ⟨rfl, hl87, hc88⟩ := (hC.ow (i := 0) rfl).sl_len
      obtain ⟨rfl, hl89, hc90⟩ := (hC.ow (i := 1) rfl).sl_len
      refine lex.pure (v := .tuple #[.agg #[.int .i64 y74.1, .slice A77 y74.2.1.length c79, .slice A81 y74.2.2.1.length c83], .int .i64 y74.2.2.2]) (pu_move rfl) ?_
      refine lex.pure (v := .agg #[.int .i64 y74.1, .slice A77 y74.2.1.length c79, .slice A81 y74.2.2.1.length c83]) (pu_extract rfl rfl) ?_
      refine lex.pure (v := .int .i64 y74.2.2.2) (pu_extract rfl rfl) ?_
      refine lex.op (hC.alloc (cs := [.int .i64 0, .slice none 0 0, .slice none 0 0]) Try.zeroValue48 rfl) ?_
      rintro _ w92 ⟨g91, rfl, hC, hF, hG⟩
      clear hG
      refine lex.sk (hC.seta (i := 0) (ds := [.int .i64 y74.1, .slice A77 y74.2.1.length c79, .slice A81 y74.2.2.1.length c83]) rfl Try.type48 rfl rfl rfl rfl rfl) ?_
      rintro w94 ⟨hC, hF⟩
      refine lex.pure (v := .int .i64 y74.2.2.2) (pu_assign rfl) ?_
      refine lex.nil ?_
      refine hK73 _ _ ?_
      refine Wc.fresh fun E95 hE => ?_
      have e1 : E95 1 = .int .u16 nx_1 := (congrFun hE 1).trans e1
      have e4 : E95 4 = .bool false := (congrFun hE 4).trans e4
      have e5 : E95 5 = .pointer (some ⟨g10, 0, none⟩) := (congrFun hE 5).trans e5
      have e7 : E95 7 = .bool y52.2 := (congrFun hE 7).trans e7
      have e8 : E95 8 = .slice A65 y63.1.length c67 := (congrFun hE 8).trans rfl
      have e9 : E95 9 = .int .i64 y63.2 := (congrFun hE 9).trans rfl
      have e10 : E95 10 = .pointer (some ⟨g91, 0, none⟩) := (congrFun hE 10).trans rfl
      have e11 : E95 11 = .int .i64 y74.2.2.2 := (congrFun hE 11).trans rfl
      clear hE
      refine Wc.seqJ (fun E wv => E 1 = .int .u16 nx_1 ∧ E 4 = .bool false ∧ Cx (fun _ => False) O0 w wv [] ∧ F.law35_ArtinLong_j1 n nx_1 = some r) (fun K96 hK96 => ?_) ?_
      ·
        skip
        refine Wc.seq fun K97 hK97 => ?_
        refine Wc.region (by decide +kernel) ?_
        refine lex.pure (v := .bool y52.2) (pu_move e7) ?_
        refine lex.pure (v := .int .i64 y63.2) (pu_move e9) ?_
        refine lex.pure (v := .bool (decide (y63.2 = 0))) (pu_eql (k := .i64) (a := y63.2) (b := 0) rfl rfl) ?_
        refine lex.pure (v := .bool (!(y52.2 == (decide (y63.2 = 0))))) (pu_neqb (p := y52.2) (q := (decide (y63.2 = 0))) Try.underlying4 rfl rfl) ?_
        refine lex.pure (v := .bool (!(y52.2 == (decide (y63.2 = 0))))) (pu_move rfl) ?_
        rcases bS (!(y52.2 == (decide (y63.2 = 0)))) with hq98 | hq98
        · replace hb := (cT hq98).symm.trans hb
          refine lex.gskip (want_f rfl rfl (show _ = Value.bool (!(y52.2 == (decide (y63.2 = 0)))) from rfl) hq98) ?_
          refine lex.gskip (want_f rfl rfl (show _ = Value.bool (!(y52.2 == (decide (y63.2 = 0)))) from rfl) hq98) ?_
          refine lex.gskip (want_f rfl rfl (show _ = Value.bool (!(y52.2 == (decide (y63.2 = 0)))) from rfl) hq98) ?_
          refine lex.gskip (want_f rfl rfl (show _ = Value.bool (!(y52.2 == (decide (y63.2 = 0)))) from rfl) hq98) ?_
          refine lex.pure (v := .bool true) (pu_pickT (q := (!(y52.2 == (decide (y63.2 = 0))))) rfl hq98 rfl) ?_
          refine lex.pure (v := .bool true) (pu_move rfl) ?_
          refine lex.gskip (want_f rfl rfl (show _ = Value.bool true from rfl) rfl) ?_
          refine lex.gskip (want_f rfl rfl (show _ = Value.bool true from rfl) rfl) ?_
          refine lex.gskip (want_f rfl rfl (show _ = Value.bool true from rfl) rfl) ?_
          refine lex.gskip (want_n rfl rfl rfl) ?_
          refine lex.gskip (want_n rfl rfl rfl) ?_
          refine lex.gskip (want_n rfl rfl rfl) ?_
          refine lex.gskip (want_n rfl rfl rfl) ?_
          refine lex.gskip (want_n rfl rfl rfl) ?_
          refine lex.gskip (want_n rfl rfl rfl) ?_
          refine lex.gskip (want_n rfl rfl rfl) ?_
          refine lex.gskip (want_n rfl rfl rfl) ?_
          refine lex.gskip (want_n rfl rfl rfl) ?_
          refine lex.gskip (want_n rfl rfl rfl) ?_
          refine lex.gskip (want_n rfl rfl rfl) ?_
          refine lex.gskip (want_n rfl rfl rfl) ?_
          refine lex.gskip (want_n rfl rfl rfl) ?_
          refine lex.gskip (want_n rfl rfl rfl) ?_
          refine lex.gskip (want_n rfl rfl rfl) ?_
          refine lex.gskip (want_n rfl rfl rfl) ?_
          refine lex.gskip (want_f rfl rfl (show _ = Value.bool true from rfl) rfl) ?_
          refine lex.pure (v := .bool true) (pu_pickT (q := true) rfl rfl rfl) ?_
          refine lex.pure (v := .bool true) (pu_move rfl) ?_
          refine lex.gskip (want_f rfl rfl (show _ = Value.bool true from rfl) rfl) ?_
          refine lex.gskip (want_f rfl rfl (show _ = Value.bool true from rfl) rfl) ?_
          refine lex.pure (v := .bool true) (pu_pickT (q := true) rfl rfl rfl) ?_
          refine lex.nil ?_
          refine hK97 _ _ ?_
          refine Wc.cond_true (rfl) ?_
          refine Wc.seq fun K99 hK99 => ?_
          refine Wc.region (by decide +kernel) ?_
          refine lex.pure (v := .bool false) (pu_assign rfl) ?_
          refine lex.nil ?_
          refine hK99 _ _ ?_
          obtain rfl := Option.some.inj hb
          refine Wc.ret ?_
          refine hKR _ _ ?_
          refine ⟨_, res1 Try.results5 (show RV _ _ _ (.tmp _) (.bool false) from rfl), _, rfl, rfl, hC.sel [] (by decide)⟩
        · replace hb := (cF hq98).symm.trans hb
          refine lex.gpure (want_t rfl rfl (show _ = Value.bool (!(y52.2 == (decide (y63.2 = 0)))) from rfl) hq98) (v := .bool y52.2) (pu_move e7) ?_
          refine lex.gpure (want_t rfl rfl (show _ = Value.bool (!(y52.2 == (decide (y63.2 = 0)))) from rfl) hq98) (v := .int .i64 y74.2.2.2) (pu_move e11) ?_
          refine lex.gpure (want_t rfl rfl (show _ = Value.bool (!(y52.2 == (decide (y63.2 = 0)))) from rfl) hq98) (v := .bool (decide (y74.2.2.2 = 0))) (pu_eql (k := .i64) (a := y74.2.2.2) (b := 0) rfl rfl) ?_
          refine lex.gpure (want_t rfl rfl (show _ = Value.bool (!(y52.2 == (decide (y63.2 = 0)))) from rfl) hq98) (v := .bool (!(y52.2 == (decide (y74.2.2.2 = 0))))) (pu_neqb (p := y52.2) (q := (decide (y74.2.2.2 = 0))) Try.underlying4 rfl rfl) ?_
          refine lex.pure (v := .bool (!(y52.2 == (decide (y74.2.2.2 = 0))))) (pu_pickF (q := (!(y52.2 == (decide (y63.2 = 0))))) rfl hq98 rfl) ?_
          refine lex.pure (v := .bool (!(y52.2 == (decide (y74.2.2.2 = 0))))) (pu_move rfl) ?_
          rcases bS (!(y52.2 == (decide (y74.2.2.2 = 0)))) with hq100 | hq100
          · replace hb := (cT hq100).symm.trans hb
            refine lex.gskip (want_f rfl rfl (show _ = Value.bool (!(y52.2 == (decide (y74.2.2.2 = 0)))) from rfl) hq100) ?_
            refine lex.gskip (want_f rfl rfl (show _ = Value.bool (!(y52.2 == (decide (y74.2.2.2 = 0)))) from rfl) hq100) ?_
            refine lex.gskip (want_f rfl rfl (show _ = Value.bool (!(y52.2 == (decide (y74.2.2.2 = 0)))) from rfl) hq100) ?_
            refine lex.gskip (want_n rfl rfl rfl) ?_
            refine lex.gskip (want_n rfl rfl rfl) ?_
            refine lex.gskip (want_n rfl rfl rfl) ?_
            refine lex.gskip (want_n rfl rfl rfl) ?_
            refine lex.gskip (want_n rfl rfl rfl) ?_
            refine lex.gskip (want_n rfl rfl rfl) ?_
            refine lex.gskip (want_n rfl rfl rfl) ?_
            refine lex.gskip (want_n rfl rfl rfl) ?_
            refine lex.gskip (want_n rfl rfl rfl) ?_
            refine lex.gskip (want_n rfl rfl rfl) ?_
            refine lex.gskip (want_n rfl rfl rfl) ?_
            refine lex.gskip (want_n rfl rfl rfl) ?_
            refine lex.gskip (want_n rfl rfl rfl) ?_
            refine lex.gskip (want_n rfl rfl rfl) ?_
            refine lex.gskip (want_n rfl rfl rfl) ?_
            refine lex.gskip (want_n rfl rfl rfl) ?_
            refine lex.gskip (want_f rfl rfl (show _ = Value.bool (!(y52.2 == (decide (y74.2.2.2 = 0)))) from rfl) hq100) ?_
            refine lex.pure (v := .bool true) (pu_pickT (q := (!(y52.2 == (decide (y74.2.2.2 = 0))))) rfl hq100 rfl) ?_
            refine lex.pure (v := .bool true) (pu_move rfl) ?_
            refine lex.gskip (want_f rfl rfl (show _ = Value.bool true from rfl) rfl) ?_
            refine lex.gskip (want_f rfl rfl (show _ = Value.bool true from rfl) rfl) ?_
            refine lex.pure (v := .bool true) (pu_pickT (q := true) rfl rfl rfl) ?_
            refine lex.nil ?_
            refine hK97 _ _ ?_
            refine Wc.cond_true (rfl) ?_
            refine Wc.seq fun K101 hK101 => ?_
            refine Wc.region (by decide +kernel) ?_
            refine lex.pure (v := .bool false) (pu_assign rfl) ?_
            refine lex.nil ?_
            refine hK101 _ _ ?_
            obtain rfl := Option.some.inj hb
            refine Wc.ret ?_
            refine hKR _ _ ?_
            refine ⟨_, res1 Try.results5 (show RV _ _ _ (.tmp _) (.bool false) from rfl), _, rfl, rfl, hC.sel [] (by decide)⟩
          · replace hb := (cF hq100).symm.trans hb
            refine lex.gpure (want_t rfl rfl (show _ = Value.bool (!(y52.2 == (decide (y74.2.2.2 = 0)))) from rfl) hq100) (v := .bool y52.2) (pu_move e7) ?_
            refine lex.gpure (want_t rfl rfl (show _ = Value.bool (!(y52.2 == (decide (y74.2.2.2 = 0)))) from rfl) hq100) (v := .bool (!y52.2)) (pu_not (q := y52.2) rfl) ?_
            refine lex.gpure (want_t rfl rfl (show _ = Value.bool (!(y52.2 == (decide (y74.2.2.2 = 0)))) from rfl) hq100) (v := .bool (!y52.2)) (pu_move rfl) ?_
            rcases bS (!y52.2) with hq102 | hq102
            · replace hb := (cT hq102).symm.trans hb
              refine lex.gpure (want_t rfl rfl (show _ = Value.bool (!y52.2) from rfl) hq102) (v := .int .i64 y63.2) (pu_move e9) ?_
              refine lex.gpure (want_t rfl rfl (show _ = Value.bool (!y52.2) from rfl) hq102) (v := .bool (!(decide (y63.2 = 5)))) (pu_neq (k := .i64) (a := y63.2) (b := 5) rfl rfl) ?_
              refine lex.gpure (want_t rfl rfl (show _ = Value.bool (!y52.2) from rfl) hq102) (v := .bool (!(decide (y63.2 = 5)))) (pu_move rfl) ?_
              rcases bS (!(decide (y63.2 = 5))) with hq103 | hq103
              · replace hb := (cT hq103).symm.trans hb
                refine lex.gskip (want_f rfl rfl (show _ = Value.bool (!(decide (y63.2 = 5))) from rfl) hq103) ?_
                refine lex.gskip (want_f rfl rfl (show _ = Value.bool (!(decide (y63.2 = 5))) from rfl) hq103) ?_
                refine lex.gpure (want_t rfl rfl (show _ = Value.bool (!y52.2) from rfl) hq102) (v := .bool true) (pu_pickT (q := (!(decide (y63.2 = 5)))) rfl hq103 rfl) ?_
                refine lex.gpure (want_t rfl rfl (show _ = Value.bool (!y52.2) from rfl) hq102) (v := .bool true) (pu_move rfl) ?_
                refine lex.gskip (want_f rfl rfl (show _ = Value.bool true from rfl) rfl) ?_
                refine lex.gskip (want_f rfl rfl (show _ = Value.bool true from rfl) rfl) ?_
                refine lex.gskip (want_f rfl rfl (show _ = Value.bool true from rfl) rfl) ?_
                refine lex.gpure (want_t rfl rfl (show _ = Value.bool (!y52.2) from rfl) hq102) (v := .bool true) (pu_pickT (q := true) rfl rfl rfl) ?_
                refine lex.gpure (want_t rfl rfl (show _ = Value.bool (!y52.2) from rfl) hq102) (v := .bool true) (pu_move rfl) ?_
                refine lex.gskip (want_f rfl rfl (show _ = Value.bool true from rfl) rfl) ?_
                refine lex.gskip (want_f rfl rfl (show _ = Value.bool true from rfl) rfl) ?_
                refine lex.gskip (want_f rfl rfl (show _ = Value.bool true from rfl) rfl) ?_
                refine lex.gpure (want_t rfl rfl (show _ = Value.bool (!y52.2) from rfl) hq102) (v := .bool true) (pu_pickT (q := true) rfl rfl rfl) ?_
                refine lex.gpure (want_t rfl rfl (show _ = Value.bool (!(y52.2 == (decide (y74.2.2.2 = 0)))) from rfl) hq100) (v := .bool true) (pu_pickT (q := (!y52.2)) rfl hq102 rfl) ?_
                refine lex.pure (v := .bool true) (pu_pickF (q := (!(y52.2 == (decide (y74.2.2.2 = 0))))) rfl hq100 rfl) ?_
                refine lex.pure (v := .bool true) (pu_move rfl) ?_
                refine lex.gskip (want_f rfl rfl (show _ = Value.bool true from rfl) rfl) ?_
                refine lex.gskip (want_f rfl rfl (show _ = Value.bool true from rfl) rfl) ?_
                refine lex.pure (v := .bool true) (pu_pickT (q := true) rfl rfl rfl) ?_
                refine lex.nil ?_
                refine hK97 _ _ ?_
                refine Wc.cond_true (rfl) ?_
                refine Wc.seq fun K104 hK104 => ?_
                refine Wc.region (by decide +kernel) ?_
                refine lex.pure (v := .bool false) (pu_assign rfl) ?_
                refine lex.nil ?_
                refine hK104 _ _ ?_
                obtain rfl := Option.some.inj hb
                refine Wc.ret ?_
                refine hKR _ _ ?_
                refine ⟨_, res1 Try.results5 (show RV _ _ _ (.tmp _) (.bool false) from rfl), _, rfl, rfl, hC.sel [] (by decide)⟩
              · replace hb := (cF hq103).symm.trans hb
                refine lex.gpure (want_t rfl rfl (show _ = Value.bool (!(decide (y63.2 = 5))) from rfl) hq103) (v := .int .i64 y74.2.2.2) (pu_move e11) ?_
                refine lex.gpure (want_t rfl rfl (show _ = Value.bool (!(decide (y63.2 = 5))) from rfl) hq103) (v := .bool (!(decide (y74.2.2.2 = 5)))) (pu_neq (k := .i64) (a := y74.2.2.2) (b := 5) rfl rfl) ?_
                refine lex.gpure (want_t rfl rfl (show _ = Value.bool (!y52.2) from rfl) hq102) (v := .bool (!(decide (y74.2.2.2 = 5)))) (pu_pickF (q := (!(decide (y63.2 = 5)))) rfl hq103 rfl) ?_
                refine lex.gpure (want_t rfl rfl (show _ = Value.bool (!y52.2) from rfl) hq102) (v := .bool (!(decide (y74.2.2.2 = 5)))) (pu_move rfl) ?_
                rcases bS (!(decide (y74.2.2.2 = 5))) with hq105 | hq105
                · replace hb := (cT hq105).symm.trans hb
                  refine lex.gskip (want_f rfl rfl (show _ = Value.bool (!(decide (y74.2.2.2 = 5))) from rfl) hq105) ?_
                  refine lex.gskip (want_f rfl rfl (show _ = Value.bool (!(decide (y74.2.2.2 = 5))) from rfl) hq105) ?_
                  refine lex.gskip (want_f rfl rfl (show _ = Value.bool (!(decide (y74.2.2.2 = 5))) from rfl) hq105) ?_
                  refine lex.gpure (want_t rfl rfl (show _ = Value.bool (!y52.2) from rfl) hq102) (v := .bool true) (pu_pickT (q := (!(decide (y74.2.2.2 = 5)))) rfl hq105 rfl) ?_
                  refine lex.gpure (want_t rfl rfl (show _ = Value.bool (!y52.2) from rfl) hq102) (v := .bool true) (pu_move rfl) ?_
                  refine lex.gskip (want_f rfl rfl (show _ = Value.bool true from rfl) rfl) ?_
                  refine lex.gskip (want_f rfl rfl (show _ = Value.bool true from rfl) rfl) ?_
                  refine lex.gskip (want_f rfl rfl (show _ = Value.bool true from rfl) rfl) ?_
                  refine lex.gpure (want_t rfl rfl (show _ = Value.bool (!y52.2) from rfl) hq102) (v := .bool true) (pu_pickT (q := true) rfl rfl rfl) ?_
                  refine lex.gpure (want_t rfl rfl (show _ = Value.bool (!(y52.2 == (decide (y74.2.2.2 = 0)))) from rfl) hq100) (v := .bool true) (pu_pickT (q := (!y52.2)) rfl hq102 rfl) ?_
                  refine lex.pure (v := .bool true) (pu_pickF (q := (!(y52.2 == (decide (y74.2.2.2 = 0))))) rfl hq100 rfl) ?_
                  refine lex.pure (v := .bool true) (pu_move rfl) ?_
                  refine lex.gskip (want_f rfl rfl (show _ = Value.bool true from rfl) rfl) ?_
                  refine lex.gskip (want_f rfl rfl (show _ = Value.bool true from rfl) rfl) ?_
                  refine lex.pure (v := .bool true) (pu_pickT (q := true) rfl rfl rfl) ?_
                  refine lex.nil ?_
                  refine hK97 _ _ ?_
                  refine Wc.cond_true (rfl) ?_
                  refine Wc.seq fun K106 hK106 => ?_
                  refine Wc.region (by decide +kernel) ?_
                  refine lex.pure (v := .bool false) (pu_assign rfl) ?_
                  refine lex.nil ?_
                  refine hK106 _ _ ?_
                  obtain rfl := Option.some.inj hb
                  refine Wc.ret ?_
                  refine hKR _ _ ?_
                  refine ⟨_, res1 Try.results5 (show RV _ _ _ (.tmp _) (.bool false) from rfl), _, rfl, rfl, hC.sel [] (by decide)⟩
                · replace hb := (cF hq105).symm.trans hb
                  refine lex.gpure (want_t rfl rfl (show _ = Value.bool (!(decide (y74.2.2.2 = 5))) from rfl) hq105) (v := .slice A65 y63.1.length c67) (pu_move e8) ?_
                  refine lex.gpure (want_t rfl rfl (show _ = Value.bool (!(decide (y74.2.2.2 = 5))) from rfl) hq105) (v := .int .i64 (y63.1.length : Int)) (pu_len (A := A65) (n := y63.1.length) (m := c67) Try.underlying37 rfl) ?_
                  refine lex.gpure (want_t rfl rfl (show _ = Value.bool (!(decide (y74.2.2.2 = 5))) from rfl) hq105) (v := .bool (!(decide ((y63.1.length : Int) = 0)))) (pu_neq (k := .i64) (a := (y63.1.length : Int)) (b := 0) rfl rfl) ?_
                  refine lex.gpure (want_t rfl rfl (show _ = Value.bool (!y52.2) from rfl) hq102) (v := .bool (!(decide ((y63.1.length : Int) = 0)))) (pu_pickF (q := (!(decide (y74.2.2.2 = 5)))) rfl hq105 rfl) ?_
                  refine lex.gpure (want_t rfl rfl (show _ = Value.bool (!y52.2) from rfl) hq102) (v := .bool (!(decide ((y63.1.length : Int) = 0)))) (pu_move rfl) ?_
                  rcases bS (!(decide ((y63.1.length : Int) = 0))) with hq107 | hq107
                  · replace hb := (cT hq107).symm.trans hb
                    refine lex.gskip (want_f rfl rfl (show _ = Value.bool (!(decide ((y63.1.length : Int) = 0))) from rfl) hq107) ?_
                    refine lex.gskip (want_f rfl rfl (show _ = Value.bool (!(decide ((y63.1.length : Int) = 0))) from rfl) hq107) ?_
                    refine lex.gskip (want_f rfl rfl (show _ = Value.bool (!(decide ((y63.1.length : Int) = 0))) from rfl) hq107) ?_
                    refine lex.gpure (want_t rfl rfl (show _ = Value.bool (!y52.2) from rfl) hq102) (v := .bool true) (pu_pickT (q := (!(decide ((y63.1.length : Int) = 0)))) rfl hq107 rfl) ?_
                    refine lex.gpure (want_t rfl rfl (show _ = Value.bool (!(y52.2 == (decide (y74.2.2.2 = 0)))) from rfl) hq100) (v := .bool true) (pu_pickT (q := (!y52.2)) rfl hq102 rfl) ?_
                    refine lex.pure (v := .bool true) (pu_pickF (q := (!(y52.2 == (decide (y74.2.2.2 = 0))))) rfl hq100 rfl) ?_
                    refine lex.pure (v := .bool true) (pu_move rfl) ?_
                    refine lex.gskip (want_f rfl rfl (show _ = Value.bool true from rfl) rfl) ?_
                    refine lex.gskip (want_f rfl rfl (show _ = Value.bool true from rfl) rfl) ?_
                    refine lex.pure (v := .bool true) (pu_pickT (q := true) rfl rfl rfl) ?_
                    refine lex.nil ?_
                    refine hK97 _ _ ?_
                    refine Wc.cond_true (rfl) ?_
                    refine Wc.seq fun K108 hK108 => ?_
                    refine Wc.region (by decide +kernel) ?_
                    refine lex.pure (v := .bool false) (pu_assign rfl) ?_
                    refine lex.nil ?_
                    refine hK108 _ _ ?_
                    obtain rfl := Option.some.inj hb
                    refine Wc.ret ?_
                    refine hKR _ _ ?_
                    refine ⟨_, res1 Try.results5 (show RV _ _ _ (.tmp _) (.bool false) from rfl), _, rfl, rfl, hC.sel [] (by decide)⟩
                  · replace hb := (cF hq107).symm.trans hb
                    refine lex.gpure (want_t rfl rfl (show _ = Value.bool (!(decide ((y63.1.length : Int) = 0))) from rfl) hq107) (v := .pointer (some ((⟨g91, 0, none⟩ : Addr).add 0))) (pu_field (sz := 1) Try.underlying48 rfl Try.sizeOf3 (by decide) rfl e10) ?_
                    refine lex.gval (want_t rfl rfl (show _ = Value.bool (!(decide ((y63.1.length : Int) = 0))) from rfl) hq107) (v := .int .i64 y74.1) (ld_fld (hC.bx (i := 0) rfl) Try.isAgg3 rfl rfl) ?_
                    refine lex.gpure (want_t rfl rfl (show _ = Value.bool (!(decide ((y63.1.length : Int) = 0))) from rfl) hq107) (v := .bool (!(decide (y74.1 = 0)))) (pu_neq (k := .i64) (a := y74.1) (b := 0) rfl rfl) ?_
                    refine lex.gpure (want_t rfl rfl (show _ = Value.bool (!y52.2) from rfl) hq102) (v := .bool (!(decide (y74.1 = 0)))) (pu_pickF (q := (!(decide ((y63.1.length : Int) = 0)))) rfl hq107 rfl) ?_
                    refine lex.gpure (want_t rfl rfl (show _ = Value.bool (!(y52.2 == (decide (y74.2.2.2 = 0)))) from rfl) hq100) (v := .bool (!(decide (y74.1 = 0)))) (pu_pickT (q := (!y52.2)) rfl hq102 rfl) ?_
                    refine lex.pure (v := .bool (!(decide (y74.1 = 0)))) (pu_pickF (q := (!(y52.2 == (decide (y74.2.2.2 = 0))))) rfl hq100 rfl) ?_
                    refine lex.pure (v := .bool (!(decide (y74.1 = 0)))) (pu_move rfl) ?_
                    rcases bS (!(decide (y74.1 = 0))) with hq109 | hq109
                    · replace hb := (cT hq109).symm.trans hb
                      refine lex.gskip (want_f rfl rfl (show _ = Value.bool (!(decide (y74.1 = 0))) from rfl) hq109) ?_
                      refine lex.gskip (want_f rfl rfl (show _ = Value.bool (!(decide (y74.1 = 0))) from rfl) hq109) ?_
                      refine lex.pure (v := .bool true) (pu_pickT (q := (!(decide (y74.1 = 0)))) rfl hq109 rfl) ?_
                      refine lex.nil ?_
                      refine hK97 _ _ ?_
                      refine Wc.cond_true (rfl) ?_
                      refine Wc.seq fun K110 hK110 => ?_
                      refine Wc.region (by decide +kernel) ?_
                      refine lex.pure (v := .bool false) (pu_assign rfl) ?_
                      refine lex.nil ?_
                      refine hK110 _ _ ?_
                      obtain rfl := Option.some.inj hb
                      refine Wc.ret ?_
                      refine hKR _ _ ?_
                      refine ⟨_, res1 Try.results5 (show RV _ _ _ (.tmp _) (.bool false) from rfl), _, rfl, rfl, hC.sel [] (by decide)⟩
                    · replace hb := (cF hq109).symm.trans hb
                      refine lex.gval (want_t rfl rfl (show _ = Value.bool (!(decide (y74.1 = 0))) from rfl) hq109) (v := .agg #[.int .i64 3, .slice Akf12_1_0 kf12_1_0.length ckf12_1_0]) (ld_blk (hC.bx (i := 5) rfl) Try.isAgg24 Try.sizeOf24 e5) ?_
                      obtain ⟨y111, h112, hb⟩ := bd hb
                      refine lex.gcl (want_t rfl rfl (show _ = Value.bool (!(decide (y74.1 = 0))) from rfl) hq109) (⟨_, _, op_call (vs := [.agg #[.int .i64 3, .slice Akf12_1_0 kf12_1_0.length ckf12_1_0]]) Try.call22 rfl rfl rfl, artin_Trivial_ok n hC.lt (show I64 3 from by unfold I64; omega) (hC.rd (i := 6) rfl) h112⟩) ?_
                      rintro _ w113 ⟨rfl, hK⟩
                      replace hC := hC.merge hK
                      clear hK
                      refine lex.pure (v := .bool y111) (pu_pickF (q := (!(decide (y74.1 = 0)))) rfl hq109 rfl) ?_
                      refine lex.nil ?_
                      refine hK97 _ _ ?_
                      refine Wc.cond (t := y111) (rfl) (fun hq114 => ?_) (fun hq114 => ?_)
                      · replace hb := (cT hq114).symm.trans hb
                        refine Wc.seq fun K115 hK115 => ?_
                        refine Wc.region (by decide +kernel) ?_
                        refine lex.pure (v := .bool false) (pu_assign rfl) ?_
                        refine lex.nil ?_
                        refine hK115 _ _ ?_
                        obtain rfl := Option.some.inj hb
                        refine Wc.ret ?_
                        refine hKR _ _ ?_
                        refine ⟨_, res1 Try.results5 (show RV _ _ _ (.tmp _) (.bool false) from rfl), _, rfl, rfl, hC.sel [] (by decide)⟩
                      · replace hb := (cF hq114).symm.trans hb
                        refine Wc.skip ?_
                        exact hK96 _ _ ⟨e1, e4, hC.sel [] (by decide), hb⟩
            · replace hb := (cF hq102).symm.trans hb
              refine lex.gskip (want_f rfl rfl (show _ = Value.bool (!y52.2) from rfl) hq102) ?_
              refine lex.gskip (want_f rfl rfl (show _ = Value.bool (!y52.2) from rfl) hq102) ?_
              refine lex.gskip (want_f rfl rfl (show _ = Value.bool (!y52.2) from rfl) hq102) ?_
              refine lex.gskip (want_n rfl rfl rfl) ?_
              refine lex.gskip (want_n rfl rfl rfl) ?_
              refine lex.gskip (want_f rfl rfl (show _ = Value.bool (!y52.2) from rfl) hq102) ?_
              refine lex.gskip (want_f rfl rfl (show _ = Value.bool (!y52.2) from rfl) hq102) ?_
              refine lex.gskip (want_n rfl rfl rfl) ?_
              refine lex.gskip (want_n rfl rfl rfl) ?_
              refine lex.gskip (want_n rfl rfl rfl) ?_
              refine lex.gskip (want_f rfl rfl (show _ = Value.bool (!y52.2) from rfl) hq102) ?_
              refine lex.gskip (want_f rfl rfl (show _ = Value.bool (!y52.2) from rfl) hq102) ?_
              refine lex.gskip (want_n rfl rfl rfl) ?_
              refine lex.gskip (want_n rfl rfl rfl) ?_
              refine lex.gskip (want_n rfl rfl rfl) ?_
              refine lex.gskip (want_f rfl rfl (show _ = Value.bool (!y52.2) from rfl) hq102) ?_
              refine lex.gpure (want_t rfl rfl (show _ = Value.bool (!(y52.2 == (decide (y74.2.2.2 = 0)))) from rfl) hq100) (v := .bool false) (pu_pickF (q := (!y52.2)) rfl hq102 rfl) ?_
              refine lex.pure (v := .bool false) (pu_pickF (q := (!(y52.2 == (decide (y74.2.2.2 = 0))))) rfl hq100 rfl) ?_
              refine lex.pure (v := .bool false) (pu_move rfl) ?_
              refine lex.gval (want_t rfl rfl (show _ = Value.bool false from rfl) rfl) (v := .agg #[.int .i64 3, .slice Akf12_1_0 kf12_1_0.length ckf12_1_0]) (ld_blk (hC.bx (i := 5) rfl) Try.isAgg24 Try.sizeOf24 e5) ?_
              obtain ⟨y116, h117, hb⟩ := bd hb
              refine lex.gcl (want_t rfl rfl (show _ = Value.bool false from rfl) rfl) (⟨_, _, op_call (vs := [.agg #[.int .i64 3, .slice Akf12_1_0 kf12_1_0.length ckf12_1_0]]) Try.call22 rfl rfl rfl, artin_Trivial_ok n hC.lt (show I64 3 from by unfold I64; omega) (hC.rd (i := 6) rfl) h117⟩) ?_
              rintro _ w118 ⟨rfl, hK⟩
              replace hC := hC.merge hK
              clear hK
              refine lex.pure (v := .bool y116) (pu_pickF (q := false) rfl rfl rfl) ?_
              refine lex.nil ?_
              refine hK97 _ _ ?_
              refine Wc.cond (t := y116) (rfl) (fun hq119 => ?_) (fun hq119 => ?_)
              · replace hb := (cT hq119).symm.trans hb
                refine Wc.seq fun K120 hK120 => ?_
                refine Wc.region (by decide +kernel) ?_
                refine lex.pure (v := .bool false) (pu_assign rfl) ?_
                refine lex.nil ?_
                refine hK120 _ _ ?_
                obtain rfl := Option.some.inj hb
                refine Wc.ret ?_
                refine hKR _ _ ?_
                refine ⟨_, res1 Try.results5 (show RV _ _ _ (.tmp _) (.bool false) from rfl), _, rfl, rfl, hC.sel [] (by decide)⟩
              · replace hb := (cF hq119).symm.trans hb
                refine Wc.skip ?_
                exact hK96 _ _ ⟨e1, e4, hC.sel [] (by decide), hb⟩
      · clear hb hC
        rintro E122 w121 ⟨e1, e4, hC, hb⟩
        unfold F.law35_ArtinLong_j1 at hb
        refine Wc.seq fun K123 hK123 => ?_
        refine Wc.region (by decide +kernel) ?_
        refine lex.pure (v := .int .u16 nx_1) (pu_move e1) ?_
        refine lex.pure (v := .int .i64 nx_1) (pu_conv (k := .u16) (a := nx_1) Try.underlying44 Try.underlying3 rfl (small_u16 hnx_1).wr) ?_
        obtain ⟨u124, h125, hb⟩ := bd hb
        refine lex.op (hC.make (s := (.int .i64)) (n := nx_1) Try.underlying27 Try.type3 rfl rfl rfl rfl rfl (pos_some h125).1 (pos_some h125).2 (by decide)) ?_
        rintro _ w130 ⟨A126, c127, rfl, hl128, hc129, hC, hF, hN⟩
        clear hF hN
        refine lex.pure (v := .slice A126 (((List.replicate nx_1.toNat (0 : Int))).length) c127) (pu_assign rfl) ?_
        refine lex.nil ?_
        refine hK123 _ _ ?_
        refine Wc.seq fun K132 hK132 => ?_
        refine Wc.seq fun K133 hK133 => ?_
        refine Wc.region (by decide +kernel) ?_
        refine lex.pure (v := .slice A126 (((List.replicate nx_1.toNat (0 : Int))).length) c127) (pu_move rfl) ?_
        refine lex.pure (v := .int .i64 (((List.replicate nx_1.toNat (0 : Int))).length : Int)) (pu_len (A := A126) (n := ((List.replicate nx_1.toNat (0 : Int))).length) (m := c127) Try.underlying27 rfl) ?_
        refine lex.pure (v := .int .i64 0) (pu_move rfl) ?_
        refine lex.nil ?_
        refine hK133 _ _ ?_
        obtain ⟨o134, hl2, hb⟩ := bd hb
        refine Wc.cut (fun E wv => ∃ (v90_2 : Int) (qf131_2 : List Int), E 4 = .bool false ∧ E 12 = .slice A126 (((List.replicate nx_1.toNat (0 : Int))).length) c127 ∧ I64 v90_2 ∧ Cx (fun _ => False) O0 w wv [.own 3 (.int .i64) (.slice A126 (((List.replicate nx_1.toNat (0 : Int))).length) c127) qf131_2] ∧ ((F.artin_Act n 2 ([]) qf131_2).bind fun y158 => cond (decide (20000 < (((List.replicate nx_1.toNat (0 : Int))).length : Int))) (cond (decide (y158.2 = 5)) (some (decide ((y158.1.length : Int) = 0))) (some false)) (cond (decide (y158.2 = 0)) (some (decide ((y158.1.length : Int) = (((List.replicate nx_1.toNat (0 : Int))).length : Int)))) (some false)) : Option (Bool)) = some r) (fun K135 hK135 => ?_) ?_
        · refine Wc.block ?_
          refine Wc.loop (fun m E wv => ∃ (v90_2 : Int) (qf131_2 : List Int), E 4 = .bool false ∧ E 12 = .slice A126 (((List.replicate nx_1.toNat (0 : Int))).length) c127 ∧ E 89 = .int .i64 (((List.replicate nx_1.toNat (0 : Int))).length : Int) ∧ E 90 = .int .i64 v90_2 ∧ I64 v90_2 ∧ Cx (fun _ => False) O0 w wv [.own 3 (.int .i64) (.slice A126 (((List.replicate nx_1.toNat (0 : Int))).length) c127) qf131_2] ∧ loopN m (F.law35_ArtinLong_b2 n nx_1) (v90_2, qf131_2) = some o134) n ⟨0, (List.replicate nx_1.toNat (0 : Int)), e4, rfl, rfl, rfl, (show I64 0 from by unfold I64; omega), hC.sel [0] (by decide), hl2⟩ ?_
          have hbK2 := hb
          clear hb hC hl2
          rintro m137 E139 w138 ⟨v90_2, qf131_2, e4, e12, e89, e90, hrv90_2, hC, hl2⟩ K136 hK136
          obtain ⟨m137', o140, rfl, hb, hl2⟩ := loopN_some hl2
          unfold F.law35_ArtinLong_b2 at hb
          refine Wc.seq fun K141 hK141 => ?_
          refine Wc.region (by decide +kernel) ?_
          refine lex.pure (v := .bool (decide (v90_2 < (((List.replicate nx_1.toNat (0 : Int))).length : Int)))) (pu_lss (k := .i64) (a := v90_2) (b := (((List.replicate nx_1.toNat (0 : Int))).length : Int)) e90 e89) ?_
          refine lex.nil ?_
          refine hK141 _ _ ?_
          refine Wc.seq fun K142 hK142 => ?_
          refine Wc.cond (t := (decide (v90_2 < (((List.replicate nx_1.toNat (0 : Int))).length : Int)))) (rfl) (fun hq143 => ?_) (fun hq143 => ?_)
          · replace hb := (cT hq143).symm.trans hb
            refine Wc.skip ?_
            refine hK142 _ _ ?_
            refine Wc.seq fun K144 hK144 => ?_
            refine Wc.block ?_
            refine Wc.seq fun K145 hK145 => ?_
            refine Wc.region (by decide +kernel) ?_
            refine lex.pure (v := .int .i64 v90_2) (pu_move e90) ?_
            refine lex.pure (v := .int .i64 v90_2) (pu_assign rfl) ?_
            refine lex.nil ?_
            refine hK145 _ _ ?_
            refine Wc.region (by decide +kernel) ?_
            refine lex.pure (v := .slice A126 (((List.replicate nx_1.toNat (0 : Int))).length) c127) (pu_move e12) ?_
            refine lex.pure (v := .int .i64 v90_2) (pu_move rfl) ?_
            obtain ⟨x146, h147, hb⟩ := bd hb
            obtain ⟨ad148, cs149, hA, hc150, hr151⟩ := hC.elo (i := 0) rfl (get_some h147).2
            subst hA
            refine lex.pure (v := .pointer (some (ad148.add (v90_2.toNat * 1)))) (pu_index (a := v90_2) Try.underlying27 Try.sizeOf3 rfl rfl (by rw [(hC.ow (i := 0) rfl).sl_len.1]; exact (get_some h147).1)) ?_
            refine lex.sk (hC.put (i := 0) rfl rfl Try.sizeOf3 (k := v90_2.toNat) (a := 1) (by have := (get_some h147).1; simp at this ⊢; omega) (⟨rfl, I64.wr (show I64 1 from by unfold I64; omega)⟩) rfl rfl rfl) ?_
            rintro w152 ⟨hC, hF⟩
            refine lex.nil ?_
            refine hK144 _ _ ?_
            refine Wc.region (by decide +kernel) ?_
            obtain ⟨z153, h154, hb⟩ := bd hb
            refine lex.pure (v := .int .i64 z153) (pu_addc (a := v90_2) (b := 1) e90 rfl h154) ?_
            refine lex.pure (v := .int .i64 z153) (pu_move rfl) ?_
            refine lex.nil ?_
            obtain rfl := Option.some.inj hb
            exact hK136 m137' _ _ (Nat.lt_succ_self _) ⟨z153, (qf131_2.set v90_2.toNat 1), e4, e12, e89, rfl, (chk_rng h154), hC.sel [0] (by decide), lN hl2⟩
          · replace hb := (cF hq143).symm.trans hb
            refine Wc.exit rfl ?_
            obtain rfl := Option.some.inj hb
            obtain rfl := (lX hl2).symm
            exact hK135 _ _ ⟨v90_2, qf131_2, e4, e12, hrv90_2, hC.sel [0] (by decide), hbK2⟩
        · clear hb hC hl2
          rintro E156 w155 ⟨v90_2, qf131_2, e4, e12, hrv90_2, hC, hb⟩
          refine hK132 _ _ ?_
          refine Wc.seq fun K157 hK157 => ?_
          refine Wc.region (by decide +kernel) ?_
          refine lex.pure (v := .agg #[.int .i64 2, .slice none 0 0]) (pu_builds (places := [(0, 1), (1, 1)]) (pv := [(0, .int .i64 2)]) Try.type24 Try.underlying24 rfl (mp_cons Try.type3 (mp_cons Try.type22 mp_nil rfl rfl) rfl rfl) rfl (by simp [Instr.fill, Value.cells])) ?_
          refine lex.pure (v := .slice A126 (((List.replicate nx_1.toNat (0 : Int))).length) c127) (pu_move e12) ?_
          obtain ⟨y158, h159, hb⟩ := bd hb
          refine lex.cl (⟨_, _, op_call (vs := [.agg #[.int .i64 2, .slice none 0 0], .slice A126 (((List.replicate nx_1.toNat (0 : Int))).length) c127]) Try.call11 rfl rfl rfl, artin_Act_ok n (hC.lentLt [.slice A126 (((List.replicate nx_1.toNat (0 : Int))).length) c127]) (show I64 2 from by unfold I64; omega) ((show Rep _ _ (.sl (.int .i64)) [.slice none 0 0] ([] : List Int) from ⟨none, 0, rfl, Nat.le_refl _, by omega, fun h => absurd h (by simp)⟩)) ((hC.ow (i := 0) rfl).lend (vs := [.slice A126 (((List.replicate nx_1.toNat (0 : Int))).length) c127]) (by simp)) h159⟩) ?_
          rintro _ w165 ⟨A160, m161, c162, rfl, hr164, hK⟩
          replace hC := hC.mergeF hK rfl
          clear hK
          obtain ⟨rfl, hl166, hc167⟩ := (hC.ow (i := 0) rfl).sl_len
          refine lex.pure (v := .tuple #[.slice A160 y158.1.length c162, .int .i64 y158.2]) (pu_move rfl) ?_
          refine lex.pure (v := .slice A160 y158.1.length c162) (pu_extract rfl rfl) ?_
          refine lex.pure (v := .int .i64 y158.2) (pu_extract rfl rfl) ?_
          refine lex.pure (v := .slice A160 y158.1.length c162) (pu_assign rfl) ?_
          refine lex.pure (v := .int .i64 y158.2) (pu_assign rfl) ?_
          refine lex.nil ?_
          refine hK157 _ _ ?_
          refine Wc.seq fun K168 hK168 => ?_
          refine Wc.seq fun K169 hK169 => ?_
          refine Wc.region (by decide +kernel) ?_
          refine lex.pure (v := .slice A126 (((List.replicate nx_1.toNat (0 : Int))).length) c127) (pu_move e12) ?_
          refine lex.pure (v := .int .i64 (((List.replicate nx_1.toNat (0 : Int))).length : Int)) (pu_len (A := A126) (n := ((List.replicate nx_1.toNat (0 : Int))).length) (m := c127) Try.underlying27 rfl) ?_
          refine lex.pure (v := .bool (decide (20000 < (((List.replicate nx_1.toNat (0 : Int))).length : Int)))) (pu_gtr (k := .i64) (a := (((List.replicate nx_1.toNat (0 : Int))).length : Int)) (b := 20000) rfl rfl) ?_
          refine lex.nil ?_
          refine hK169 _ _ ?_
          refine Wc.fresh fun E170 hE => ?_
          have e4 : E170 4 = .bool false := (congrFun hE 4).trans e4
          have e12 : E170 12 = .slice A126 (((List.replicate nx_1.toNat (0 : Int))).length) c127 := (congrFun hE 12).trans e12
          have e14 : E170 14 = .slice A160 y158.1.length c162 := (congrFun hE 14).trans rfl
          have e15 : E170 15 = .int .i64 y158.2 := (congrFun hE 15).trans rfl
          have e105 : E170 105 = .bool (decide (20000 < (((List.replicate nx_1.toNat (0 : Int))).length : Int))) := (congrFun hE 105).trans rfl
          clear hE
          refine Wc.cond (t := (decide (20000 < (((List.replicate nx_1.toNat (0 : Int))).length : Int)))) (e105) (fun hq171 => ?_) (fun hq171 => ?_)
          · replace hb := (cT hq171).symm.trans hb
            refine Wc.seq fun K172 hK172 => ?_
            refine Wc.region (by decide +kernel) ?_
            refine lex.pure (v := .int .i64 y158.2) (pu_move e15) ?_
            refine lex.pure (v := .bool (decide (y158.2 = 5))) (pu_eql (k := .i64) (a := y158.2) (b := 5) rfl rfl) ?_
            refine lex.pure (v := .bool (decide (y158.2 = 5))) (pu_move rfl) ?_
            rcases bS (decide (y158.2 = 5)) with hq173 | hq173
            · replace hb := (cT hq173).symm.trans hb
              refine lex.gpure (want_t rfl rfl (show _ = Value.bool (decide (y158.2 = 5)) from rfl) hq173) (v := .slice A160 y158.1.length c162) (pu_move e14) ?_
              refine lex.gpure (want_t rfl rfl (show _ = Value.bool (decide (y158.2 = 5)) from rfl) hq173) (v := .int .i64 (y158.1.length : Int)) (pu_len (A := A160) (n := y158.1.length) (m := c162) Try.underlying27 rfl) ?_
              refine lex.gpure (want_t rfl rfl (show _ = Value.bool (decide (y158.2 = 5)) from rfl) hq173) (v := .bool (decide ((y158.1.length : Int) = 0))) (pu_eql (k := .i64) (a := (y158.1.length : Int)) (b := 0) rfl rfl) ?_
              refine lex.pure (v := .bool (decide ((y158.1.length : Int) = 0))) (pu_pickT (q := (decide (y158.2 = 5))) rfl hq173 rfl) ?_
              refine lex.pure (v := .bool (decide ((y158.1.length : Int) = 0))) (pu_assign rfl) ?_
              refine lex.nil ?_
              refine hK172 _ _ ?_
              obtain rfl := Option.some.inj hb
              refine Wc.ret ?_
              refine hKR _ _ ?_
              refine ⟨_, res1 Try.results5 (show RV _ _ _ (.tmp _) (.bool (decide ((y158.1.length : Int) = 0))) from rfl), _, rfl, rfl, hC.sel [] (by decide)⟩
            · replace hb := (cF hq173).symm.trans hb
              refine lex.gskip (want_f rfl rfl (show _ = Value.bool (decide (y158.2 = 5)) from rfl) hq173) ?_
              refine lex.gskip (want_f rfl rfl (show _ = Value.bool (decide (y158.2 = 5)) from rfl) hq173) ?_
              refine lex.gskip (want_f rfl rfl (show _ = Value.bool (decide (y158.2 = 5)) from rfl) hq173) ?_
              refine lex.pure (v := .bool false) (pu_pickF (q := (decide (y158.2 = 5))) rfl hq173 rfl) ?_
              refine lex.pure (v := .bool false) (pu_assign rfl) ?_
              refine lex.nil ?_
              refine hK172 _ _ ?_
              obtain rfl := Option.some.inj hb
              refine Wc.ret ?_
              refine hKR _ _ ?_
              refine ⟨_, res1 Try.results5 (show RV _ _ _ (.tmp _) (.bool false) from rfl), _, rfl, rfl, hC.sel [] (by decide)⟩
          · replace hb := (cF hq171).symm.trans hb
            refine Wc.skip ?_
            refine hK168 _ _ ?_
            refine Wc.seq fun K174 hK174 => ?_
            refine Wc.region (by decide +kernel) ?_
            refine lex.pure (v := .int .i64 y158.2) (pu_move e15) ?_
            refine lex.pure (v := .bool (decide (y158.2 = 0))) (pu_eql (k := .i64) (a := y158.2) (b := 0) rfl rfl) ?_
            refine lex.pure (v := .bool (decide (y158.2 = 0))) (pu_move rfl) ?_
            rcases bS (decide (y158.2 = 0)) with hq175 | hq175
            · replace hb := (cT hq175).symm.trans hb
              refine lex.gpure (want_t rfl rfl (show _ = Value.bool (decide (y158.2 = 0)) from rfl) hq175) (v := .slice A160 y158.1.length c162) (pu_move e14) ?_
              refine lex.gpure (want_t rfl rfl (show _ = Value.bool (decide (y158.2 = 0)) from rfl) hq175) (v := .int .i64 (y158.1.length : Int)) (pu_len (A := A160) (n := y158.1.length) (m := c162) Try.underlying27 rfl) ?_
              refine lex.gpure (want_t rfl rfl (show _ = Value.bool (decide (y158.2 = 0)) from rfl) hq175) (v := .slice A126 (((List.replicate nx_1.toNat (0 : Int))).length) c127) (pu_move e12) ?_
              refine lex.gpure (want_t rfl rfl (show _ = Value.bool (decide (y158.2 = 0)) from rfl) hq175) (v := .int .i64 (((List.replicate nx_1.toNat (0 : Int))).length : Int)) (pu_len (A := A126) (n := ((List.replicate nx_1.toNat (0 : Int))).length) (m := c127) Try.underlying27 rfl) ?_
              refine lex.gpure (want_t rfl rfl (show _ = Value.bool (decide (y158.2 = 0)) from rfl) hq175) (v := .bool (decide ((y158.1.length : Int) = (((List.replicate nx_1.toNat (0 : Int))).length : Int)))) (pu_eql (k := .i64) (a := (y158.1.length : Int)) (b := (((List.replicate nx_1.toNat (0 : Int))).length : Int)) rfl rfl) ?_
              refine lex.pure (v := .bool (decide ((y158.1.length : Int) = (((List.replicate nx_1.toNat (0 : Int))).length : Int)))) (pu_pickT (q := (decide (y158.2 = 0))) rfl hq175 rfl) ?_
              refine lex.pure (v := .bool (decide ((y158.1.length : Int) = (((List.replicate nx_1.toNat (0 : Int))).length : Int)))) (pu_assign rfl) ?_
              refine lex.nil ?_
              refine hK174 _ _ ?_
              obtain rfl := Option.some.inj hb
              refine Wc.ret ?_
              refine hKR _ _ ?_
              refine ⟨_, res1 Try.results5 (show RV _ _ _ (.tmp _) (.bool (decide ((y158.1.length : Int) = (((List.replicate nx_1.toNat (0 : Int))).length : Int)))) from rfl), _, rfl, rfl, hC.sel [] (by decide)⟩
            · replace hb := (cF hq175).symm.trans hb
              refine lex.gskip (want_f rfl rfl (show _ = Value.bool (decide (y158.2 = 0)) from rfl) hq175) ?_
              refine lex.gskip (want_f rfl rfl (show _ = Value.bool (decide (y158.2 = 0)) from rfl) hq175) ?_
              refine lex.gskip (want_f rfl rfl (show _ = Value.bool (decide (y158.2 = 0)) from rfl) hq175) ?_
              refine lex.gskip (want_f rfl rfl (show _ = Value.bool (decide (y158.2 = 0)) from rfl) hq175) ?_
              refine lex.gskip (want_f rfl rfl (show _ = Value.bool (decide (y158.2 = 0)) from rfl) hq175) ?_
              refine lex.pure (v := .bool false) (pu_pickF (q := (decide (y158.2 = 0))) rfl hq175 rfl) ?_
              refine lex.pure (v := .bool false) (pu_assign rfl) ?_
              refine lex.nil ?_
              refine hK174 _ _ ?_
              obtain rfl := Option.some.inj hb
              refine Wc.ret ?_
              refine hKR _ _ ?_
              refine ⟨_, res1 Try.results5 (show RV _ _ _ (.tmp _) (.bool false) from rfl), _, rfl, rfl, hC.sel [] (by decide)⟩
end Go.Proofs.Ytlkmcbgkohpmiaa
