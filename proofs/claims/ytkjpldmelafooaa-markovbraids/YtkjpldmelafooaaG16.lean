/- The walks: part 16. -/
import Derived.Test.YtkjpldmelafooaaS
import Derived.Test.YtkjpldmelafooaaG15
set_option linter.unusedVariables false
set_option linter.unusedSimpArgs false
namespace Go.Proofs.Ytkjpldmelafooaa
open Ev
set_option maxRecDepth 100000 in
set_option maxHeartbeats 4000000 in
theorem word_Reduce_ok (n : Nat) {w : World} {O0 : List Nat} (hO : ∀ k ∈ O0, k < w.heap.size) {Awx_0 : Option Addr} {mwx_0 cwx_0 : Nat} {wx_0 : List Int} (hwx_0 : Rep O0 w (.sl (.int .i64)) [.slice Awx_0 mwx_0 cwx_0] wx_0) {r : (List Int)} (hb : F.word_Reduce n wx_0 = some r) :
    Calls Try.prog 80 #[.slice Awx_0 mwx_0 cwx_0] w fun e w' => ∃ v, e = .returned v ∧ ∃ (A0 : Option Addr) (m0 c0 : Nat), v = .slice A0 m0 c0 ∧ Cx (fun _ => False) O0 w w' [.own 3 (.int .i64) (.slice A0 m0 c0) r] := by
  unfold F.word_Reduce at hb
  have hC := Cx.start hO
  replace hC := hC.arg rfl hwx_0
  clear hO
  obtain ⟨rfl, hlwx_0, hcwx_0⟩ := hwx_0.sl_len
  refine calls_of_Wc Try.func80 rfl (by rw [Try.ntmps80]; exact Nat.le_of_ble_eq_true rfl) fun KR hKR => ?_
  refine Wc.seq fun K2 hK2 => ?_
  refine Wc.region (by decide +kernel) ?_
  refine lex.pure (v := .slice none 0 0) (pu_assign rfl) ?_
  refine lex.nil ?_
  refine hK2 _ _ ?_
  refine Wc.seq fun K3 hK3 => ?_
  refine Wc.region (by decide +kernel) ?_
  refine lex.pure (v := .slice Awx_0 wx_0.length cwx_0) (pu_move rfl) ?_
  refine lex.pure (v := .int .i64 (wx_0.length : Int)) (pu_len (A := Awx_0) (n := wx_0.length) (m := cwx_0) Try.underlying82 rfl) ?_
  obtain ⟨u4, h5, hb⟩ := bd hb
  refine lex.op (hC.make0 (s := (.int .i64)) (n := (wx_0.length : Int)) Try.underlying82 Try.type3 rfl rfl rfl rfl (pos_some h5).1 (pos_some h5).2 (by decide)) ?_
  rintro _ w10 ⟨A6, c7, rfl, hl8, hc9, hC, hF, hN⟩
  clear hF hN
  refine lex.pure (v := .slice Awx_0 wx_0.length cwx_0) (pu_move rfl) ?_
  replace hC : Cx (fun _ => False) O0 w w10 ([.own 3 (.int .i64) (.slice A6 ((([] : List Int)).length) c7) ([] : List Int)] ++ [.ro (.sl (.int .i64)) [.slice Awx_0 wx_0.length cwx_0] wx_0]) := hC.sel [0, 1] (by decide)
  obtain ⟨y12, h13, hb⟩ := bd hb
  refine lex.cl (⟨_, _, op_call (vs := [.slice A6 ((([] : List Int)).length) c7, .slice Awx_0 wx_0.length cwx_0]) Try.call93 rfl rfl rfl, word_push_ok n hC.lt (hC.rd (i := 1) rfl) hC.give h13⟩) ?_
  rintro _ w18 ⟨A14, m15, c16, rfl, hK⟩
  replace hC := hC.back hK
  clear hK
  obtain ⟨rfl, hl19, hc20⟩ := (hC.ow (i := 0) rfl).sl_len
  refine lex.pure (v := .slice A14 y12.length c16) (pu_assign rfl) ?_
  refine lex.nil ?_
  refine hK3 _ _ ?_
  obtain rfl := Option.some.inj hb
  refine Wc.ret ?_
  refine hKR _ _ ?_
  refine ⟨_, res1 Try.results80 (show RV _ _ _ (.tmp _) (.slice A14 y12.length c16) from rfl), _, rfl, A14, y12.length, c16, rfl, hC.sel [0] (by decide)⟩

set_option maxRecDepth 100000 in
set_option maxHeartbeats 4000000 in
theorem artin_Act_c1_ok (n : Nat) {w : World} {O0 : List Nat} (hO : ∀ k ∈ O0, k < w.heap.size) {letter_0 : Int} (hletter_0 : I64 letter_0) {gu_1 : Nat} {u_1_0 : Int} (hu_1_0 : I64 u_1_0) {Au_1_1 : Option Addr} {mu_1_1 cu_1_1 : Nat} {u_1_1 : List Int} (hu_1_1 : Rep O0 w (.sl (.int .i64)) [.slice Au_1_1 mu_1_1 cu_1_1] u_1_1) (hio : Tk O0 w [.box gu_1 27 [.int .i64 u_1_0, .slice Au_1_1 mu_1_1 cu_1_1]]) {r : (List (List Int))} (hb : F.artin_Act_c1 n letter_0 u_1_0 u_1_1 = some r) :
    Calls Try.prog 79 #[.int .i64 letter_0, .pointer (some ⟨gu_1, 0, none⟩)] w fun e w' => ∃ v, e = .returned v ∧ ∃ (A0 : Option Addr) (m0 c0 : Nat), v = .slice A0 m0 c0 ∧ Cx (fun k => k ∈ blocks [.box gu_1 27 [.int .i64 u_1_0, .slice Au_1_1 mu_1_1 cu_1_1]]) O0 w w' [.own 82 (.sl (.int .i64)) (.slice A0 m0 c0) r, .box gu_1 27 [.int .i64 u_1_0, .slice Au_1_1 mu_1_1 cu_1_1]] := by
  unfold F.artin_Act_c1 at hb
  have hC := Cx.startTk hO hio
  have hsub := hio.2.2
  replace hC := hC.argTk (by first | exact hsub | exact fun k hk => hsub k (by simpa [blocks, Fact.blk] using hk)) hu_1_1
  clear hO
  obtain ⟨rfl, hlu_1_1, hcu_1_1⟩ := hu_1_1.sl_len
  clear hio hsub
  obtain ⟨I, hI, hC⟩ : ∃ I : Nat → Prop, I = (fun k => k ∈ blocks [.box gu_1 27 [.int .i64 u_1_0, .slice Au_1_1 u_1_1.length cu_1_1]]) ∧ Cx I O0 w w ([.ro (.sl (.int .i64)) [.slice Au_1_1 u_1_1.length cu_1_1] u_1_1, .box gu_1 27 [.int .i64 u_1_0, .slice Au_1_1 u_1_1.length cu_1_1]]) := ⟨_, rfl, hC⟩
  refine calls_of_Wc Try.func79 rfl (by rw [Try.ntmps79]; exact Nat.le_of_ble_eq_true rfl) fun KR hKR => ?_
  refine Wc.seq fun K3 hK3 => ?_
  refine Wc.region (by decide +kernel) ?_
  refine lex.pure (v := .slice none 0 0) (pu_assign rfl) ?_
  refine lex.nil ?_
  refine hK3 _ _ ?_
  refine Wc.seq fun K4 hK4 => ?_
  refine Wc.region (by decide +kernel) ?_
  refine lex.pure (v := .pointer (some ((⟨gu_1, 0, none⟩ : Addr).add 0))) (pu_field (sz := 1) Try.underlying27 rfl Try.sizeOf3 (by decide) rfl rfl) ?_
  refine lex.val (v := .int .i64 u_1_0) (ld_fld (hC.bx (i := 1) rfl) Try.isAgg3 rfl rfl) ?_
  obtain ⟨u5, h6, hb⟩ := bd hb
  refine lex.op (hC.make (s := (.sl (.int .i64))) (n := u_1_0) Try.underlying79 Try.type82 rfl rfl rfl rfl rfl (pos_some h6).1 (pos_some h6).2 (by decide)) ?_
  rintro _ w11 ⟨A7, c8, rfl, hl9, hc10, hC, hF, hN⟩
  clear hF hN
  refine lex.pure (v := .slice A7 (((List.replicate u_1_0.toNat ([] : List Int))).length) c8) (pu_assign rfl) ?_
  refine lex.nil ?_
  refine hK4 _ _ ?_
  refine Wc.seq fun K13 hK13 => ?_
  refine Wc.seq fun K14 hK14 => ?_
  refine Wc.region (by decide +kernel) ?_
  refine lex.pure (v := .slice A7 (((List.replicate u_1_0.toNat ([] : List Int))).length) c8) (pu_move rfl) ?_
  refine lex.pure (v := .int .i64 (((List.replicate u_1_0.toNat ([] : List Int))).length : Int)) (pu_len (A := A7) (n := ((List.replicate u_1_0.toNat ([] : List Int))).length) (m := c8) Try.underlying79 rfl) ?_
  refine lex.pure (v := .int .i64 0) (pu_move rfl) ?_
  refine lex.nil ?_
  refine hK14 _ _ ?_
  obtain ⟨o15, hl0, hb⟩ := bd hb
  refine Wc.cut (fun E wv => ∃ (v12_0 : Int) (qf12_0 : List (List Int)), E 0 = .int .i64 letter_0 ∧ E 3 = .slice none 0 0 ∧ E 4 = .slice A7 (((List.replicate u_1_0.toNat ([] : List Int))).length) c8 ∧ I64 v12_0 ∧ Cx I O0 w wv [.own 82 (.sl (.int .i64)) (.slice A7 (((List.replicate u_1_0.toNat ([] : List Int))).length) c8) qf12_0, .box gu_1 27 [.int .i64 u_1_0, .slice Au_1_1 u_1_1.length cu_1_1], .ro (.sl (.int .i64)) [.slice Au_1_1 u_1_1.length cu_1_1] u_1_1] ∧ (cond (decide (0 < letter_0)) ((chk (letter_0 - 1)).bind fun z50 => (chk (letter_0 + 1)).bind fun z52 => (chk (-letter_0)).bind fun z54 => (get qf12_0 z50).bind fun x68 => (get (qf12_0.set z50.toNat ([letter_0, z52, z54] : List Int)) letter_0).bind fun x75 => some ((qf12_0.set z50.toNat ([letter_0, z52, z54] : List Int)).set letter_0.toNat ([letter_0] : List Int))) ((chk (-letter_0)).bind fun z84 => (chk (z84 - 1)).bind fun z86 => (chk (z84 + 1)).bind fun z88 => (chk (z84 + 1)).bind fun z96 => (chk (-z96)).bind fun z98 => (chk (z84 + 1)).bind fun z100 => (get qf12_0 z86).bind fun x108 => (get (qf12_0.set z86.toNat ([z88] : List Int)) z84).bind fun x115 => some ((qf12_0.set z86.toNat ([z88] : List Int)).set z84.toNat ([z98, z84, z100] : List Int))) : Option ((List (List Int)))) = some r) (fun K16 hK16 => ?_) ?_
  · refine Wc.block ?_
    refine Wc.loop (fun m E wv => ∃ (v12_0 : Int) (qf12_0 : List (List Int)), E 0 = .int .i64 letter_0 ∧ E 3 = .slice none 0 0 ∧ E 4 = .slice A7 (((List.replicate u_1_0.toNat ([] : List Int))).length) c8 ∧ E 11 = .int .i64 (((List.replicate u_1_0.toNat ([] : List Int))).length : Int) ∧ E 12 = .int .i64 v12_0 ∧ I64 v12_0 ∧ Cx I O0 w wv [.own 82 (.sl (.int .i64)) (.slice A7 (((List.replicate u_1_0.toNat ([] : List Int))).length) c8) qf12_0, .box gu_1 27 [.int .i64 u_1_0, .slice Au_1_1 u_1_1.length cu_1_1], .ro (.sl (.int .i64)) [.slice Au_1_1 u_1_1.length cu_1_1] u_1_1] ∧ loopN m (F.artin_Act_c1_b0 n u_1_0) (v12_0, qf12_0) = some o15) n ⟨0, (List.replicate u_1_0.toNat ([] : List Int)), rfl, rfl, rfl, rfl, rfl, (show I64 0 from by unfold I64; omega), hC.sel [0, 2, 1] (by decide), hl0⟩ ?_
    have hbK0 := hb
    clear hb hC hl0
    rintro m18 E20 w19 ⟨v12_0, qf12_0, e0, e3, e4, e11, e12, hrv12_0, hC, hl0⟩ K17 hK17
    obtain ⟨m18', o21, rfl, hb, hl0⟩ := loopN_some hl0
    unfold F.artin_Act_c1_b0 at hb
    refine Wc.seq fun K22 hK22 => ?_
    refine Wc.region (by decide +kernel) ?_
    refine lex.pure (v := .bool (decide (v12_0 < (((List.replicate u_1_0.toNat ([] : List Int))).length : Int)))) (pu_lss (k := .i64) (a := v12_0) (b := (((List.replicate u_1_0.toNat ([] : List Int))).length : Int)) e12 e11) ?_
    refine lex.nil ?_
    refine hK22 _ _ ?_
    refine Wc.seq fun K23 hK23 => ?_
    refine Wc.cond (t := (decide (v12_0 < (((List.replicate u_1_0.toNat ([] : List Int))).length : Int)))) (rfl) (fun hq24 => ?_) (fun hq24 => ?_)
    · replace hb := (cT hq24).symm.trans hb
      refine Wc.skip ?_
      refine hK23 _ _ ?_
      refine Wc.seq fun K25 hK25 => ?_
      refine Wc.block ?_
      refine Wc.seq fun K26 hK26 => ?_
      refine Wc.region (by decide +kernel) ?_
      refine lex.pure (v := .int .i64 v12_0) (pu_move e12) ?_
      refine lex.pure (v := .int .i64 v12_0) (pu_assign rfl) ?_
      refine lex.nil ?_
      refine hK26 _ _ ?_
      refine Wc.region (by decide +kernel) ?_
      refine lex.pure (v := .slice A7 (((List.replicate u_1_0.toNat ([] : List Int))).length) c8) (pu_move e4) ?_
      refine lex.pure (v := .int .i64 v12_0) (pu_move rfl) ?_
      refine lex.pure (v := .int .i64 v12_0) (pu_move rfl) ?_
      obtain ⟨z27, h28, hb⟩ := bd hb
      refine lex.pure (v := .int .i64 z27) (pu_addc (a := v12_0) (b := 1) rfl rfl h28) ?_
      refine lex.op (hC.lit (s := (.int .i64)) (vs := [.int .i64 z27]) (xs := [z27]) Try.underlying82 Try.type3 rfl rfl (Nat.le_of_ble_eq_true rfl) rfl rfl (by simp [Value.cells, Sh.n]) rfl (show Elems _ _ (.int .i64) ([.int .i64 z27] ++ ([])) ([z27] : List Int) from Elems.cons (⟨rfl, I64.wr (chk_rng h28)⟩) (Elems.nil _ _ _))) ?_
      rintro _ w33 ⟨A29, c30, rfl, hl31, hc32, hC, hF, hN⟩
      clear hF hN
      obtain ⟨x35, h36, hb⟩ := bd hb
      obtain ⟨ad37, cs38, hA, hc39, hr40⟩ := hC.elo (i := 1) rfl (get_some h36).2
      subst hA
      refine lex.pure (v := .pointer (some (ad37.add (v12_0.toNat * 1)))) (pu_index (a := v12_0) Try.underlying79 Try.sizeOf82 rfl rfl (by rw [(hC.ow (i := 1) rfl).sl_len.1]; exact (get_some h36).1)) ?_
      replace hC := hC.freeze (i := 0) rfl (hC.own_newI hI (i := 0) rfl (List.forall_mem_cons.2 ⟨fun g hg => ⟨2, _, rfl, by decide, hg⟩, fun _ h => absurd h List.not_mem_nil⟩))
      refine lex.sk (hC.put (i := 1) rfl rfl Try.sizeOf82 (k := v12_0.toNat) (a := ([z27] : List Int)) (by have := (get_some h36).1; simp at this ⊢; omega) (hC.rd (i := 0) rfl) rfl rfl rfl) ?_
      rintro w41 ⟨hC, hF⟩
      refine lex.nil ?_
      refine hK25 _ _ ?_
      refine Wc.region (by decide +kernel) ?_
      obtain ⟨z42, h43, hb⟩ := bd hb
      refine lex.pure (v := .int .i64 z42) (pu_addc (a := v12_0) (b := 1) e12 rfl h43) ?_
      refine lex.pure (v := .int .i64 z42) (pu_move rfl) ?_
      refine lex.nil ?_
      obtain rfl := Option.some.inj hb
      exact hK17 m18' _ _ (Nat.lt_succ_self _) ⟨z42, (qf12_0.set v12_0.toNat ([z27] : List Int)), e0, e3, e4, e11, rfl, (chk_rng h43), hC.sel [1, 2, 3] (by decide), lN hl0⟩
    · replace hb := (cF hq24).symm.trans hb
      refine Wc.exit rfl ?_
      obtain rfl := Option.some.inj hb
      obtain rfl := (lX hl0).symm
      exact hK16 _ _ ⟨v12_0, qf12_0, e0, e3, e4, hrv12_0, hC.sel [0, 1, 2] (by decide), hbK0⟩
  · clear hb hC hl0
    rintro E45 w44 ⟨v12_0, qf12_0, e0, e3, e4, hrv12_0, hC, hb⟩
    refine hK13 _ _ ?_
    refine Wc.seq fun K46 hK46 => ?_
    refine Wc.seq fun K47 hK47 => ?_
    refine Wc.region (by decide +kernel) ?_
    refine lex.pure (v := .int .i64 letter_0) (pu_move e0) ?_
    refine lex.pure (v := .int .i64 letter_0) (pu_assign rfl) ?_
    refine lex.nil ?_
    refine hK47 _ _ ?_
    refine Wc.seq fun K48 hK48 => ?_
    refine Wc.region (by decide +kernel) ?_
    refine lex.pure (v := .int .i64 letter_0) (pu_move rfl) ?_
    refine lex.pure (v := .bool (decide (0 < letter_0))) (pu_gtr (k := .i64) (a := letter_0) (b := 0) rfl rfl) ?_
    refine lex.nil ?_
    refine hK48 _ _ ?_
    refine Wc.cond (t := (decide (0 < letter_0))) (rfl) (fun hq49 => ?_) (fun hq49 => ?_)
    · replace hb := (cT hq49).symm.trans hb
      refine Wc.region (by decide +kernel) ?_
      refine lex.pure (v := .slice A7 (((List.replicate u_1_0.toNat ([] : List Int))).length) c8) (pu_move e4) ?_
      refine lex.pure (v := .int .i64 letter_0) (pu_move rfl) ?_
      obtain ⟨z50, h51, hb⟩ := bd hb
      refine lex.pure (v := .int .i64 z50) (pu_subc (a := letter_0) (b := 1) rfl rfl h51) ?_
      refine lex.pure (v := .slice A7 (((List.replicate u_1_0.toNat ([] : List Int))).length) c8) (pu_move e4) ?_
      refine lex.pure (v := .int .i64 letter_0) (pu_move rfl) ?_
      refine lex.pure (v := .int .i64 letter_0) (pu_move rfl) ?_
      refine lex.pure (v := .int .i64 letter_0) (pu_move rfl) ?_
      obtain ⟨z52, h53, hb⟩ := bd hb
      refine lex.pure (v := .int .i64 z52) (pu_addc (a := letter_0) (b := 1) rfl rfl h53) ?_
      refine lex.pure (v := .int .i64 letter_0) (pu_move rfl) ?_
      obtain ⟨z54, h55, hb⟩ := bd hb
      refine lex.pure (v := .int .i64 z54) (pu_negc (a := letter_0) rfl h55) ?_
      refine lex.op (hC.lit (s := (.int .i64)) (vs := [.int .i64 letter_0, .int .i64 z52, .int .i64 z54]) (xs := [letter_0, z52, z54]) Try.underlying82 Try.type3 rfl rfl (Nat.le_of_ble_eq_true rfl) rfl rfl (by simp [Value.cells, Sh.n]) rfl (show Elems _ _ (.int .i64) ([.int .i64 letter_0] ++ ([.int .i64 z52] ++ ([.int .i64 z54] ++ ([])))) ([letter_0, z52, z54] : List Int) from Elems.cons (⟨rfl, I64.wr hletter_0⟩) (Elems.cons (⟨rfl, I64.wr (chk_rng h53)⟩) (Elems.cons (⟨rfl, I64.wr (chk_rng h55)⟩) (Elems.nil _ _ _))))) ?_
      rintro _ w60 ⟨A56, c57, rfl, hl58, hc59, hC, hF, hN⟩
      clear hF hN
      refine lex.pure (v := .int .i64 letter_0) (pu_move rfl) ?_
      refine lex.op (hC.lit (s := (.int .i64)) (vs := [.int .i64 letter_0]) (xs := [letter_0]) Try.underlying82 Try.type3 rfl rfl (Nat.le_of_ble_eq_true rfl) rfl rfl (by simp [Value.cells, Sh.n]) rfl (show Elems _ _ (.int .i64) ([.int .i64 letter_0] ++ ([])) ([letter_0] : List Int) from Elems.cons (⟨rfl, I64.wr hletter_0⟩) (Elems.nil _ _ _))) ?_
      rintro _ w66 ⟨A62, c63, rfl, hl64, hc65, hC, hF, hN⟩
      clear hF hN
      obtain ⟨x68, h69, hb⟩ := bd hb
      obtain ⟨ad70, cs71, hA, hc72, hr73⟩ := hC.elo (i := 2) rfl (get_some h69).2
      subst hA
      refine lex.pure (v := .pointer (some (ad70.add (z50.toNat * 1)))) (pu_index (a := z50) Try.underlying79 Try.sizeOf82 rfl rfl (by rw [(hC.ow (i := 2) rfl).sl_len.1]; exact (get_some h69).1)) ?_
      replace hC := hC.freeze (i := 1) rfl (hC.own_newI hI (i := 1) rfl (List.forall_mem_cons.2 ⟨fun g hg => ⟨3, _, rfl, by decide, hg⟩, fun _ h => absurd h List.not_mem_nil⟩))
      refine lex.sk (hC.put (i := 2) rfl rfl Try.sizeOf82 (k := z50.toNat) (a := ([letter_0, z52, z54] : List Int)) (by have := (get_some h69).1; simp at this ⊢; omega) (hC.rd (i := 1) rfl) rfl rfl rfl) ?_
      rintro w74 ⟨hC, hF⟩
      obtain ⟨x75, h76, hb⟩ := bd hb
      obtain ⟨ad77, cs78, hA, hc79, hr80⟩ := hC.elo (i := 2) rfl (get_some h76).2
      obtain rfl := Option.some.inj hA
      refine lex.pure (v := .pointer (some (ad70.add (letter_0.toNat * 1)))) (pu_index (a := letter_0) Try.underlying79 Try.sizeOf82 rfl rfl (by rw [(hC.ow (i := 2) rfl).sl_len.1]; exact (get_some h76).1)) ?_
      replace hC := hC.freeze (i := 0) rfl (hC.own_newI hI (i := 0) rfl (List.forall_mem_cons.2 ⟨fun g hg => ⟨3, _, rfl, by decide, hg⟩, fun _ h => absurd h List.not_mem_nil⟩))
      refine lex.sk (hC.put (i := 2) rfl rfl Try.sizeOf82 (k := letter_0.toNat) (a := ([letter_0] : List Int)) (by have := (get_some h76).1; simp at this ⊢; omega) (hC.rd (i := 0) rfl) rfl rfl rfl) ?_
      rintro w81 ⟨hC, hF⟩
      refine lex.nil ?_
      refine hK46 _ _ ?_
      refine Wc.seq fun K82 hK82 => ?_
      refine Wc.region (by decide +kernel) ?_
      refine lex.pure (v := .slice (some ad70) (((List.replicate u_1_0.toNat ([] : List Int))).length) c8) (pu_move e4) ?_
      refine lex.pure (v := .slice (some ad70) (((List.replicate u_1_0.toNat ([] : List Int))).length) c8) (pu_assign rfl) ?_
      refine lex.nil ?_
      refine hK82 _ _ ?_
      obtain rfl := Option.some.inj hb
      subst hI
      refine Wc.ret ?_
      refine hKR _ _ ?_
      refine ⟨_, res1 Try.results79 (show RV _ _ _ (.tmp _) (.slice (some ad70) (((List.replicate u_1_0.toNat ([] : List Int))).length) c8) from rfl), _, rfl, (some ad70), ((List.replicate u_1_0.toNat ([] : List Int))).length, c8, rfl, hC.sel [2, 3] (by decide)⟩
    · replace hb := (cF hq49).symm.trans hb
      refine Wc.seq fun K83 hK83 => ?_
      refine Wc.region (by decide +kernel) ?_
      refine lex.pure (v := .int .i64 letter_0) (pu_move e0) ?_
      obtain ⟨z84, h85, hb⟩ := bd hb
      refine lex.pure (v := .int .i64 z84) (pu_negc (a := letter_0) rfl h85) ?_
      refine lex.pure (v := .int .i64 z84) (pu_assign rfl) ?_
      refine lex.nil ?_
      refine hK83 _ _ ?_
      refine Wc.region (by decide +kernel) ?_
      refine lex.pure (v := .slice A7 (((List.replicate u_1_0.toNat ([] : List Int))).length) c8) (pu_move e4) ?_
      refine lex.pure (v := .int .i64 z84) (pu_move rfl) ?_
      obtain ⟨z86, h87, hb⟩ := bd hb
      refine lex.pure (v := .int .i64 z86) (pu_subc (a := z84) (b := 1) rfl rfl h87) ?_
      refine lex.pure (v := .slice A7 (((List.replicate u_1_0.toNat ([] : List Int))).length) c8) (pu_move e4) ?_
      refine lex.pure (v := .int .i64 z84) (pu_move rfl) ?_
      refine lex.pure (v := .int .i64 z84) (pu_move rfl) ?_
      obtain ⟨z88, h89, hb⟩ := bd hb
      refine lex.pure (v := .int .i64 z88) (pu_addc (a := z84) (b := 1) rfl rfl h89) ?_
      refine lex.op (hC.lit (s := (.int .i64)) (vs := [.int .i64 z88]) (xs := [z88]) Try.underlying82 Try.type3 rfl rfl (Nat.le_of_ble_eq_true rfl) rfl rfl (by simp [Value.cells, Sh.n]) rfl (show Elems _ _ (.int .i64) ([.int .i64 z88] ++ ([])) ([z88] : List Int) from Elems.cons (⟨rfl, I64.wr (chk_rng h89)⟩) (Elems.nil _ _ _))) ?_
      rintro _ w94 ⟨A90, c91, rfl, hl92, hc93, hC, hF, hN⟩
      clear hF hN
      refine lex.pure (v := .int .i64 z84) (pu_move rfl) ?_
      obtain ⟨z96, h97, hb⟩ := bd hb
      refine lex.pure (v := .int .i64 z96) (pu_addc (a := z84) (b := 1) rfl rfl h97) ?_
      obtain ⟨z98, h99, hb⟩ := bd hb
      refine lex.pure (v := .int .i64 z98) (pu_negc (a := z96) rfl h99) ?_
      refine lex.pure (v := .int .i64 z84) (pu_move rfl) ?_
      refine lex.pure (v := .int .i64 z84) (pu_move rfl) ?_
      obtain ⟨z100, h101, hb⟩ := bd hb
      refine lex.pure (v := .int .i64 z100) (pu_addc (a := z84) (b := 1) rfl rfl h101) ?_
      refine lex.op (hC.lit (s := (.int .i64)) (vs := [.int .i64 z98, .int .i64 z84, .int .i64 z100]) (xs := [z98, z84, z100]) Try.underlying82 Try.type3 rfl rfl (Nat.le_of_ble_eq_true rfl) rfl rfl (by simp [Value.cells, Sh.n]) rfl (show Elems _ _ (.int .i64) ([.int .i64 z98] ++ ([.int .i64 z84] ++ ([.int .i64 z100] ++ ([])))) ([z98, z84, z100] : List Int) from Elems.cons (⟨rfl, I64.wr (chk_rng h99)⟩) (Elems.cons (⟨rfl, I64.wr (chk_rng h85)⟩) (Elems.cons (⟨rfl, I64.wr (chk_rng h101)⟩) (Elems.nil _ _ _))))) ?_
      rintro _ w106 ⟨A102, c103, rfl, hl104, hc105, hC, hF, hN⟩
      clear hF hN
      obtain ⟨x108, h109, hb⟩ := bd hb
      obtain ⟨ad110, cs111, hA, hc112, hr113⟩ := hC.elo (i := 2) rfl (get_some h109).2
      subst hA
      refine lex.pure (v := .pointer (some (ad110.add (z86.toNat * 1)))) (pu_index (a := z86) Try.underlying79 Try.sizeOf82 rfl rfl (by rw [(hC.ow (i := 2) rfl).sl_len.1]; exact (get_some h109).1)) ?_
      replace hC := hC.freeze (i := 1) rfl (hC.own_newI hI (i := 1) rfl (List.forall_mem_cons.2 ⟨fun g hg => ⟨3, _, rfl, by decide, hg⟩, fun _ h => absurd h List.not_mem_nil⟩))
      refine lex.sk (hC.put (i := 2) rfl rfl Try.sizeOf82 (k := z86.toNat) (a := ([z88] : List Int)) (by have := (get_some h109).1; simp at this ⊢; omega) (hC.rd (i := 1) rfl) rfl rfl rfl) ?_
      rintro w114 ⟨hC, hF⟩
      obtain ⟨x115, h116, hb⟩ := bd hb
      obtain ⟨ad117, cs118, hA, hc119, hr120⟩ := hC.elo (i := 2) rfl (get_some h116).2
      obtain rfl := Option.some.inj hA
      refine lex.pure (v := .pointer (some (ad110.add (z84.toNat * 1)))) (pu_index (a := z84) Try.underlying79 Try.sizeOf82 rfl rfl (by rw [(hC.ow (i := 2) rfl).sl_len.1]; exact (get_some h116).1)) ?_
      replace hC := hC.freeze (i := 0) rfl (hC.own_newI hI (i := 0) rfl (List.forall_mem_cons.2 ⟨fun g hg => ⟨3, _, rfl, by decide, hg⟩, fun _ h => absurd h List.not_mem_nil⟩))
      refine lex.sk (hC.put (i := 2) rfl rfl Try.sizeOf82 (k := z84.toNat) (a := ([z98, z84, z100] : List Int)) (by have := (get_some h116).1; simp at this ⊢; omega) (hC.rd (i := 0) rfl) rfl rfl rfl) ?_
      rintro w121 ⟨hC, hF⟩
      refine lex.nil ?_
      refine hK46 _ _ ?_
      refine Wc.seq fun K122 hK122 => ?_
      refine Wc.region (by decide +kernel) ?_
      refine lex.pure (v := .slice (some ad110) (((List.replicate u_1_0.toNat ([] : List Int))).length) c8) (pu_move e4) ?_
      refine lex.pure (v := .slice (some ad110) (((List.replicate u_1_0.toNat ([] : List Int))).length) c8) (pu_assign rfl) ?_
      refine lex.nil ?_
      refine hK122 _ _ ?_
      obtain rfl := Option.some.inj hb
      subst hI
      refine Wc.ret ?_
      refine hKR _ _ ?_
      refine ⟨_, res1 Try.results79 (show RV _ _ _ (.tmp _) (.slice (some ad110) (((List.replicate u_1_0.toNat ([] : List Int))).length) c8) from rfl), _, rfl, (some ad110), ((List.replicate u_1_0.toNat ([] : List Int))).length, c8, rfl, hC.sel [2, 3] (by decide)⟩

set_option maxRecDepth 100000 in
set_option maxHeartbeats 4000000 in
theorem slices_Backward_Word_int_it {gb : Nat} {A : Option Addr} {c : Nat} {xs : List Int} : IterOk Try.prog 104 #[.pointer (some ⟨gb, 0, none⟩)] xs.length (fun k => #[.int .i64 ((xs.length : Int) - 1 - (k : Int)), .int .i64 (xs.getD (xs.length - 1 - k) 0)]) (RdBack gb 82 A c xs) := by
  intro l A' B W hrd hround hA0
  refine calls_of_Wc Try.func104 rfl (by rw [Try.ntmps104]; exact Nat.le_of_ble_eq_true rfl) fun KR hKR => ?_
  have fin : ∀ E w, (A' xs.length w ∨ B w) → KR E w := fun E w h => hKR _ _ ⟨_, res0 Try.results104, ⟨_, rfl⟩, h⟩
  refine Wc.seq fun K1 hK1 => ?_
  refine Wc.region (by decide +kernel) ?_
  obtain ⟨hb, hl, hx⟩ := hrd 0 W hA0
  refine lex.val (v := .slice A xs.length c) (ld_one Try.isAgg82 rfl (hb.cell (j := 0) rfl)) ?_
  refine lex.pure (v := .int .i64 (xs.length : Int)) (pu_len (A := A) (n := xs.length) (m := c) Try.underlying82 rfl) ?_
  refine lex.pure (v := .int .i64 ((xs.length : Int) - 1)) (pu_sub (a := (xs.length : Int)) (b := 1) rfl rfl (by unfold I64; omega)) ?_
  refine lex.pure (v := .int .i64 ((xs.length : Int) - 1)) (pu_assign rfl) ?_
  refine lex.nil ?_
  refine hK1 _ _ ?_
  refine Wc.block ?_
  refine Wc.loop (fun m E wv => ∃ k : Nat, m = xs.length - k ∧ k ≤ xs.length ∧ E 0 = .func (.yield l) #[] #[] ∧ E 1 = .pointer (some ⟨gb, 0, none⟩) ∧ E 3 = .int .i64 ((xs.length : Int) - 1 - (k : Int)) ∧ A' k wv) xs.length ⟨0, by omega, by omega, rfl, rfl, by rw [show (xs.length : Int) - 1 - ((0 : Nat) : Int) = (xs.length : Int) - 1 by omega]; rfl, hA0⟩ ?_
  clear hb hx hA0
  rintro m E1 w1 ⟨k, rfl, hk, e0, e1, e3, hA⟩ K hK
  obtain ⟨hb, _, hx⟩ := hrd k w1 hA
  refine Wc.seq fun K2 hK2 => ?_
  refine Wc.seq fun K3 hK3 => ?_
  refine Wc.region (by decide +kernel) ?_
  refine lex.pure (v := .int .i64 ((xs.length : Int) - 1 - (k : Int))) (pu_move e3) ?_
  refine lex.pure (v := .bool (decide (0 ≤ (xs.length : Int) - 1 - (k : Int)))) (pu_geq (k := .i64) (a := (xs.length : Int) - 1 - (k : Int)) (b := 0) rfl rfl) ?_
  refine lex.nil ?_
  refine hK3 _ _ ?_
  refine Wc.cond (t := decide (0 ≤ (xs.length : Int) - 1 - (k : Int))) rfl (fun hq => ?_) (fun hq => ?_)
  · refine Wc.skip ?_
    refine hK2 _ _ ?_
    have hkl : k < xs.length := by have := of_decide_eq_true hq; omega
    have hi : xs[xs.length - 1 - k]? = some (xs.getD (xs.length - 1 - k) 0) := by
      rw [List.getD_eq_getElem?_getD, List.getElem?_eq_getElem (by omega)]; rfl
    obtain ⟨ad, hA1, hcell⟩ := hx _ _ hi
    subst hA1
    refine Wc.seq fun K4 hK4 => ?_
    refine Wc.block ?_
    refine Wc.seq fun K5 hK5 => ?_
    refine Wc.region (by decide +kernel) ?_
    refine lex.pure (v := .func (.yield l) #[] #[]) (pu_move e0) ?_
    refine lex.pure (v := .int .i64 ((xs.length : Int) - 1 - (k : Int))) (pu_move e3) ?_
    refine lex.val (v := .slice (some ad) xs.length c) (ld_one Try.isAgg82 e1 (hb.cell (j := 0) rfl)) ?_
    refine lex.pure (v := .int .i64 ((xs.length : Int) - 1 - (k : Int))) (pu_move e3) ?_
    refine lex.pure (v := .pointer (some (ad.add (((xs.length : Int) - 1 - (k : Int)).toNat * 1)))) (pu_index (a := (xs.length : Int) - 1 - (k : Int)) Try.underlying82 Try.sizeOf3 rfl rfl (by omega)) ?_
    refine lex.val (v := .int .i64 (xs.getD (xs.length - 1 - k) 0)) (ld_one Try.isAgg3 rfl (by rw [show ((xs.length : Int) - 1 - (k : Int)).toNat * 1 = xs.length - 1 - k by omega]; exact hcell)) ?_
    obtain ⟨fn, tmps, assign, body, hy, hR⟩ := hround k w1 hkl hA
    refine lex.yield (op_yield (vs := [.int .i64 ((xs.length : Int) - 1 - (k : Int)), .int .i64 (xs.getD (xs.length - 1 - k) 0)]) rfl rfl rfl hy) hR ?_
    rintro e w2 (⟨rfl, hA2⟩ | ⟨rfl, hB⟩)
    · refine ⟨_, rfl, ?_⟩
      refine lex.pure (v := .bool (!true)) (pu_not rfl) ?_
      refine lex.nil ?_
      refine hK5 _ _ ?_
      refine Wc.cond_false rfl ?_
      refine Wc.skip ?_
      refine hK4 _ _ ?_
      refine Wc.region (by decide +kernel) ?_
      refine lex.pure (v := .int .i64 ((xs.length : Int) - 1 - (k : Int))) (pu_move e3) ?_
      refine lex.pure (v := .int .i64 ((xs.length : Int) - 1 - (k : Int) - 1)) (pu_sub (a := (xs.length : Int) - 1 - (k : Int)) (b := 1) rfl rfl (by unfold I64; omega)) ?_
      refine lex.pure (v := .int .i64 ((xs.length : Int) - 1 - (k : Int) - 1)) (pu_assign rfl) ?_
      refine lex.nil ?_
      exact hK (xs.length - (k + 1)) _ _ (by omega) ⟨k + 1, rfl, by omega, e0, e1, by rw [show (xs.length : Int) - 1 - ((k + 1 : Nat) : Int) = (xs.length : Int) - 1 - (k : Int) - 1 by omega]; rfl, hA2⟩
    · refine ⟨_, rfl, ?_⟩
      refine lex.pure (v := .bool (!false)) (pu_not rfl) ?_
      refine lex.nil ?_
      refine hK5 _ _ ?_
      refine Wc.cond_true rfl ?_
      refine Wc.ret ?_
      exact fin _ _ (.inr hB)
  · refine Wc.exit rfl ?_
    have : k = xs.length := by have := of_decide_eq_false hq; omega
    subst this
    exact fin _ _ (.inl hA)
set_option maxRecDepth 100000 in
set_option maxHeartbeats 4000000 in
theorem slices_Backward_Word_int_ok {w : World} {O0 : List Nat} {A : Option Addr} {m c : Nat} (hO : ∀ k ∈ O0, k < w.heap.size) : Calls Try.prog 94 #[.slice A m c] w fun e w' => ∃ v, e = .returned v ∧ ∃ gb, v = .func (.func 104) #[] #[.pointer (some ⟨gb, 0, none⟩)] ∧ Cx (fun _ => False) O0 w w' [.box gb 82 [.slice A m c]] := by
  have hC := Cx.start hO
  refine calls_of_Wc Try.func94 rfl (by rw [Try.ntmps94]; exact Nat.le_of_ble_eq_true rfl) fun KR hKR => ?_
  refine Wc.seq fun K1 hK1 => ?_
  refine Wc.region (by decide +kernel) ?_
  refine lex.op (hC.box (cs := [.slice A m c]) rfl rfl) ?_
  rintro _ w2 ⟨g1, rfl, hC, hF, hG⟩
  refine lex.pure (v := .nilFunc) (pu_assign rfl) ?_
  refine lex.nil ?_
  refine hK1 _ _ ?_
  refine Wc.seq fun K2 hK2 => ?_
  refine Wc.region (by decide +kernel) ?_
  refine lex.pure (v := .func (.func 104) #[] #[.pointer (some ⟨g1, 0, none⟩)]) (pu_funcc (l := [.pointer (some ⟨g1, 0, none⟩)]) rfl) ?_
  refine lex.pure (v := .func (.func 104) #[] #[.pointer (some ⟨g1, 0, none⟩)]) (pu_assign rfl) ?_
  refine lex.nil ?_
  refine hK2 _ _ ?_
  refine Wc.ret ?_
  refine hKR _ _ ?_
  exact ⟨_, res1 Try.results94 (show RV _ _ _ (.tmp _) (.func (.func 104) #[] #[.pointer (some ⟨g1, 0, none⟩)]) from rfl), _, rfl, g1, rfl, hC⟩

set_option maxRecDepth 100000 in
set_option maxHeartbeats 4000000 in
theorem word_Substitute_ok (n : Nat) {w : World} {O0 : List Nat} (hO : ∀ k ∈ O0, k < w.heap.size) {Awx_0 : Option Addr} {mwx_0 cwx_0 : Nat} {wx_0 : List Int} (hwx_0 : Rep O0 w (.sl (.int .i64)) [.slice Awx_0 mwx_0 cwx_0] wx_0) {Aimages_1 : Option Addr} {mimages_1 cimages_1 : Nat} {images_1 : List (List Int)} (himages_1 : Rep O0 w (.sl (.sl (.int .i64))) [.slice Aimages_1 mimages_1 cimages_1] images_1) {r : (List Int) × Int} (hb : F.word_Substitute n wx_0 images_1 = some r) :
    Calls Try.prog 81 #[.slice Awx_0 mwx_0 cwx_0, .slice Aimages_1 mimages_1 cimages_1] w fun e w' => ∃ v, e = .returned v ∧ ∃ (A0 : Option Addr) (m0 c0 : Nat), v = .tuple #[.slice A0 m0 c0, .int .i64 r.2] ∧ I64 r.2 ∧ Cx (fun _ => False) O0 w w' [.own 3 (.int .i64) (.slice A0 m0 c0) r.1] := by
  unfold F.word_Substitute at hb
  have hC := Cx.start hO
  replace hC := hC.arg rfl hwx_0
  replace hC := hC.arg rfl himages_1
  clear hO
  obtain ⟨rfl, hlwx_0, hcwx_0⟩ := hwx_0.sl_len
  obtain ⟨rfl, hlimages_1, hcimages_1⟩ := himages_1.sl_len
  replace hC : Cx (fun _ => False) O0 w w ([.ro (.sl (.sl (.int .i64))) [.slice Aimages_1 images_1.length cimages_1] images_1, .ro (.sl (.int .i64)) [.slice Awx_0 wx_0.length cwx_0] wx_0] ++ marksF ([] : List Nat)) := hC
  refine calls_of_WcM Try.func81 rfl (by rw [Try.ntmps81]; exact Nat.le_of_ble_eq_true rfl) fun KR hKR => ?_
  refine Wc.seq fun K3 hK3 => ?_
  refine Wc.region (by decide +kernel) ?_
  replace hC : Cx (fun _ => False) O0 w w ([.ro (.sl (.sl (.int .i64))) [.slice Aimages_1 images_1.length cimages_1] images_1, .ro (.sl (.int .i64)) [.slice Awx_0 wx_0.length cwx_0] wx_0] ++ marksF ([] : List Nat)) := hC
  refine lex.pure (v := .slice none 0 0) (pu_assign rfl) ?_
  refine lex.pure (v := .int .i64 0) (pu_assign rfl) ?_
  refine lex.nil ?_
  refine hK3 _ _ ?_
  refine Wc.seq fun K4 hK4 => ?_
  refine Wc.seq fun K5 hK5 => ?_
  refine Wc.region (by decide +kernel) ?_
  refine lex.pure (v := .slice Awx_0 wx_0.length cwx_0) (pu_move rfl) ?_
  refine lex.pure (v := .int .i64 (wx_0.length : Int)) (pu_len (A := Awx_0) (n := wx_0.length) (m := cwx_0) Try.underlying82 rfl) ?_
  refine lex.pure (v := .int .i64 0) (pu_move rfl) ?_
  refine lex.nil ?_
  refine hK5 _ _ ?_
  obtain ⟨o6, hl0, hb⟩ := bd hb
  refine Wc.cut (fun E wv => ∃ (ms_0 : List Nat) (v15_0 : Int), E 0 = .slice Awx_0 wx_0.length cwx_0 ∧ E 1 = .slice Aimages_1 images_1.length cimages_1 ∧ E 4 = .slice none 0 0 ∧ E 5 = .int .i64 0 ∧ I64 v15_0 ∧ E.ms = ms_0 ∧ Cx (fun _ => False) O0 w wv ([.ro (.sl (.int .i64)) [.slice Awx_0 wx_0.length cwx_0] wx_0, .ro (.sl (.sl (.int .i64))) [.slice Aimages_1 images_1.length cimages_1] images_1] ++ marksF ms_0) ∧ (((loopN n (F.word_Substitute_b1 n wx_0 images_1) (0, ([] : List Int))).bind fun o50 => match o50 with     | (v28_1, kf46_0_1) => some (kf46_0_1, 0)) : Option ((List Int) × Int)) = some r) (fun K7 hK7 => ?_) ?_
  · refine Wc.block ?_
    refine Wc.loop (fun m E wv => ∃ (ms_0 : List Nat) (v15_0 : Int), E 0 = .slice Awx_0 wx_0.length cwx_0 ∧ E 1 = .slice Aimages_1 images_1.length cimages_1 ∧ E 4 = .slice none 0 0 ∧ E 5 = .int .i64 0 ∧ E 13 = .slice Awx_0 wx_0.length cwx_0 ∧ E 14 = .int .i64 (wx_0.length : Int) ∧ E 15 = .int .i64 v15_0 ∧ I64 v15_0 ∧ E.ms = ms_0 ∧ Cx (fun _ => False) O0 w wv ([.ro (.sl (.int .i64)) [.slice Awx_0 wx_0.length cwx_0] wx_0, .ro (.sl (.sl (.int .i64))) [.slice Aimages_1 images_1.length cimages_1] images_1] ++ marksF ms_0) ∧ loopN m (F.word_Substitute_b0 n wx_0 images_1) v15_0 = some o6) n ⟨([] : List Nat), 0, rfl, rfl, rfl, rfl, rfl, rfl, rfl, (show I64 0 from by unfold I64; omega), rfl, hC.selT [1, 0] (by decide), hl0⟩ ?_
    have hbK0 := hb
    clear hb hC hl0
    rintro m9 E11 w10 ⟨ms_0, v15_0, e0, e1, e4, e5, e13, e14, e15, hrv15_0, hms, hC, hl0⟩ K8 hK8
    obtain ⟨m9', o12, rfl, hb, hl0⟩ := loopN_some hl0
    unfold F.word_Substitute_b0 at hb
    refine Wc.seq fun K13 hK13 => ?_
    refine Wc.region (by decide +kernel) ?_
    replace hC : Cx (fun _ => False) O0 w w10 ([.ro (.sl (.int .i64)) [.slice Awx_0 wx_0.length cwx_0] wx_0, .ro (.sl (.sl (.int .i64))) [.slice Aimages_1 images_1.length cimages_1] images_1] ++ marksF ms_0) := hC
    refine lex.pure (v := .bool (decide (v15_0 < (wx_0.length : Int)))) (pu_lss (k := .i64) (a := v15_0) (b := (wx_0.length : Int)) e15 e14) ?_
    refine lex.nil ?_
    refine hK13 _ _ ?_
    refine Wc.seq fun K14 hK14 => ?_
    refine Wc.cond (t := (decide (v15_0 < (wx_0.length : Int)))) (rfl) (fun hq15 => ?_) (fun hq15 => ?_)
    · replace hb := (cT hq15).symm.trans hb
      refine Wc.skip ?_
      refine hK14 _ _ ?_
      refine Wc.seq fun K16 hK16 => ?_
      refine Wc.block ?_
      refine Wc.seq fun K17 hK17 => ?_
      refine Wc.region (by decide +kernel) ?_
      obtain ⟨x18, h19, hb⟩ := bd hb
      obtain ⟨ad20, cs21, hA, hc22, hr23⟩ := hC.elr (i := 0) rfl (get_some h19).2
      subst hA
      refine lex.pure (v := .pointer (some (ad20.add (v15_0.toNat * 1)))) (pu_index (a := v15_0) Try.underlying82 Try.sizeOf3 e13 e15 (get_some h19).1) ?_
      replace hC : Cx (fun _ => False) O0 w w10 ([.ro (.sl (.int .i64)) [.slice (some ad20) wx_0.length cwx_0] wx_0, .ro (.sl (.sl (.int .i64))) [.slice Aimages_1 images_1.length cimages_1] images_1] ++ marksF ms_0) := hC
      obtain ⟨rfl, hr23'⟩ := hr23
      refine lex.val (v := .int .i64 x18) (ld_one Try.isAgg3 rfl (hc22 0 _ rfl)) ?_
      refine lex.pure (v := .int .i64 x18) (pu_assign rfl) ?_
      refine lex.nil ?_
      refine hK17 _ _ ?_
      refine Wc.seq fun K24 hK24 => ?_
      refine Wc.region (by decide +kernel) ?_
      refine lex.pure (v := .int .i64 x18) (pu_move rfl) ?_
      refine lex.op (hC.lit (s := (.int .i64)) (vs := [.int .i64 x18]) (xs := [x18]) Try.underlying82 Try.type3 rfl rfl (Nat.le_of_ble_eq_true rfl) rfl rfl (by simp [Value.cells, Sh.n]) rfl (show Elems _ _ (.int .i64) ([.int .i64 x18] ++ ([])) ([x18] : List Int) from Elems.cons (⟨rfl, I64.wr (wrap_I64 hr23')⟩) (Elems.nil _ _ _))) ?_
      rintro _ w29 ⟨A25, c26, rfl, hl27, hc28, hC, hF, hN⟩
      clear hF hN
      replace hC : Cx (fun _ => False) O0 w w29 ([.own 3 (.int .i64) (.slice A25 ((([x18] : List Int)).length) c26) ([x18] : List Int), .ro (.sl (.int .i64)) [.slice (some ad20) wx_0.length cwx_0] wx_0, .ro (.sl (.sl (.int .i64))) [.slice Aimages_1 images_1.length cimages_1] images_1] ++ marksF ms_0) := hC
      refine lex.pure (v := .slice Aimages_1 images_1.length cimages_1) (pu_move e1) ?_
      refine lex.pure (v := .int .i64 (images_1.length : Int)) (pu_len (A := Aimages_1) (n := images_1.length) (m := cimages_1) Try.underlying79 rfl) ?_
      obtain ⟨y31, h32, hb⟩ := bd hb
      refine lex.cl (⟨_, _, op_call (vs := [.slice A25 ((([x18] : List Int)).length) c26, .int .i64 (images_1.length : Int)]) Try.call78 rfl rfl rfl, word_Valid_ok n (hC.lentLt [.slice A25 ((([x18] : List Int)).length) c26]) ((hC.ow (i := 0) rfl).lend (vs := [.slice A25 ((([x18] : List Int)).length) c26]) (by simp)) (I64.len hlimages_1 hcimages_1) h32⟩) ?_
      rintro _ w33 ⟨rfl, hK⟩
      replace hC := hC.mergeF hK rfl
      clear hK
      replace hC : Cx (fun _ => False) O0 w w33 ([.own 3 (.int .i64) (.slice A25 ((([x18] : List Int)).length) c26) ([x18] : List Int), .ro (.sl (.int .i64)) [.slice (some ad20) wx_0.length cwx_0] wx_0, .ro (.sl (.sl (.int .i64))) [.slice Aimages_1 images_1.length cimages_1] images_1] ++ marksF ms_0) := hC
      refine lex.pure (v := .bool (!y31)) (pu_not (q := y31) rfl) ?_
      refine lex.nil ?_
      refine hK24 _ _ ?_
      refine Wc.fresh fun E34 hE => ?_
      have e0 : E34 0 = .slice (some ad20) wx_0.length cwx_0 := (congrFun hE 0).trans e0
      have e1 : E34 1 = .slice Aimages_1 images_1.length cimages_1 := (congrFun hE 1).trans e1
      have e4 : E34 4 = .slice none 0 0 := (congrFun hE 4).trans e4
      have e5 : E34 5 = .int .i64 0 := (congrFun hE 5).trans e5
      have e7 : E34 7 = .int .i64 x18 := (congrFun hE 7).trans rfl
      have e13 : E34 13 = .slice (some ad20) wx_0.length cwx_0 := (congrFun hE 13).trans e13
      have e14 : E34 14 = .int .i64 (wx_0.length : Int) := (congrFun hE 14).trans e14
      have e15 : E34 15 = .int .i64 v15_0 := (congrFun hE 15).trans e15
      have e16 : E34 16 = .bool (decide (v15_0 < (wx_0.length : Int))) := (congrFun hE 16).trans rfl
      have e24 : E34 24 = .bool (!y31) := (congrFun hE 24).trans rfl
      clear hE
      refine Wc.cond (t := (!y31)) (e24) (fun hq35 => ?_) (fun hq35 => ?_)
      · replace hb := (cT hq35).symm.trans hb
        refine Wc.seq fun K36 hK36 => ?_
        refine Wc.region (by decide +kernel) ?_
        refine lex.pure (v := .slice none 0 0) (pu_assign rfl) ?_
        refine lex.pure (v := .int .i64 2) (pu_assign rfl) ?_
        refine lex.nil ?_
        refine hK36 _ _ ?_
        obtain rfl := Option.some.inj hb
        obtain rfl := (lX hl0).symm
        replace hb := hbK0
        replace hC := hC.nil 3 (.int .i64)
        replace hC : Cx (fun _ => False) O0 w w33 ([.own 3 (.int .i64) (.slice none 0 0) ([] : List Int), .own 3 (.int .i64) (.slice A25 ((([x18] : List Int)).length) c26) ([x18] : List Int), .ro (.sl (.int .i64)) [.slice (some ad20) wx_0.length cwx_0] wx_0, .ro (.sl (.sl (.int .i64))) [.slice Aimages_1 images_1.length cimages_1] images_1] ++ marksF ms_0) := hC
        obtain rfl := Option.some.inj hb
        refine Wc.ret ?_
        replace hC : Cx (fun _ => False) O0 w w33 (marksF ms_0 ++ [.own 3 (.int .i64) (.slice none 0 0) ([] : List Int), .own 3 (.int .i64) (.slice A25 ((([x18] : List Int)).length) c26) ([x18] : List Int), .ro (.sl (.int .i64)) [.slice (some ad20) wx_0.length cwx_0] wx_0, .ro (.sl (.sl (.int .i64))) [.slice Aimages_1 images_1.length cimages_1] images_1]) := hC.perm List.perm_append_comm
        refine hKR _ _ _ _ _ _ _ hms hC fun w38 hC => ?_
        refine ⟨_, res2 Try.results81 (show RV _ _ _ (.tmp _) (.slice none 0 0) from rfl) (show RV _ _ _ (.tmp _) (.int .i64 2) from rfl), _, rfl, none, 0, 0, rfl, (show I64 2 from by unfold I64; omega), hC.sel [0] (by decide)⟩
      · replace hb := (cF hq35).symm.trans hb
        refine Wc.skip ?_
        refine hK16 _ _ ?_
        refine Wc.region (by decide +kernel) ?_
        obtain ⟨z39, h40, hb⟩ := bd hb
        refine lex.pure (v := .int .i64 z39) (pu_addc (a := v15_0) (b := 1) e15 rfl h40) ?_
        refine lex.pure (v := .int .i64 z39) (pu_move rfl) ?_
        refine lex.nil ?_
        obtain rfl := Option.some.inj hb
        exact hK8 m9' _ _ (Nat.lt_succ_self _) ⟨ms_0, z39, e0, e1, e4, e5, e13, e14, rfl, (chk_rng h40), hms, hC.selT [1, 2] (by decide), lN hl0⟩
    · replace hb := (cF hq15).symm.trans hb
      refine Wc.exit rfl ?_
      obtain rfl := Option.some.inj hb
      obtain rfl := (lX hl0).symm
      exact hK7 _ _ ⟨ms_0, v15_0, e0, e1, e4, e5, hrv15_0, hms, hC.selT [0, 1] (by decide), hbK0⟩
  · clear hb hC hl0
    rintro E42 w41 ⟨ms_0, v15_0, e0, e1, e4, e5, hrv15_0, hms, hC, hb⟩
    refine hK4 _ _ ?_
    refine Wc.seq fun K43 hK43 => ?_
    refine Wc.region (by decide +kernel) ?_
    replace hC : Cx (fun _ => False) O0 w w41 ([.ro (.sl (.int .i64)) [.slice Awx_0 wx_0.length cwx_0] wx_0, .ro (.sl (.sl (.int .i64))) [.slice Aimages_1 images_1.length cimages_1] images_1] ++ marksF ms_0) := hC
    refine lex.op (hC.alloc (cs := [.slice none 0 0]) Try.zeroValue82 rfl) ?_
    rintro _ w45 ⟨g44, rfl, hC, hF, hG⟩
    clear hG
    refine lex.nil ?_
    refine hK43 _ _ ?_
    refine Wc.seq fun K47 hK47 => ?_
    refine Wc.seq fun K48 hK48 => ?_
    refine Wc.region (by decide +kernel) ?_
    replace hC : Cx (fun _ => False) O0 w w45 ([.box g44 82 [.slice none 0 0], .ro (.sl (.int .i64)) [.slice Awx_0 wx_0.length cwx_0] wx_0, .ro (.sl (.sl (.int .i64))) [.slice Aimages_1 images_1.length cimages_1] images_1] ++ marksF ms_0) := hC
    refine lex.pure (v := .slice Awx_0 wx_0.length cwx_0) (pu_move e0) ?_
    refine lex.pure (v := .int .i64 (wx_0.length : Int)) (pu_len (A := Awx_0) (n := wx_0.length) (m := cwx_0) Try.underlying82 rfl) ?_
    refine lex.pure (v := .int .i64 0) (pu_move rfl) ?_
    refine lex.nil ?_
    refine hK48 _ _ ?_
    replace hC := hC.nil 3 (.int .i64)
    obtain ⟨o50, hl1, hb⟩ := bd hb
    refine Wc.cut (fun E wv => ∃ (ms_1 : List Nat) (v28_1 : Int) (kf46_0_1 : List Int) (Akf46_0_1 : Option Addr) (mkf46_0_1 ckf46_0_1 : Nat), E 4 = .slice none 0 0 ∧ E 5 = .int .i64 0 ∧ E 8 = .pointer (some ⟨g44, 0, none⟩) ∧ I64 v28_1 ∧ E.ms = ms_1 ∧ Cx (fun _ => False) O0 w wv ([.box g44 82 [.slice Akf46_0_1 mkf46_0_1 ckf46_0_1], .own 3 (.int .i64) (.slice Akf46_0_1 mkf46_0_1 ckf46_0_1) kf46_0_1] ++ marksF ms_1) ∧ (some (kf46_0_1, 0) : Option ((List Int) × Int)) = some r) (fun K51 hK51 => ?_) ?_
    · refine Wc.block ?_
      replace hC : Cx (fun _ => False) O0 w w45 ([.own 3 (.int .i64) (.slice none 0 0) ([] : List Int), .box g44 82 [.slice none 0 0], .ro (.sl (.int .i64)) [.slice Awx_0 wx_0.length cwx_0] wx_0, .ro (.sl (.sl (.int .i64))) [.slice Aimages_1 images_1.length cimages_1] images_1] ++ marksF ms_0) := hC
      refine Wc.loop (fun m E wv => ∃ (ms_1 : List Nat) (v28_1 : Int) (kf46_0_1 : List Int) (Akf46_0_1 : Option Addr) (mkf46_0_1 ckf46_0_1 : Nat), E 1 = .slice Aimages_1 images_1.length cimages_1 ∧ E 4 = .slice none 0 0 ∧ E 5 = .int .i64 0 ∧ E 8 = .pointer (some ⟨g44, 0, none⟩) ∧ E 26 = .slice Awx_0 wx_0.length cwx_0 ∧ E 27 = .int .i64 (wx_0.length : Int) ∧ E 28 = .int .i64 v28_1 ∧ I64 v28_1 ∧ E.ms = ms_1 ∧ Cx (fun _ => False) O0 w wv ([.ro (.sl (.sl (.int .i64))) [.slice Aimages_1 images_1.length cimages_1] images_1, .box g44 82 [.slice Akf46_0_1 mkf46_0_1 ckf46_0_1], .own 3 (.int .i64) (.slice Akf46_0_1 mkf46_0_1 ckf46_0_1) kf46_0_1, .ro (.sl (.int .i64)) [.slice Awx_0 wx_0.length cwx_0] wx_0] ++ marksF ms_1) ∧ loopN m (F.word_Substitute_b1 n wx_0 images_1) (v28_1, kf46_0_1) = some o50) n ⟨ms_0, 0, ([] : List Int), none, 0, 0, e1, e4, e5, rfl, rfl, rfl, rfl, (show I64 0 from by unfold I64; omega), hms, hC.selT [3, 1, 0, 2] (by decide), hl1⟩ ?_
      have hbK1 := hb
      clear hb hC hl1
      rintro m53 E55 w54 ⟨ms_1, v28_1, kf46_0_1, Akf46_0_1, mkf46_0_1, ckf46_0_1, e1, e4, e5, e8, e26, e27, e28, hrv28_1, hms, hC, hl1⟩ K52 hK52
      obtain ⟨m53', o56, rfl, hb, hl1⟩ := loopN_some hl1
      unfold F.word_Substitute_b1 at hb
      obtain ⟨rfl, hlkf46_0_1, hckf46_0_1⟩ := (hC.ow (i := 2) rfl).sl_len
      refine Wc.seq fun K57 hK57 => ?_
      refine Wc.region (by decide +kernel) ?_
      replace hC : Cx (fun _ => False) O0 w w54 ([.ro (.sl (.sl (.int .i64))) [.slice Aimages_1 images_1.length cimages_1] images_1, .box g44 82 [.slice Akf46_0_1 kf46_0_1.length ckf46_0_1], .own 3 (.int .i64) (.slice Akf46_0_1 kf46_0_1.length ckf46_0_1) kf46_0_1, .ro (.sl (.int .i64)) [.slice Awx_0 wx_0.length cwx_0] wx_0] ++ marksF ms_1) := hC
      refine lex.pure (v := .bool (decide (v28_1 < (wx_0.length : Int)))) (pu_lss (k := .i64) (a := v28_1) (b := (wx_0.length : Int)) e28 e27) ?_
      refine lex.nil ?_
      refine hK57 _ _ ?_
      refine Wc.seq fun K58 hK58 => ?_
      refine Wc.cond (t := (decide (v28_1 < (wx_0.length : Int)))) (rfl) (fun hq59 => ?_) (fun hq59 => ?_)
      · replace hb := (cT hq59).symm.trans hb
        refine Wc.skip ?_
        refine hK58 _ _ ?_
        refine Wc.seq fun K60 hK60 => ?_
        refine Wc.block ?_
        refine Wc.seq fun K61 hK61 => ?_
        refine Wc.region (by decide +kernel) ?_
        obtain ⟨x62, h63, hb⟩ := bd hb
        obtain ⟨ad64, cs65, hA, hc66, hr67⟩ := hC.elr (i := 3) rfl (get_some h63).2
        subst hA
        refine lex.pure (v := .pointer (some (ad64.add (v28_1.toNat * 1)))) (pu_index (a := v28_1) Try.underlying82 Try.sizeOf3 e26 e28 (get_some h63).1) ?_
        replace hC : Cx (fun _ => False) O0 w w54 ([.ro (.sl (.sl (.int .i64))) [.slice Aimages_1 images_1.length cimages_1] images_1, .box g44 82 [.slice Akf46_0_1 kf46_0_1.length ckf46_0_1], .own 3 (.int .i64) (.slice Akf46_0_1 kf46_0_1.length ckf46_0_1) kf46_0_1, .ro (.sl (.int .i64)) [.slice (some ad64) wx_0.length cwx_0] wx_0] ++ marksF ms_1) := hC
        obtain ⟨rfl, hr67'⟩ := hr67
        refine lex.val (v := .int .i64 x62) (ld_one Try.isAgg3 rfl (hc66 0 _ rfl)) ?_
        refine lex.pure (v := .int .i64 x62) (pu_assign rfl) ?_
        refine lex.nil ?_
        refine hK61 _ _ ?_
        refine Wc.seq fun K68 hK68 => ?_
        refine Wc.seq fun K69 hK69 => ?_
        refine Wc.region (by decide +kernel) ?_
        refine lex.pure (v := .int .i64 x62) (pu_move rfl) ?_
        refine lex.pure (v := .bool (decide (0 < x62))) (pu_gtr (k := .i64) (a := x62) (b := 0) rfl rfl) ?_
        refine lex.nil ?_
        refine hK69 _ _ ?_
        refine Wc.cond (t := (decide (0 < x62))) (rfl) (fun hq70 => ?_) (fun hq70 => ?_)
        · replace hb := (cT hq70).symm.trans hb
          refine Wc.seq fun K71 hK71 => ?_
          refine Wc.regionMix [39] (frm [39] [.own 3 (.int .i64) (.slice Akf46_0_1 kf46_0_1.length ckf46_0_1) kf46_0_1] [.box g44 82 [.slice Akf46_0_1 kf46_0_1.length ckf46_0_1]]) (fun _ => rfl) mixed (by decide +kernel) (by decide +kernel) fun w73 hw72 => ?_
          replace hC := hC.step (Fr.of_drew hw72)
          have hM := Fr.refl (fun k => k ∈ blocks [.own 3 (.int .i64) (.slice Akf46_0_1 kf46_0_1.length ckf46_0_1) kf46_0_1]) w73
          clear hw72
          have hS := hC
          have hBFf46_0_1 : Beside [.own 3 (.int .i64) (.slice Akf46_0_1 kf46_0_1.length ckf46_0_1) kf46_0_1] w73 (.slice Akf46_0_1 kf46_0_1.length ckf46_0_1) := Beside.of (i := 0) rfl
          have hD : Fr (fun k => k ∈ blocks ([.own 3 (.int .i64) (.slice Akf46_0_1 kf46_0_1.length ckf46_0_1) kf46_0_1] ++ [.box g44 82 [.slice Akf46_0_1 kf46_0_1.length ckf46_0_1]])) w73 w73 := hM.wide
          have hUFf46_0_1 : Beside ([.own 3 (.int .i64) (.slice Akf46_0_1 kf46_0_1.length ckf46_0_1) kf46_0_1] ++ [.box g44 82 [.slice Akf46_0_1 kf46_0_1.length ckf46_0_1]]) w73 (.slice Akf46_0_1 kf46_0_1.length ckf46_0_1) := Beside.of (i := 0) rfl
          have hUf46 : g44 < w73.heap.size → g44 ∈ blocks ([.own 3 (.int .i64) (.slice Akf46_0_1 kf46_0_1.length ckf46_0_1) kf46_0_1] ++ [.box g44 82 [.slice Akf46_0_1 kf46_0_1.length ckf46_0_1]]) := fun _ => box_in (i := 1) rfl
          replace hC : Cx (fun _ => False) O0 w w73 ([.ro (.sl (.sl (.int .i64))) [.slice Aimages_1 images_1.length cimages_1] images_1, .box g44 82 [.slice Akf46_0_1 kf46_0_1.length ckf46_0_1], .own 3 (.int .i64) (.slice Akf46_0_1 kf46_0_1.length ckf46_0_1) kf46_0_1, .ro (.sl (.int .i64)) [.slice (some ad64) wx_0.length cwx_0] wx_0] ++ marksF ms_1) := hC
          refine mixE.load hM (v := .slice Akf46_0_1 kf46_0_1.length ckf46_0_1) (fun _ hF => ld_one Try.isAgg82 e8 ((hS.bx2 (i := 1) rfl [2] (by decide) hF).cell (j := 0) rfl)) ?_
          refine mixE.pure (v := .slice Aimages_1 images_1.length cimages_1) (pu_move e1) ?_
          refine mixE.pure (v := .int .i64 x62) (pu_move rfl) ?_
          obtain ⟨z74, h75, hb⟩ := bd hb
          refine mixE.pure (v := .int .i64 z74) (pu_subc (a := x62) (b := 1) rfl rfl h75) ?_
          obtain ⟨x76, h77, hb⟩ := bd hb
          obtain ⟨ad78, cs79, hA, ho82, hc80, hr81⟩ := hS.elr2 (i := 0) rfl (get_some h77).2 [2, 1]
          subst hA
          refine mixE.pure (v := .pointer (some (ad78.add (z74.toNat * 1)))) (pu_index (a := z74) Try.underlying79 Try.sizeOf82 rfl rfl (get_some h77).1) ?_
          replace hC : Cx (fun _ => False) O0 w w73 ([.ro (.sl (.sl (.int .i64))) [.slice (some ad78) images_1.length cimages_1] images_1, .box g44 82 [.slice Akf46_0_1 kf46_0_1.length ckf46_0_1], .own 3 (.int .i64) (.slice Akf46_0_1 kf46_0_1.length ckf46_0_1) kf46_0_1, .ro (.sl (.int .i64)) [.slice (some ad64) wx_0.length cwx_0] wx_0] ++ marksF ms_1) := hC
          have hR := hr81
          obtain ⟨A83, c84, rfl, hl85, hc86, _⟩ := hr81
          replace hS := hS.ro hR
          replace hC := hC.ro hR
          clear hR
          refine mixE.steady hD (v := .slice A83 x76.length c84) (fun _ hF => ld_one Try.isAgg82 rfl (hF.cell (hc80 0 _ rfl) (off1 ho82))) ?_
          replace hC : Cx (fun _ => False) O0 w w73 ([.ro (.sl (.int .i64)) [.slice A83 x76.length c84] x76, .ro (.sl (.sl (.int .i64))) [.slice (some ad78) images_1.length cimages_1] images_1, .box g44 82 [.slice Akf46_0_1 kf46_0_1.length ckf46_0_1], .own 3 (.int .i64) (.slice Akf46_0_1 kf46_0_1.length ckf46_0_1) kf46_0_1, .ro (.sl (.int .i64)) [.slice (some ad64) wx_0.length cwx_0] wx_0] ++ marksF ms_1) := hC
          replace hC := hC.selT [3, 0, 1, 2, 4] (by decide)
          replace hC : Cx (fun _ => False) O0 w w73 ([.own 3 (.int .i64) (.slice Akf46_0_1 kf46_0_1.length ckf46_0_1) kf46_0_1] ++ ([.ro (.sl (.int .i64)) [.slice A83 x76.length c84] x76, .ro (.sl (.sl (.int .i64))) [.slice (some ad78) images_1.length cimages_1] images_1, .box g44 82 [.slice Akf46_0_1 kf46_0_1.length ckf46_0_1], .ro (.sl (.int .i64)) [.slice (some ad64) wx_0.length cwx_0] wx_0] ++ marksF ms_1)) := hC
          obtain ⟨y88, h89, hb⟩ := bd hb
          refine mixE.cl hM (⟨_, _, op_call (vs := [.slice Akf46_0_1 kf46_0_1.length ckf46_0_1, .slice A83 x76.length c84]) Try.call93 rfl rfl rfl, word_push_ok n hC.lt (hC.rd (i := 1) rfl) hC.give h89⟩) ?_
          rintro _ w94 ⟨A90, m91, c92, rfl, hK⟩
          have hL95 : ∀ f ∈ ([.own 3 (.int .i64) (.slice Akf46_0_1 kf46_0_1.length ckf46_0_1) kf46_0_1] : List Fact), ∀ g, g < w73.heap.size → f.blk = some g → g ∈ blocks [.own 3 (.int .i64) (.slice Akf46_0_1 kf46_0_1.length ckf46_0_1) kf46_0_1] := List.forall_mem_cons.2 ⟨hBFf46_0_1, fun _ h => absurd h List.not_mem_nil⟩
          have hBf93 := Beside.io (i := 0) hM hL95 hK rfl
          have hUf93 := hBf93.wide (H := [.box g44 82 [.slice Akf46_0_1 kf46_0_1.length ckf46_0_1]])
          replace hM := hM.besideL hL95 hK.fr
          replace hD := hM.wide (H := [.box g44 82 [.slice Akf46_0_1 kf46_0_1.length ckf46_0_1]])
          refine ⟨hM, ?_⟩
          replace hC := hC.back hK
          clear hK
          obtain ⟨rfl, hl96, hc97⟩ := (hC.ow (i := 0) rfl).sl_len
          replace hC : Cx (fun _ => False) O0 w w94 ([.own 3 (.int .i64) (.slice A90 y88.length c92) y88, .ro (.sl (.int .i64)) [.slice A83 x76.length c84] x76, .ro (.sl (.sl (.int .i64))) [.slice (some ad78) images_1.length cimages_1] images_1, .box g44 82 [.slice Akf46_0_1 kf46_0_1.length ckf46_0_1], .ro (.sl (.int .i64)) [.slice (some ad64) wx_0.length cwx_0] wx_0] ++ marksF ms_1) := hC
          refine mixE.sk hD (hC.setf (i := 3) (k := 0) (v := .slice A90 y88.length c92) rfl Try.sizeOf82 rfl (by rw [Addr.add_zero']; exact e8) rfl rfl) ?_
          rintro w98 ⟨hC, hF⟩
          replace hD := hD.besideG hUf46 hF
          clear hF
          refine ⟨hD, ?_⟩
          refine mixE.nil ?_
          clear hS hM
          clear hD
          refine hK71 _ _ ?_
          refine Wc.exit rfl ?_
          refine hK60 _ _ ?_
          refine Wc.region (by decide +kernel) ?_
          replace hC : Cx (fun _ => False) O0 w w98 ([.own 3 (.int .i64) (.slice A90 y88.length c92) y88, .ro (.sl (.int .i64)) [.slice A83 x76.length c84] x76, .ro (.sl (.sl (.int .i64))) [.slice (some ad78) images_1.length cimages_1] images_1, .box g44 82 [.slice A90 y88.length c92], .ro (.sl (.int .i64)) [.slice (some ad64) wx_0.length cwx_0] wx_0] ++ marksF ms_1) := hC
          obtain ⟨z99, h100, hb⟩ := bd hb
          refine lex.pure (v := .int .i64 z99) (pu_addc (a := v28_1) (b := 1) e28 rfl h100) ?_
          refine lex.pure (v := .int .i64 z99) (pu_move rfl) ?_
          refine lex.nil ?_
          obtain rfl := Option.some.inj hb
          exact hK52 m53' _ _ (Nat.lt_succ_self _) ⟨ms_1, z99, y88, A90, y88.length, c92, e1, e4, e5, e8, e26, e27, rfl, (chk_rng h100), hms, hC.selT [2, 3, 0, 4] (by decide), lN hl1⟩
        · replace hb := (cF hq70).symm.trans hb
          refine Wc.skip ?_
          refine hK68 _ _ ?_
          refine Wc.seq fun K101 hK101 => ?_
          refine Wc.region (by decide +kernel) ?_
          refine lex.pure (v := .slice Aimages_1 images_1.length cimages_1) (pu_move e1) ?_
          refine lex.pure (v := .int .i64 x62) (pu_move rfl) ?_
          obtain ⟨z102, h103, hb⟩ := bd hb
          refine lex.pure (v := .int .i64 z102) (pu_negc (a := x62) rfl h103) ?_
          obtain ⟨z104, h105, hb⟩ := bd hb
          refine lex.pure (v := .int .i64 z104) (pu_subc (a := z102) (b := 1) rfl rfl h105) ?_
          obtain ⟨x106, h107, hb⟩ := bd hb
          obtain ⟨ad108, cs109, hA, hc110, hr111⟩ := hC.elr (i := 0) rfl (get_some h107).2
          subst hA
          refine lex.pure (v := .pointer (some (ad108.add (z104.toNat * 1)))) (pu_index (a := z104) Try.underlying79 Try.sizeOf82 rfl rfl (get_some h107).1) ?_
          replace hC : Cx (fun _ => False) O0 w w54 ([.ro (.sl (.sl (.int .i64))) [.slice (some ad108) images_1.length cimages_1] images_1, .box g44 82 [.slice Akf46_0_1 kf46_0_1.length ckf46_0_1], .own 3 (.int .i64) (.slice Akf46_0_1 kf46_0_1.length ckf46_0_1) kf46_0_1, .ro (.sl (.int .i64)) [.slice (some ad64) wx_0.length cwx_0] wx_0] ++ marksF ms_1) := hC
          have hR := hr111
          obtain ⟨A112, c113, rfl, hl114, hc115, _⟩ := hr111
          replace hC := hC.ro hR
          clear hR
          refine lex.val (v := .slice A112 x106.length c113) (ld_one Try.isAgg82 rfl (hc110 0 _ rfl)) ?_
          replace hC : Cx (fun _ => False) O0 w w54 ([.ro (.sl (.int .i64)) [.slice A112 x106.length c113] x106, .ro (.sl (.sl (.int .i64))) [.slice (some ad108) images_1.length cimages_1] images_1, .box g44 82 [.slice Akf46_0_1 kf46_0_1.length ckf46_0_1], .own 3 (.int .i64) (.slice Akf46_0_1 kf46_0_1.length ckf46_0_1) kf46_0_1, .ro (.sl (.int .i64)) [.slice (some ad64) wx_0.length cwx_0] wx_0] ++ marksF ms_1) := hC
          refine lex.cl (⟨_, _, op_call (vs := [.slice A112 x106.length c113]) Try.call94 rfl rfl rfl, slices_Backward_Word_int_ok (m := x106.length) hC.lt⟩) ?_
          rintro _ w119 ⟨g117, rfl, hK⟩
          replace hC := hC.merge hK
          clear hK
          refine lex.nil ?_
          refine hK101 _ _ ?_
          refine Wc.fresh fun E120 hE => ?_
          have e1 : E120 1 = .slice (some ad108) images_1.length cimages_1 := (congrFun hE 1).trans e1
          have e4 : E120 4 = .slice none 0 0 := (congrFun hE 4).trans e4
          have e5 : E120 5 = .int .i64 0 := (congrFun hE 5).trans e5
          have e8 : E120 8 = .pointer (some ⟨g44, 0, none⟩) := (congrFun hE 8).trans e8
          have e10 : E120 10 = .int .i64 x62 := (congrFun hE 10).trans rfl
          have e26 : E120 26 = .slice (some ad64) wx_0.length cwx_0 := (congrFun hE 26).trans e26
          have e27 : E120 27 = .int .i64 (wx_0.length : Int) := (congrFun hE 27).trans e27
          have e28 : E120 28 = .int .i64 v28_1 := (congrFun hE 28).trans e28
          have e29 : E120 29 = .bool (decide (v28_1 < (wx_0.length : Int))) := (congrFun hE 29).trans rfl
          have e33 : E120 33 = .bool (decide (0 < x62)) := (congrFun hE 33).trans rfl
          have e47 : E120 47 = .func (.func 104) #[] #[.pointer (some ⟨g117, 0, none⟩)] := (congrFun hE 47).trans rfl
          clear hE
          replace hC : Cx (fun _ => False) O0 w w119 ([.box g117 82 [.slice A112 x106.length c113], .ro (.sl (.int .i64)) [.slice A112 x106.length c113] x106, .ro (.sl (.sl (.int .i64))) [.slice (some ad108) images_1.length cimages_1] images_1, .box g44 82 [.slice Akf46_0_1 kf46_0_1.length ckf46_0_1], .own 3 (.int .i64) (.slice Akf46_0_1 kf46_0_1.length ckf46_0_1) kf46_0_1, .ro (.sl (.int .i64)) [.slice (some ad64) wx_0.length cwx_0] wx_0] ++ marksF ms_1) := hC
          obtain ⟨o121, hl2, hb⟩ := bd hb
          refine Wc.cut (fun E wv => ∃ (ms_2 : List Nat) (kf46_0_2 : List Int) (Akf46_0_2 : Option Addr) (mkf46_0_2 ckf46_0_2 : Nat), E 1 = .slice (some ad108) images_1.length cimages_1 ∧ E 4 = .slice none 0 0 ∧ E 5 = .int .i64 0 ∧ E 8 = .pointer (some ⟨g44, 0, none⟩) ∧ E 10 = .int .i64 x62 ∧ E 26 = .slice (some ad64) wx_0.length cwx_0 ∧ E 27 = .int .i64 (wx_0.length : Int) ∧ E 28 = .int .i64 v28_1 ∧ E 29 = .bool (decide (v28_1 < (wx_0.length : Int))) ∧ E 33 = .bool (decide (0 < x62)) ∧ E 47 = .func (.func 104) #[] #[.pointer (some ⟨g117, 0, none⟩)] ∧ E.ms = ms_2 ∧ Cx (fun _ => False) O0 w wv ([.ro (.sl (.sl (.int .i64))) [.slice (some ad108) images_1.length cimages_1] images_1, .box g44 82 [.slice Akf46_0_2 mkf46_0_2 ckf46_0_2], .own 3 (.int .i64) (.slice Akf46_0_2 mkf46_0_2 ckf46_0_2) kf46_0_2, .ro (.sl (.int .i64)) [.slice (some ad64) wx_0.length cwx_0] wx_0, .box g117 82 [.slice A112 x106.length c113], .ro (.sl (.int .i64)) [.slice A112 x106.length c113] x106] ++ marksF ms_2) ∧ ((chk (v28_1 + 1)).bind fun z153 => some (.inl (z153, kf46_0_2)) : Option ((Int × (List Int)) ⊕ ((Int × (List Int))))) = some o56) (fun K122 hK122 => ?_) ?_
          · refine Wc.block ?_
            replace hC := hC.selT [2, 3, 4, 5, 0, 1] (by decide)
            replace hC : Cx (fun _ => False) O0 w w119 ([.ro (.sl (.sl (.int .i64))) [.slice (some ad108) images_1.length cimages_1] images_1, .box g44 82 [.slice Akf46_0_1 kf46_0_1.length ckf46_0_1], .own 3 (.int .i64) (.slice Akf46_0_1 kf46_0_1.length ckf46_0_1) kf46_0_1, .ro (.sl (.int .i64)) [.slice (some ad64) wx_0.length cwx_0] wx_0, .box g117 82 [.slice A112 x106.length c113], .ro (.sl (.int .i64)) [.slice A112 x106.length c113] x106] ++ marksF ms_1) := hC
            refine Wc.range (fun kk L => ∃ (m : Nat) (kf46_0_2 : List Int) (Akf46_0_2 : Option Addr) (mkf46_0_2 ckf46_0_2 : Nat), L = ([.ro (.sl (.sl (.int .i64))) [.slice (some ad108) images_1.length cimages_1] images_1, .box g44 82 [.slice Akf46_0_2 mkf46_0_2 ckf46_0_2], .own 3 (.int .i64) (.slice Akf46_0_2 mkf46_0_2 ckf46_0_2) kf46_0_2, .ro (.sl (.int .i64)) [.slice (some ad64) wx_0.length cwx_0] wx_0, .box g117 82 [.slice A112 x106.length c113], .ro (.sl (.int .i64)) [.slice A112 x106.length c113] x106] ++ marksF ms_1) ∧ loopN m (F.word_Substitute_b2 n x106) (kk, kf46_0_2) = some o121) (fun _ => False) ([] : List Nat) (fun id L => ∃ (kf46_0_2 : List Int) (Akf46_0_2 : Option Addr) (mkf46_0_2 ckf46_0_2 : Nat), L = ([.ro (.sl (.sl (.int .i64))) [.slice (some ad108) images_1.length cimages_1] images_1, .box g44 82 [.slice Akf46_0_2 mkf46_0_2 ckf46_0_2], .own 3 (.int .i64) (.slice Akf46_0_2 mkf46_0_2 ckf46_0_2) kf46_0_2, .ro (.sl (.int .i64)) [.slice (some ad64) wx_0.length cwx_0] wx_0, .box g117 82 [.slice A112 x106.length c113], .ro (.sl (.int .i64)) [.slice A112 x106.length c113] x106] ++ marksF ms_1) ∧ o121 = kf46_0_2) e47 Try.call104 (slices_Backward_Word_int_it (A := A112) (c := c113) (xs := x106)) (fun _ => rfl) (by simp) (fun kk => [(48, .int .i64 ((x106.length : Int) - 1 - (kk : Int))), (49, .int .i64 (x106.getD (x106.length - 1 - kk) 0))]) (fun kk => by simp) hC ⟨n, kf46_0_1, Akf46_0_1, kf46_0_1.length, ckf46_0_1, rfl, hl2⟩ ?_ _ (fun l kk W => Wc.region (by decide +kernel) (lex.pure (v := .int .i64 (x106.getD (x106.length - 1 - kk) 0)) (pu_assign rfl) (lex.nil ⟨rfl, rfl⟩))) ?_ ?_ ?_ ?_
            · rintro k L W f1 f2 ⟨m, kf46_0_2, Akf46_0_2, mkf46_0_2, ckf46_0_2, rfl, hl2⟩ hC
              exact rdBackR hC (i := 6) (j := 7) rfl rfl
            · have hbK2 := hb
              clear hb hC hl2
              rintro k_2 l127 D128 oB129 oK130 L w124 hk ⟨m123, kf46_0_2, Akf46_0_2, mkf46_0_2, ckf46_0_2, rfl, hl2⟩ hC Kn Kr Kx hKn hKr hKx
              obtain ⟨m123', o126, rfl, hb, hl2⟩ := loopN_some hl2
              unfold F.word_Substitute_b2 at hb
              replace hb := (cT (decide_eq_true hk)).symm.trans hb
              obtain ⟨x_2, hxx, hb⟩ := bd hb
              have hx_2 : I64 x_2 := by obtain ⟨_, _, _, _, hr⟩ := hC.elr (i := 7) rfl (rev_i hxx); exact i64w hr.2
              refine Wc.fresh fun E125 hE => ?_
              have e1 : E125 1 = .slice (some ad108) images_1.length cimages_1 := (congrFun hE 1).trans e1
              have e4 : E125 4 = .slice none 0 0 := (congrFun hE 4).trans e4
              have e5 : E125 5 = .int .i64 0 := (congrFun hE 5).trans e5
              have e8 : E125 8 = .pointer (some ⟨g44, 0, none⟩) := (congrFun hE 8).trans e8
              have e10 : E125 10 = .int .i64 x62 := (congrFun hE 10).trans e10
              have e26 : E125 26 = .slice (some ad64) wx_0.length cwx_0 := (congrFun hE 26).trans e26
              have e27 : E125 27 = .int .i64 (wx_0.length : Int) := (congrFun hE 27).trans e27
              have e28 : E125 28 = .int .i64 v28_1 := (congrFun hE 28).trans e28
              have e29 : E125 29 = .bool (decide (v28_1 < (wx_0.length : Int))) := (congrFun hE 29).trans e29
              have e33 : E125 33 = .bool (decide (0 < x62)) := (congrFun hE 33).trans e33
              have e47 : E125 47 = .func (.func 104) #[] #[.pointer (some ⟨g117, 0, none⟩)] := (congrFun hE 47).trans e47
              have e49 : E125 49 = .int .i64 x_2 := (congrFun hE 49).trans (congrArg (Value.int .i64) (rev_x hxx))
              have e12 : E125 12 = .int .i64 x_2 := (congrFun hE 12).trans (congrArg (Value.int .i64) (rev_x hxx))
              clear hE
              obtain ⟨rfl, hlkf46_0_2, hckf46_0_2⟩ := (hC.ow (i := 4) rfl).sl_len
              refine Wc.block ?_
              refine Wc.region (by decide +kernel) ?_
              replace hC : Cx (fun _ => False) O0 w w124 ([.obj l127 oB129, .obj D128 oK130, .ro (.sl (.sl (.int .i64))) [.slice (some ad108) images_1.length cimages_1] images_1, .box g44 82 [.slice Akf46_0_2 kf46_0_2.length ckf46_0_2], .own 3 (.int .i64) (.slice Akf46_0_2 kf46_0_2.length ckf46_0_2) kf46_0_2, .ro (.sl (.int .i64)) [.slice (some ad64) wx_0.length cwx_0] wx_0, .box g117 82 [.slice A112 x106.length c113], .ro (.sl (.int .i64)) [.slice A112 x106.length c113] x106] ++ marksF ms_1) := hC
              refine lex.val (v := .slice Akf46_0_2 kf46_0_2.length ckf46_0_2) (ld_one Try.isAgg82 e8 ((hC.bx (i := 3) rfl).cell (j := 0) rfl)) ?_
              refine lex.pure (v := .int .i64 x_2) (pu_move e12) ?_
              obtain ⟨z133, h134, hb⟩ := bd hb
              refine lex.pure (v := .int .i64 z133) (pu_negc (a := x_2) rfl h134) ?_
              refine lex.op (hC.lit (s := (.int .i64)) (vs := [.int .i64 z133]) (xs := [z133]) Try.underlying22 Try.type3 rfl rfl (Nat.le_of_ble_eq_true rfl) rfl rfl (by simp [Value.cells, Sh.n]) rfl (show Elems _ _ (.int .i64) ([.int .i64 z133] ++ ([])) ([z133] : List Int) from Elems.cons (⟨rfl, I64.wr (chk_rng h134)⟩) (Elems.nil _ _ _))) ?_
              rintro _ w139 ⟨A135, c136, rfl, hl137, hc138, hC, hF, hN⟩
              clear hF hN
              replace hC : Cx (fun _ => False) O0 w w139 ([.own 3 (.int .i64) (.slice A135 ((([z133] : List Int)).length) c136) ([z133] : List Int), .obj l127 oB129, .obj D128 oK130, .ro (.sl (.sl (.int .i64))) [.slice (some ad108) images_1.length cimages_1] images_1, .box g44 82 [.slice Akf46_0_2 kf46_0_2.length ckf46_0_2], .own 3 (.int .i64) (.slice Akf46_0_2 kf46_0_2.length ckf46_0_2) kf46_0_2, .ro (.sl (.int .i64)) [.slice (some ad64) wx_0.length cwx_0] wx_0, .box g117 82 [.slice A112 x106.length c113], .ro (.sl (.int .i64)) [.slice A112 x106.length c113] x106] ++ marksF ms_1) := hC
              replace hC := hC.selT [5, 0, 1, 2, 3, 4, 6, 7, 8] (by decide)
              replace hC : Cx (fun _ => False) O0 w w139 ([.own 3 (.int .i64) (.slice Akf46_0_2 kf46_0_2.length ckf46_0_2) kf46_0_2] ++ ([.own 3 (.int .i64) (.slice A135 ((([z133] : List Int)).length) c136) ([z133] : List Int), .obj l127 oB129, .obj D128 oK130, .ro (.sl (.sl (.int .i64))) [.slice (some ad108) images_1.length cimages_1] images_1, .box g44 82 [.slice Akf46_0_2 kf46_0_2.length ckf46_0_2], .ro (.sl (.int .i64)) [.slice (some ad64) wx_0.length cwx_0] wx_0, .box g117 82 [.slice A112 x106.length c113], .ro (.sl (.int .i64)) [.slice A112 x106.length c113] x106] ++ marksF ms_1)) := hC
              obtain ⟨y141, h142, hb⟩ := bd hb
              refine lex.cl (⟨_, _, op_call (vs := [.slice Akf46_0_2 kf46_0_2.length ckf46_0_2, .slice A135 ((([z133] : List Int)).length) c136]) Try.call93 rfl rfl rfl, word_push_ok n (hC.lentLt [.slice A135 ((([z133] : List Int)).length) c136]) ((hC.ow (i := 1) rfl).lend (vs := [.slice A135 ((([z133] : List Int)).length) c136]) (by simp)) (hC.give.lent [.slice A135 ((([z133] : List Int)).length) c136] (hC.apart (List.forall_mem_cons.2 ⟨blk_in (i := 0) rfl, fun _ h => absurd h List.not_mem_nil⟩))) h142⟩) ?_
              rintro _ w147 ⟨A143, m144, c145, rfl, hK⟩
              replace hC := hC.back (hK.flatTk rfl hC.lt)
              clear hK
              obtain ⟨rfl, hl148, hc149⟩ := (hC.ow (i := 0) rfl).sl_len
              replace hC : Cx (fun _ => False) O0 w w147 ([.own 3 (.int .i64) (.slice A143 y141.length c145) y141, .own 3 (.int .i64) (.slice A135 ((([z133] : List Int)).length) c136) ([z133] : List Int), .obj l127 oB129, .obj D128 oK130, .ro (.sl (.sl (.int .i64))) [.slice (some ad108) images_1.length cimages_1] images_1, .box g44 82 [.slice Akf46_0_2 kf46_0_2.length ckf46_0_2], .ro (.sl (.int .i64)) [.slice (some ad64) wx_0.length cwx_0] wx_0, .box g117 82 [.slice A112 x106.length c113], .ro (.sl (.int .i64)) [.slice A112 x106.length c113] x106] ++ marksF ms_1) := hC
              refine lex.sk (hC.setf (i := 5) (k := 0) (v := .slice A143 y141.length c145) rfl Try.sizeOf82 rfl (by rw [Addr.add_zero']; exact e8) rfl rfl) ?_
              rintro w150 ⟨hC, hF⟩
              refine lex.nil ?_
              obtain rfl := Option.some.inj hb
              replace hC : Cx (fun _ => False) O0 w w150 ([.own 3 (.int .i64) (.slice A143 y141.length c145) y141, .own 3 (.int .i64) (.slice A135 ((([z133] : List Int)).length) c136) ([z133] : List Int), .obj l127 oB129, .obj D128 oK130, .ro (.sl (.sl (.int .i64))) [.slice (some ad108) images_1.length cimages_1] images_1, .box g44 82 [.slice A143 y141.length c145], .ro (.sl (.int .i64)) [.slice (some ad64) wx_0.length cwx_0] wx_0, .box g117 82 [.slice A112 x106.length c113], .ro (.sl (.int .i64)) [.slice A112 x106.length c113] x106] ++ marksF ms_1) := hC
              exact hKn _ _ _ ⟨m123', y141, A143, y141.length, c145, rfl, lN hl2⟩ (hC.selT [2, 3, 4, 5, 0, 6, 7, 8] (by decide))
            · rintro D_2 L wv ⟨m, kf46_0_2, Akf46_0_2, mkf46_0_2, ckf46_0_2, rfl, hl2⟩ hC
              obtain ⟨m', o2, rfl, hb2, hl2⟩ := loopN_some hl2
              unfold F.word_Substitute_b2 at hb2
              replace hb2 := (cF (decide_eq_false (Nat.lt_irrefl _))).symm.trans hb2
              obtain rfl := Option.some.inj hb2
              obtain rfl := (lX hl2).symm
              replace hC := hC.markIn
              obtain ⟨rfl, hlkf46_0_2, hckf46_0_2⟩ := (hC.ow (i := 2) rfl).sl_len
              replace hC : Cx (fun _ => False) O0 w wv ([.ro (.sl (.sl (.int .i64))) [.slice (some ad108) images_1.length cimages_1] images_1, .box g44 82 [.slice Akf46_0_2 kf46_0_2.length ckf46_0_2], .own 3 (.int .i64) (.slice Akf46_0_2 kf46_0_2.length ckf46_0_2) kf46_0_2, .ro (.sl (.int .i64)) [.slice (some ad64) wx_0.length cwx_0] wx_0, .box g117 82 [.slice A112 x106.length c113], .ro (.sl (.int .i64)) [.slice A112 x106.length c113] x106] ++ marksF (D_2 :: ms_1)) := hC
              exact hK122 _ _ ⟨(D_2 :: ms_1), kf46_0_2, Akf46_0_2, kf46_0_2.length, ckf46_0_2, e1, e4, e5, e8, e10, e26, e27, e28, e29, e33, e47, (congrArg (List.cons _) hms), hC.selT [0, 1, 2, 3, 4, 5] (by decide), hb⟩
            · exact fun _ _ _ h => h.elim
            · exact fun _ _ _ _ h => absurd h List.not_mem_nil
          · clear hb hC hl2
            rintro E152 w151 ⟨ms_2, kf46_0_2, Akf46_0_2, mkf46_0_2, ckf46_0_2, e1, e4, e5, e8, e10, e26, e27, e28, e29, e33, e47, hms, hC, hb⟩
            obtain ⟨rfl, hlkf46_0_2, hckf46_0_2⟩ := (hC.ow (i := 2) rfl).sl_len
            refine hK60 _ _ ?_
            refine Wc.region (by decide +kernel) ?_
            replace hC : Cx (fun _ => False) O0 w w151 ([.ro (.sl (.sl (.int .i64))) [.slice (some ad108) images_1.length cimages_1] images_1, .box g44 82 [.slice Akf46_0_2 kf46_0_2.length ckf46_0_2], .own 3 (.int .i64) (.slice Akf46_0_2 kf46_0_2.length ckf46_0_2) kf46_0_2, .ro (.sl (.int .i64)) [.slice (some ad64) wx_0.length cwx_0] wx_0, .box g117 82 [.slice A112 x106.length c113], .ro (.sl (.int .i64)) [.slice A112 x106.length c113] x106] ++ marksF ms_2) := hC
            obtain ⟨z153, h154, hb⟩ := bd hb
            refine lex.pure (v := .int .i64 z153) (pu_addc (a := v28_1) (b := 1) e28 rfl h154) ?_
            refine lex.pure (v := .int .i64 z153) (pu_move rfl) ?_
            refine lex.nil ?_
            obtain rfl := Option.some.inj hb
            exact hK52 m53' _ _ (Nat.lt_succ_self _) ⟨ms_2, z153, kf46_0_2, Akf46_0_2, kf46_0_2.length, ckf46_0_2, e1, e4, e5, e8, e26, e27, rfl, (chk_rng h154), hms, hC.selT [0, 1, 2, 3] (by decide), lN hl1⟩
      · replace hb := (cF hq59).symm.trans hb
        refine Wc.exit rfl ?_
        obtain rfl := Option.some.inj hb
        obtain rfl := (lX hl1).symm
        exact hK51 _ _ ⟨ms_1, v28_1, kf46_0_1, Akf46_0_1, kf46_0_1.length, ckf46_0_1, e4, e5, e8, hrv28_1, hms, hC.selT [1, 2] (by decide), hbK1⟩
    · clear hb hC hl1
      rintro E156 w155 ⟨ms_1, v28_1, kf46_0_1, Akf46_0_1, mkf46_0_1, ckf46_0_1, e4, e5, e8, hrv28_1, hms, hC, hb⟩
      obtain ⟨rfl, hlkf46_0_1, hckf46_0_1⟩ := (hC.ow (i := 1) rfl).sl_len
      refine hK47 _ _ ?_
      refine Wc.seq fun K157 hK157 => ?_
      refine Wc.region (by decide +kernel) ?_
      replace hC : Cx (fun _ => False) O0 w w155 ([.box g44 82 [.slice Akf46_0_1 kf46_0_1.length ckf46_0_1], .own 3 (.int .i64) (.slice Akf46_0_1 kf46_0_1.length ckf46_0_1) kf46_0_1] ++ marksF ms_1) := hC
      refine lex.val (v := .slice Akf46_0_1 kf46_0_1.length ckf46_0_1) (ld_one Try.isAgg82 e8 ((hC.bx (i := 0) rfl).cell (j := 0) rfl)) ?_
      refine lex.pure (v := .slice Akf46_0_1 kf46_0_1.length ckf46_0_1) (pu_assign rfl) ?_
      refine lex.pure (v := .int .i64 0) (pu_assign rfl) ?_
      refine lex.nil ?_
      refine hK157 _ _ ?_
      obtain rfl := Option.some.inj hb
      refine Wc.ret ?_
      replace hC : Cx (fun _ => False) O0 w w155 (marksF ms_1 ++ [.box g44 82 [.slice Akf46_0_1 kf46_0_1.length ckf46_0_1], .own 3 (.int .i64) (.slice Akf46_0_1 kf46_0_1.length ckf46_0_1) kf46_0_1]) := hC.perm List.perm_append_comm
      refine hKR _ _ _ _ _ _ _ hms hC fun w158 hC => ?_
      refine ⟨_, res2 Try.results81 (show RV _ _ _ (.tmp _) (.slice Akf46_0_1 kf46_0_1.length ckf46_0_1) from rfl) (show RV _ _ _ (.tmp _) (.int .i64 0) from rfl), _, rfl, Akf46_0_1, kf46_0_1.length, ckf46_0_1, rfl, (show I64 0 from by unfold I64; omega), hC.sel [1] (by decide)⟩
end Go.Proofs.Ytkjpldmelafooaa
