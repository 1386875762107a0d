/- The walks: part 17. -/
import Derived.Test.YtkeaonceaaafcaaS
import Derived.Test.YtkeaonceaaafcaaG2
set_option linter.unusedVariables false
set_option linter.unusedSimpArgs false
namespace Go.Proofs.Ytkeaonceaaafcaa
open Ev
set_option maxRecDepth 100000 in
set_option maxHeartbeats 4000000 in
theorem law34_equal_c1_ok (n : Nat) {w : World} {O0 : List Nat} (hO : ∀ k ∈ O0, k < w.heap.size) {Ap_0 : Option Addr} {mp_0 cp_0 : Nat} {p_0 : List Int} (hp_0 : Rep O0 w (.sl (.int .i64)) [.slice Ap_0 mp_0 cp_0] p_0) {Aq_1 : Option Addr} {mq_1 cq_1 : Nat} {q_1 : List Int} (hq_1 : Rep O0 w (.sl (.int .i64)) [.slice Aq_1 mq_1 cq_1] q_1) {r : Bool} (hb : F.law34_equal_c1 n p_0 q_1 = some r) :
    Calls Try.prog 53 #[.slice Ap_0 mp_0 cp_0, .slice Aq_1 mq_1 cq_1] w fun e w' => ∃ v, e = .returned v ∧ v = .bool r ∧ Cx (fun _ => False) O0 w w' [] := by
  unfold F.law34_equal_c1 at hb
  have hC := Cx.start hO
  replace hC := hC.arg rfl hp_0
  replace hC := hC.arg rfl hq_1
  clear hO
  obtain ⟨rfl, hlp_0, hcp_0⟩ := hp_0.sl_len
  obtain ⟨rfl, hlq_1, hcq_1⟩ := hq_1.sl_len
  refine calls_of_Wc Try.func53 rfl (by rw [Try.ntmps53]; exact Nat.le_of_ble_eq_true rfl) fun KR hKR => ?_
  refine Wc.seq fun K3 hK3 => ?_
  refine Wc.region (by decide +kernel) ?_
  refine lex.pure (v := .bool false) (pu_assign rfl) ?_
  refine lex.nil ?_
  refine hK3 _ _ ?_
  refine Wc.seq fun K4 hK4 => ?_
  refine Wc.region (by decide +kernel) ?_
  refine lex.pure (v := .slice Ap_0 p_0.length cp_0) (pu_move rfl) ?_
  refine lex.pure (v := .slice Aq_1 q_1.length cq_1) (pu_move rfl) ?_
  obtain ⟨y5, h6, hb⟩ := bd hb
  refine lex.cl (⟨_, _, op_call (vs := [.slice Ap_0 p_0.length cp_0, .slice Aq_1 q_1.length cq_1]) Try.call28 rfl rfl rfl, slices_Equal_Perm_int_ok n hC.lt (hC.rd (i := 1) rfl) (hC.rd (i := 0) rfl) h6⟩) ?_
  rintro _ w7 ⟨rfl, hK⟩
  replace hC := hC.merge hK
  clear hK
  refine lex.pure (v := .bool y5) (pu_assign rfl) ?_
  refine lex.nil ?_
  refine hK4 _ _ ?_
  obtain rfl := Option.some.inj hb
  refine Wc.ret ?_
  refine hKR _ _ ?_
  refine ⟨_, res1 Try.results53 (show RV _ _ _ (.tmp _) (.bool y5) from rfl), _, rfl, rfl, hC.sel [] (by decide)⟩

set_option maxRecDepth 100000 in
set_option maxHeartbeats 4000000 in
theorem slices_EqualFunc_Perm_Perm_Perm_Perm_law34_equal_c1_ok (n : Nat) {w : World} {O0 : List Nat} (hO : ∀ k ∈ O0, k < w.heap.size) {As1_0 : Option Addr} {ms1_0 cs1_0 : Nat} {s1_0 : List (List Int)} (hs1_0 : Rep O0 w (.sl (.sl (.int .i64))) [.slice As1_0 ms1_0 cs1_0] s1_0) {As2_1 : Option Addr} {ms2_1 cs2_1 : Nat} {s2_1 : List (List Int)} (hs2_1 : Rep O0 w (.sl (.sl (.int .i64))) [.slice As2_1 ms2_1 cs2_1] s2_1) {r : Bool} (hb : F.slices_EqualFunc_Perm_Perm_Perm_Perm_law34_equal_c1 n s1_0 s2_1 = some r) :
    Calls Try.prog 50 #[.slice As1_0 ms1_0 cs1_0, .slice As2_1 ms2_1 cs2_1, .func (.func 53) #[] #[]] w fun e w' => ∃ v, e = .returned v ∧ v = .bool r ∧ Cx (fun _ => False) O0 w w' [] := by
  unfold F.slices_EqualFunc_Perm_Perm_Perm_Perm_law34_equal_c1 at hb
  have hC := Cx.start hO
  replace hC := hC.arg rfl hs1_0
  replace hC := hC.arg rfl hs2_1
  clear hO
  obtain ⟨rfl, hls1_0, hcs1_0⟩ := hs1_0.sl_len
  obtain ⟨rfl, hls2_1, hcs2_1⟩ := hs2_1.sl_len
  refine calls_of_Wc Try.func50 rfl (by rw [Try.ntmps50]; exact Nat.le_of_ble_eq_true rfl) fun KR hKR => ?_
  refine Wc.seq fun K3 hK3 => ?_
  refine Wc.region (by decide +kernel) ?_
  refine lex.pure (v := .bool false) (pu_assign rfl) ?_
  refine lex.nil ?_
  refine hK3 _ _ ?_
  refine Wc.seq fun K4 hK4 => ?_
  refine Wc.seq fun K5 hK5 => ?_
  refine Wc.region (by decide +kernel) ?_
  refine lex.pure (v := .slice As1_0 s1_0.length cs1_0) (pu_move rfl) ?_
  refine lex.pure (v := .int .i64 (s1_0.length : Int)) (pu_len (A := As1_0) (n := s1_0.length) (m := cs1_0) Try.underlying26 rfl) ?_
  refine lex.pure (v := .slice As2_1 s2_1.length cs2_1) (pu_move rfl) ?_
  refine lex.pure (v := .int .i64 (s2_1.length : Int)) (pu_len (A := As2_1) (n := s2_1.length) (m := cs2_1) Try.underlying26 rfl) ?_
  refine lex.pure (v := .bool (!(decide ((s1_0.length : Int) = (s2_1.length : Int))))) (pu_neq (k := .i64) (a := (s1_0.length : Int)) (b := (s2_1.length : Int)) rfl rfl) ?_
  refine lex.nil ?_
  refine hK5 _ _ ?_
  refine Wc.cond (t := (!(decide ((s1_0.length : Int) = (s2_1.length : Int))))) (rfl) (fun hq6 => ?_) (fun hq6 => ?_)
  · replace hb := (cT hq6).symm.trans hb
    refine Wc.seq fun K7 hK7 => ?_
    refine Wc.region (by decide +kernel) ?_
    refine lex.pure (v := .bool false) (pu_assign rfl) ?_
    refine lex.nil ?_
    refine hK7 _ _ ?_
    obtain rfl := Option.some.inj hb
    refine Wc.ret ?_
    refine hKR _ _ ?_
    refine ⟨_, res1 Try.results50 (show RV _ _ _ (.tmp _) (.bool false) from rfl), _, rfl, rfl, hC.sel [] (by decide)⟩
  · replace hb := (cF hq6).symm.trans hb
    refine Wc.skip ?_
    refine hK4 _ _ ?_
    refine Wc.seq fun K8 hK8 => ?_
    refine Wc.seq fun K9 hK9 => ?_
    refine Wc.region (by decide +kernel) ?_
    refine lex.pure (v := .slice As1_0 s1_0.length cs1_0) (pu_move rfl) ?_
    refine lex.pure (v := .int .i64 (s1_0.length : Int)) (pu_len (A := As1_0) (n := s1_0.length) (m := cs1_0) Try.underlying26 rfl) ?_
    refine lex.pure (v := .int .i64 0) (pu_move rfl) ?_
    refine lex.nil ?_
    refine hK9 _ _ ?_
    obtain ⟨o10, hl0, hb⟩ := bd hb
    refine Wc.cut (fun E wv => ∃ (v17_0 : Int), E 6 = .bool false ∧ I64 v17_0 ∧ Cx (fun _ => False) O0 w wv [] ∧ (some true : Option (Bool)) = some r) (fun K11 hK11 => ?_) ?_
    · refine Wc.block ?_
      refine Wc.loop (fun m E wv => ∃ (v17_0 : Int), E 1 = .slice As2_1 s2_1.length cs2_1 ∧ E 2 = .func (.func 53) #[] #[] ∧ E 6 = .bool false ∧ E 15 = .slice As1_0 s1_0.length cs1_0 ∧ E 16 = .int .i64 (s1_0.length : Int) ∧ E 17 = .int .i64 v17_0 ∧ I64 v17_0 ∧ Cx (fun _ => False) O0 w wv [.ro (.sl (.sl (.int .i64))) [.slice As2_1 s2_1.length cs2_1] s2_1, .ro (.sl (.sl (.int .i64))) [.slice As1_0 s1_0.length cs1_0] s1_0] ∧ loopN m (F.slices_EqualFunc_Perm_Perm_Perm_Perm_law34_equal_c1_b0 n s1_0 s2_1) v17_0 = some o10) n ⟨0, rfl, rfl, rfl, rfl, rfl, rfl, (show I64 0 from by unfold I64; omega), hC.sel [0, 1] (by decide), hl0⟩ ?_
      have hbK0 := hb
      clear hb hC hl0
      rintro m13 E15 w14 ⟨v17_0, e1, e2, e6, e15, e16, e17, hrv17_0, hC, hl0⟩ K12 hK12
      obtain ⟨m13', o16, rfl, hb, hl0⟩ := loopN_some hl0
      unfold F.slices_EqualFunc_Perm_Perm_Perm_Perm_law34_equal_c1_b0 at hb
      refine Wc.seq fun K17 hK17 => ?_
      refine Wc.region (by decide +kernel) ?_
      refine lex.pure (v := .bool (decide (v17_0 < (s1_0.length : Int)))) (pu_lss (k := .i64) (a := v17_0) (b := (s1_0.length : Int)) e17 e16) ?_
      refine lex.nil ?_
      refine hK17 _ _ ?_
      refine Wc.seq fun K18 hK18 => ?_
      refine Wc.cond (t := (decide (v17_0 < (s1_0.length : Int)))) (rfl) (fun hq19 => ?_) (fun hq19 => ?_)
      · replace hb := (cT hq19).symm.trans hb
        refine Wc.skip ?_
        refine hK18 _ _ ?_
        refine Wc.seq fun K20 hK20 => ?_
        refine Wc.block ?_
        refine Wc.seq fun K21 hK21 => ?_
        refine Wc.region (by decide +kernel) ?_
        refine lex.pure (v := .int .i64 v17_0) (pu_move e17) ?_
        obtain ⟨x22, h23, hb⟩ := bd hb
        obtain ⟨ad24, cs25, hA, hc26, hr27⟩ := hC.elr (i := 1) rfl (get_some h23).2
        subst hA
        refine lex.pure (v := .pointer (some (ad24.add (v17_0.toNat * 1)))) (pu_index (a := v17_0) Try.underlying26 Try.sizeOf43 e15 e17 (get_some h23).1) ?_
        have hR := hr27
        obtain ⟨A28, c29, rfl, hl30, hc31, _⟩ := hr27
        replace hC := hC.ro hR
        clear hR
        refine lex.val (v := .slice A28 x22.length c29) (ld_one Try.isAgg43 rfl (hc26 0 _ rfl)) ?_
        refine lex.pure (v := .int .i64 v17_0) (pu_assign rfl) ?_
        refine lex.pure (v := .slice A28 x22.length c29) (pu_assign rfl) ?_
        refine lex.nil ?_
        refine hK21 _ _ ?_
        refine Wc.seq fun K33 hK33 => ?_
        refine Wc.region (by decide +kernel) ?_
        refine lex.pure (v := .slice As2_1 s2_1.length cs2_1) (pu_move e1) ?_
        refine lex.pure (v := .int .i64 v17_0) (pu_move rfl) ?_
        obtain ⟨x34, h35, hb⟩ := bd hb
        obtain ⟨ad36, cs37, hA, hc38, hr39⟩ := hC.elr (i := 1) rfl (get_some h35).2
        subst hA
        refine lex.pure (v := .pointer (some (ad36.add (v17_0.toNat * 1)))) (pu_index (a := v17_0) Try.underlying26 Try.sizeOf43 rfl rfl (get_some h35).1) ?_
        have hR := hr39
        obtain ⟨A40, c41, rfl, hl42, hc43, _⟩ := hr39
        replace hC := hC.ro hR
        clear hR
        refine lex.val (v := .slice A40 x34.length c41) (ld_one Try.isAgg43 rfl (hc38 0 _ rfl)) ?_
        refine lex.pure (v := .slice A40 x34.length c41) (pu_assign rfl) ?_
        refine lex.nil ?_
        refine hK33 _ _ ?_
        refine Wc.fresh fun E45 hE => ?_
        have e1 : E45 1 = .slice (some ad36) s2_1.length cs2_1 := (congrFun hE 1).trans e1
        have e2 : E45 2 = .func (.func 53) #[] #[] := (congrFun hE 2).trans e2
        have e6 : E45 6 = .bool false := (congrFun hE 6).trans e6
        have e7 : E45 7 = .int .i64 v17_0 := (congrFun hE 7).trans rfl
        have e8 : E45 8 = .slice A28 x22.length c29 := (congrFun hE 8).trans rfl
        have e9 : E45 9 = .slice A40 x34.length c41 := (congrFun hE 9).trans rfl
        have e15 : E45 15 = .slice (some ad24) s1_0.length cs1_0 := (congrFun hE 15).trans e15
        have e16 : E45 16 = .int .i64 (s1_0.length : Int) := (congrFun hE 16).trans e16
        have e17 : E45 17 = .int .i64 v17_0 := (congrFun hE 17).trans e17
        have e18 : E45 18 = .bool (decide (v17_0 < (s1_0.length : Int))) := (congrFun hE 18).trans rfl
        clear hE
        refine Wc.seq fun K46 hK46 => ?_
        refine Wc.region (by decide +kernel) ?_
        refine lex.pure (v := .func (.func 53) #[] #[]) (pu_move e2) ?_
        refine lex.pure (v := .slice A28 x22.length c29) (pu_move e8) ?_
        refine lex.pure (v := .slice A40 x34.length c41) (pu_move e9) ?_
        obtain ⟨y47, h48, hb⟩ := bd hb
        refine lex.cl (⟨_, _, op_callv (vs := [.slice A28 x22.length c29, .slice A40 x34.length c41]) (ca := #[]) Try.call53 rfl rfl rfl, law34_equal_c1_ok n hC.lt (hC.rd (i := 1) rfl) (hC.rd (i := 0) rfl) h48⟩) ?_
        rintro _ w49 ⟨rfl, hK⟩
        replace hC := hC.merge hK
        clear hK
        refine lex.pure (v := .bool (!y47)) (pu_not (q := y47) rfl) ?_
        refine lex.nil ?_
        refine hK46 _ _ ?_
        refine Wc.cond (t := (!y47)) (rfl) (fun hq50 => ?_) (fun hq50 => ?_)
        · replace hb := (cT hq50).symm.trans hb
          refine Wc.seq fun K51 hK51 => ?_
          refine Wc.region (by decide +kernel) ?_
          refine lex.pure (v := .bool false) (pu_assign rfl) ?_
          refine lex.nil ?_
          refine hK51 _ _ ?_
          obtain rfl := Option.some.inj hb
          obtain rfl := (lX hl0).symm
          replace hb := hbK0
          obtain rfl := Option.some.inj hb
          refine Wc.ret ?_
          refine hKR _ _ ?_
          refine ⟨_, res1 Try.results50 (show RV _ _ _ (.tmp _) (.bool false) from rfl), _, rfl, rfl, hC.sel [] (by decide)⟩
        · replace hb := (cF hq50).symm.trans hb
          refine Wc.skip ?_
          refine hK20 _ _ ?_
          refine Wc.region (by decide +kernel) ?_
          obtain ⟨z52, h53, hb⟩ := bd hb
          refine lex.pure (v := .int .i64 z52) (pu_addc (a := v17_0) (b := 1) e17 rfl h53) ?_
          refine lex.pure (v := .int .i64 z52) (pu_move rfl) ?_
          refine lex.nil ?_
          obtain rfl := Option.some.inj hb
          exact hK12 m13' _ _ (Nat.lt_succ_self _) ⟨z52, e1, e2, e6, e15, e16, rfl, (chk_rng h53), hC.sel [2, 3] (by decide), lN hl0⟩
      · replace hb := (cF hq19).symm.trans hb
        refine Wc.exit rfl ?_
        obtain rfl := Option.some.inj hb
        obtain rfl := (lX hl0).symm
        exact hK11 _ _ ⟨v17_0, e6, hrv17_0, hC.sel [] (by decide), hbK0⟩
    · clear hb hC hl0
      rintro E55 w54 ⟨v17_0, e6, hrv17_0, hC, hb⟩
      refine hK8 _ _ ?_
      refine Wc.seq fun K56 hK56 => ?_
      refine Wc.region (by decide +kernel) ?_
      refine lex.pure (v := .bool true) (pu_assign rfl) ?_
      refine lex.nil ?_
      refine hK56 _ _ ?_
      obtain rfl := Option.some.inj hb
      refine Wc.ret ?_
      refine hKR _ _ ?_
      refine ⟨_, res1 Try.results50 (show RV _ _ _ (.tmp _) (.bool true) from rfl), _, rfl, rfl, hC.sel [] (by decide)⟩

set_option maxRecDepth 100000 in
set_option maxHeartbeats 4000000 in
theorem law34_equal_ok (n : Nat) {w : World} {O0 : List Nat} (hO : ∀ k ∈ O0, k < w.heap.size) {a_0_0 : Int} (ha_0_0 : I64 a_0_0) {a_0_1 : Int} (ha_0_1 : I64 a_0_1) {Aa_0_2 : Option Addr} {ma_0_2 ca_0_2 : Nat} {a_0_2 : List (List Int)} (ha_0_2 : Rep O0 w (.sl (.sl (.int .i64))) [.slice Aa_0_2 ma_0_2 ca_0_2] a_0_2) {b_1_0 : Int} (hb_1_0 : I64 b_1_0) {b_1_1 : Int} (hb_1_1 : I64 b_1_1) {Ab_1_2 : Option Addr} {mb_1_2 cb_1_2 : Nat} {b_1_2 : List (List Int)} (hb_1_2 : Rep O0 w (.sl (.sl (.int .i64))) [.slice Ab_1_2 mb_1_2 cb_1_2] b_1_2) {r : Bool} (hb : F.law34_equal n a_0_0 a_0_1 a_0_2 b_1_0 b_1_1 b_1_2 = some r) :
    Calls Try.prog 23 #[.agg #[.int .i64 a_0_0, .int .i64 a_0_1, .slice Aa_0_2 ma_0_2 ca_0_2], .agg #[.int .i64 b_1_0, .int .i64 b_1_1, .slice Ab_1_2 mb_1_2 cb_1_2]] w fun e w' => ∃ v, e = .returned v ∧ v = .bool r ∧ Cx (fun _ => False) O0 w w' [] := by
  unfold F.law34_equal at hb
  have hC := Cx.start hO
  replace hC := hC.arg rfl ha_0_2
  replace hC := hC.arg rfl hb_1_2
  clear hO
  obtain ⟨rfl, hla_0_2, hca_0_2⟩ := ha_0_2.sl_len
  obtain ⟨rfl, hlb_1_2, hcb_1_2⟩ := hb_1_2.sl_len
  refine calls_of_Wc Try.func23 rfl (by rw [Try.ntmps23]; exact Nat.le_of_ble_eq_true rfl) fun KR hKR => ?_
  refine Wc.seq fun K3 hK3 => ?_
  refine Wc.region (by decide +kernel) ?_
  refine lex.op (hC.box (cs := [.int .i64 a_0_0, .int .i64 a_0_1, .slice Aa_0_2 a_0_2.length ca_0_2]) rfl rfl) ?_
  rintro _ w5 ⟨g4, rfl, hC, hF, hG⟩
  clear hG
  refine lex.op (hC.box (cs := [.int .i64 b_1_0, .int .i64 b_1_1, .slice Ab_1_2 b_1_2.length cb_1_2]) rfl rfl) ?_
  rintro _ w8 ⟨g7, rfl, hC, hF, hG⟩
  clear hG
  refine lex.pure (v := .bool false) (pu_assign rfl) ?_
  refine lex.nil ?_
  refine hK3 _ _ ?_
  refine Wc.seq fun K10 hK10 => ?_
  refine Wc.region (by decide +kernel) ?_
  refine lex.pure (v := .pointer (some ((⟨g4, 0, none⟩ : Addr).add 0))) (pu_field (sz := 1) Try.underlying28 rfl Try.sizeOf3 (by decide) rfl rfl) ?_
  refine lex.val (v := .int .i64 a_0_0) (ld_fld (hC.bx (i := 1) rfl) Try.isAgg3 rfl rfl) ?_
  refine lex.pure (v := .pointer (some ((⟨g7, 0, none⟩ : Addr).add 0))) (pu_field (sz := 1) Try.underlying28 rfl Try.sizeOf3 (by decide) rfl rfl) ?_
  refine lex.val (v := .int .i64 b_1_0) (ld_fld (hC.bx (i := 0) rfl) Try.isAgg3 rfl rfl) ?_
  refine lex.pure (v := .bool (decide (a_0_0 = b_1_0))) (pu_eql (k := .i64) (a := a_0_0) (b := b_1_0) rfl rfl) ?_
  refine lex.pure (v := .bool (decide (a_0_0 = b_1_0))) (pu_move rfl) ?_
  rcases bS (decide (a_0_0 = b_1_0)) with hq11 | hq11
  · replace hb := (cT hq11).symm.trans hb
    refine lex.gpure (want_t rfl rfl (show _ = Value.bool (decide (a_0_0 = b_1_0)) from rfl) hq11) (v := .pointer (some ((⟨g4, 0, none⟩ : Addr).add 1))) (pu_field (sz := 1) Try.underlying28 rfl Try.sizeOf3 (by decide) rfl rfl) ?_
    refine lex.gval (want_t rfl rfl (show _ = Value.bool (decide (a_0_0 = b_1_0)) from rfl) hq11) (v := .int .i64 a_0_1) (ld_fld (hC.bx (i := 1) rfl) Try.isAgg3 rfl rfl) ?_
    refine lex.gpure (want_t rfl rfl (show _ = Value.bool (decide (a_0_0 = b_1_0)) from rfl) hq11) (v := .pointer (some ((⟨g7, 0, none⟩ : Addr).add 1))) (pu_field (sz := 1) Try.underlying28 rfl Try.sizeOf3 (by decide) rfl rfl) ?_
    refine lex.gval (want_t rfl rfl (show _ = Value.bool (decide (a_0_0 = b_1_0)) from rfl) hq11) (v := .int .i64 b_1_1) (ld_fld (hC.bx (i := 0) rfl) Try.isAgg3 rfl rfl) ?_
    refine lex.gpure (want_t rfl rfl (show _ = Value.bool (decide (a_0_0 = b_1_0)) from rfl) hq11) (v := .bool (decide (a_0_1 = b_1_1))) (pu_eql (k := .i64) (a := a_0_1) (b := b_1_1) rfl rfl) ?_
    refine lex.pure (v := .bool (decide (a_0_1 = b_1_1))) (pu_pickT (q := (decide (a_0_0 = b_1_0))) rfl hq11 rfl) ?_
    refine lex.pure (v := .bool (decide (a_0_1 = b_1_1))) (pu_move rfl) ?_
    rcases bS (decide (a_0_1 = b_1_1)) with hq12 | hq12
    · replace hb := (cT hq12).symm.trans hb
      refine lex.gpure (want_t rfl rfl (show _ = Value.bool (decide (a_0_1 = b_1_1)) from rfl) hq12) (v := .pointer (some ((⟨g4, 0, none⟩ : Addr).add 2))) (pu_field (sz := 1) Try.underlying28 rfl Try.sizeOf26 (by decide) rfl rfl) ?_
      refine lex.gval (want_t rfl rfl (show _ = Value.bool (decide (a_0_1 = b_1_1)) from rfl) hq12) (v := .slice Aa_0_2 a_0_2.length ca_0_2) (ld_fld (hC.bx (i := 1) rfl) Try.isAgg26 rfl rfl) ?_
      refine lex.gpure (want_t rfl rfl (show _ = Value.bool (decide (a_0_1 = b_1_1)) from rfl) hq12) (v := .pointer (some ((⟨g7, 0, none⟩ : Addr).add 2))) (pu_field (sz := 1) Try.underlying28 rfl Try.sizeOf26 (by decide) rfl rfl) ?_
      refine lex.gval (want_t rfl rfl (show _ = Value.bool (decide (a_0_1 = b_1_1)) from rfl) hq12) (v := .slice Ab_1_2 b_1_2.length cb_1_2) (ld_fld (hC.bx (i := 0) rfl) Try.isAgg26 rfl rfl) ?_
      obtain ⟨y13, h14, hb⟩ := bd hb
      refine lex.gcl (want_t rfl rfl (show _ = Value.bool (decide (a_0_1 = b_1_1)) from rfl) hq12) (⟨_, _, op_call (vs := [.slice Aa_0_2 a_0_2.length ca_0_2, .slice Ab_1_2 b_1_2.length cb_1_2, .func (.func 53) #[] #[]]) Try.call50 rfl rfl rfl, slices_EqualFunc_Perm_Perm_Perm_Perm_law34_equal_c1_ok n hC.lt (hC.rd (i := 3) rfl) (hC.rd (i := 2) rfl) h14⟩) ?_
      rintro _ w15 ⟨rfl, hK⟩
      replace hC := hC.merge hK
      clear hK
      refine lex.pure (v := .bool y13) (pu_pickT (q := (decide (a_0_1 = b_1_1))) rfl hq12 rfl) ?_
      refine lex.pure (v := .bool y13) (pu_assign rfl) ?_
      refine lex.nil ?_
      refine hK10 _ _ ?_
      obtain rfl := Option.some.inj hb
      refine Wc.ret ?_
      refine hKR _ _ ?_
      refine ⟨_, res1 Try.results23 (show RV _ _ _ (.tmp _) (.bool y13) from rfl), _, rfl, rfl, hC.sel [] (by decide)⟩
    · replace hb := (cF hq12).symm.trans hb
      refine lex.gskip (want_f rfl rfl (show _ = Value.bool (decide (a_0_1 = b_1_1)) from rfl) hq12) ?_
      refine lex.gskip (want_f rfl rfl (show _ = Value.bool (decide (a_0_1 = b_1_1)) from rfl) hq12) ?_
      refine lex.gskip (want_f rfl rfl (show _ = Value.bool (decide (a_0_1 = b_1_1)) from rfl) hq12) ?_
      refine lex.gskip (want_f rfl rfl (show _ = Value.bool (decide (a_0_1 = b_1_1)) from rfl) hq12) ?_
      refine lex.gskip (want_f rfl rfl (show _ = Value.bool (decide (a_0_1 = b_1_1)) from rfl) hq12) ?_
      refine lex.pure (v := .bool false) (pu_pickF (q := (decide (a_0_1 = b_1_1))) rfl hq12 rfl) ?_
      refine lex.pure (v := .bool false) (pu_assign rfl) ?_
      refine lex.nil ?_
      refine hK10 _ _ ?_
      obtain rfl := Option.some.inj hb
      refine Wc.ret ?_
      refine hKR _ _ ?_
      refine ⟨_, res1 Try.results23 (show RV _ _ _ (.tmp _) (.bool false) from rfl), _, rfl, rfl, hC.sel [] (by decide)⟩
  · replace hb := (cF hq11).symm.trans hb
    refine lex.gskip (want_f rfl rfl (show _ = Value.bool (decide (a_0_0 = b_1_0)) from rfl) hq11) ?_
    refine lex.gskip (want_f rfl rfl (show _ = Value.bool (decide (a_0_0 = b_1_0)) from rfl) hq11) ?_
    refine lex.gskip (want_f rfl rfl (show _ = Value.bool (decide (a_0_0 = b_1_0)) from rfl) hq11) ?_
    refine lex.gskip (want_f rfl rfl (show _ = Value.bool (decide (a_0_0 = b_1_0)) from rfl) hq11) ?_
    refine lex.gskip (want_f rfl rfl (show _ = Value.bool (decide (a_0_0 = b_1_0)) from rfl) hq11) ?_
    refine lex.pure (v := .bool false) (pu_pickF (q := (decide (a_0_0 = b_1_0))) rfl hq11 rfl) ?_
    refine lex.pure (v := .bool false) (pu_move rfl) ?_
    refine lex.gskip (want_f rfl rfl (show _ = Value.bool false from rfl) rfl) ?_
    refine lex.gskip (want_f rfl rfl (show _ = Value.bool false from rfl) rfl) ?_
    refine lex.gskip (want_f rfl rfl (show _ = Value.bool false from rfl) rfl) ?_
    refine lex.gskip (want_f rfl rfl (show _ = Value.bool false from rfl) rfl) ?_
    refine lex.gskip (want_f rfl rfl (show _ = Value.bool false from rfl) rfl) ?_
    refine lex.pure (v := .bool false) (pu_pickF (q := false) rfl rfl rfl) ?_
    refine lex.pure (v := .bool false) (pu_assign rfl) ?_
    refine lex.nil ?_
    refine hK10 _ _ ?_
    obtain rfl := Option.some.inj hb
    refine Wc.ret ?_
    refine hKR _ _ ?_
    refine ⟨_, res1 Try.results23 (show RV _ _ _ (.tmp _) (.bool false) from rfl), _, rfl, rfl, hC.sel [] (by decide)⟩
end Go.Proofs.Ytkeaonceaaafcaa
