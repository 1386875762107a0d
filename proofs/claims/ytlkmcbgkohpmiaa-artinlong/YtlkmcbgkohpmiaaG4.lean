/- The walks: part 4. -/
import Derived.Test.YtlkmcbgkohpmiaaS
import Derived.Test.YtlkmcbgkohpmiaaG2
import Derived.Test.YtlkmcbgkohpmiaaG3
set_option linter.unusedVariables false
set_option linter.unusedSimpArgs false
namespace Go.Proofs.Ytlkmcbgkohpmiaa
open Ev
set_option maxRecDepth 100000 in
set_option maxHeartbeats 4000000 in
theorem artin_Group_ok (n : Nat) {w : World} {O0 : List Nat} (hO : ∀ k ∈ O0, k < w.heap.size) {b_0_0 : Int} (hb_0_0 : I64 b_0_0) {Ab_0_1 : Option Addr} {mb_0_1 cb_0_1 : Nat} {b_0_1 : List Int} (hb_0_1 : Rep O0 w (.sl (.int .i64)) [.slice Ab_0_1 mb_0_1 cb_0_1] b_0_1) {r : Int × (List Int) × (List (List Int)) × Int} (hb : F.artin_Group n b_0_0 b_0_1 = some r) :
    Calls Try.prog 21 #[.agg #[.int .i64 b_0_0, .slice Ab_0_1 mb_0_1 cb_0_1]] w fun e w' => ∃ v, e = .returned v ∧ ∃ (A1 : Option Addr) (m1 c1 : Nat) (A2 : Option Addr) (m2 c2 : Nat), v = .tuple #[.agg #[.int .i64 r.1, .slice A1 m1 c1, .slice A2 m2 c2], .int .i64 r.2.2.2] ∧ I64 r.1 ∧ I64 r.2.2.2 ∧ Cx (fun _ => False) O0 w w' [.own 3 (.int .i64) (.slice A1 m1 c1) r.2.1, .own 27 (.sl (.int .i64)) (.slice A2 m2 c2) r.2.2.1] := by
  unfold F.artin_Group at hb
  have hC := Cx.start hO
  replace hC := hC.arg rfl hb_0_1
  clear hO
  obtain ⟨rfl, hlb_0_1, hcb_0_1⟩ := hb_0_1.sl_len
  refine calls_of_Wc Try.func21 rfl (by rw [Try.ntmps21]; exact Nat.le_of_ble_eq_true rfl) fun KR hKR => ?_
  refine Wc.seq fun K2 hK2 => ?_
  refine Wc.region (by decide +kernel) ?_
  refine lex.op (hC.box (cs := [.int .i64 b_0_0, .slice Ab_0_1 b_0_1.length cb_0_1]) rfl rfl) ?_
  rintro _ w4 ⟨g3, rfl, hC, hF, hG⟩
  clear hG
  refine lex.op (hC.alloc (cs := [.int .i64 0, .slice none 0 0, .slice none 0 0]) Try.zeroValue48 rfl) ?_
  rintro _ w7 ⟨g6, rfl, hC, hF, hG⟩
  clear hG
  refine lex.pure (v := .int .i64 0) (pu_assign rfl) ?_
  refine lex.nil ?_
  refine hK2 _ _ ?_
  refine Wc.seq fun K9 hK9 => ?_
  refine Wc.region (by decide +kernel) ?_
  refine lex.val (v := .agg #[.int .i64 b_0_0, .slice Ab_0_1 b_0_1.length cb_0_1]) (ld_blk (hC.bx (i := 1) rfl) Try.isAgg24 Try.sizeOf24 rfl) ?_
  obtain ⟨y10, h11, hb⟩ := bd hb
  refine lex.cl (⟨_, _, op_call (vs := [.agg #[.int .i64 b_0_0, .slice Ab_0_1 b_0_1.length cb_0_1]]) Try.call17 rfl rfl rfl, artin_Images_ok n hC.lt hb_0_0 (hC.rd (i := 2) rfl) h11⟩) ?_
  rintro _ w17 ⟨A12, m13, c14, rfl, hr16, hK⟩
  replace hC := hC.merge hK
  clear hK
  obtain ⟨rfl, hl18, hc19⟩ := (hC.ow (i := 0) rfl).sl_len
  refine lex.pure (v := .tuple #[.slice A12 y10.1.length c14, .int .i64 y10.2]) (pu_move rfl) ?_
  refine lex.pure (v := .slice A12 y10.1.length c14) (pu_extract rfl rfl) ?_
  refine lex.pure (v := .int .i64 y10.2) (pu_extract rfl rfl) ?_
  refine lex.pure (v := .slice A12 y10.1.length c14) (pu_assign rfl) ?_
  refine lex.pure (v := .int .i64 y10.2) (pu_assign rfl) ?_
  refine lex.nil ?_
  refine hK9 _ _ ?_
  refine Wc.fresh fun E20 hE => ?_
  have e1 : E20 1 = .pointer (some ⟨g3, 0, none⟩) := (congrFun hE 1).trans rfl
  have e2 : E20 2 = .pointer (some ⟨g6, 0, none⟩) := (congrFun hE 2).trans rfl
  have e3 : E20 3 = .int .i64 0 := (congrFun hE 3).trans rfl
  have e4 : E20 4 = .slice A12 y10.1.length c14 := (congrFun hE 4).trans rfl
  have e5 : E20 5 = .int .i64 y10.2 := (congrFun hE 5).trans rfl
  clear hE
  refine Wc.seq fun K21 hK21 => ?_
  refine Wc.seq fun K22 hK22 => ?_
  refine Wc.region (by decide +kernel) ?_
  refine lex.pure (v := .int .i64 y10.2) (pu_move e5) ?_
  refine lex.pure (v := .bool (!(decide (y10.2 = 0)))) (pu_neq (k := .i64) (a := y10.2) (b := 0) rfl rfl) ?_
  refine lex.nil ?_
  refine hK22 _ _ ?_
  refine Wc.cond (t := (!(decide (y10.2 = 0)))) (rfl) (fun hq23 => ?_) (fun hq23 => ?_)
  · replace hb := (cT hq23).symm.trans hb
    refine Wc.seq fun K24 hK24 => ?_
    refine Wc.region (by decide +kernel) ?_
    refine lex.pure (v := .agg #[.int .i64 0, .slice none 0 0, .slice none 0 0]) (pu_builds (places := [(0, 1), (1, 1), (2, 1)]) (pv := []) Try.type48 Try.underlying48 rfl (mp_cons Try.type3 (mp_cons Try.type22 (mp_cons Try.type37 mp_nil rfl rfl) rfl rfl) rfl rfl) rfl (by simp [Instr.fill, Value.cells])) ?_
    refine lex.pure (v := .int .i64 y10.2) (pu_move e5) ?_
    refine lex.sk (hC.seta (i := 1) (ds := [.int .i64 0, .slice none 0 0, .slice none 0 0]) rfl Try.type48 rfl rfl rfl e2 rfl) ?_
    rintro w25 ⟨hC, hF⟩
    refine lex.pure (v := .int .i64 y10.2) (pu_assign rfl) ?_
    refine lex.nil ?_
    refine hK24 _ _ ?_
    replace hC := hC.nil 3 (.int .i64)
    replace hC := hC.nil 27 (.sl (.int .i64))
    obtain rfl := Option.some.inj hb
    refine Wc.ret ?_
    refine hKR _ _ ?_
    refine ⟨_, res2 Try.results21 ⟨_, e2, loadVar_blk (hC.bx (i := 3) rfl) Try.isAgg48 Try.sizeOf48⟩ (show RV _ _ _ (.tmp _) (.int .i64 y10.2) from rfl), _, rfl, none, 0, 0, none, 0, 0, rfl, (show I64 0 from by unfold I64; omega), hr16, hC.sel [1, 0] (by decide)⟩
  · replace hb := (cF hq23).symm.trans hb
    refine Wc.skip ?_
    refine hK21 _ _ ?_
    refine Wc.seq fun K28 hK28 => ?_
    refine Wc.regionPlan [23, 25] (frm [23, 25] ([] : List Fact) ([] : List Fact)) (chainP [0, 1, 2, 3] (.alt (chainP [4] (chainP [5, 6, 7] .done)) (chainP [6] (chainP [4, 5, 7] .done)))) (fun _ => rfl) mixed (by decide +kernel) (by decide +kernel) fun w30 hw29 => ?_
    replace hC := hC.step (Fr.of_drew hw29)
    have hM := Fr.refl (fun k => k ∈ blocks ([] : List Fact)) w30
    clear hw29
    have hS := hC
    have hD : Fr (fun k => k ∈ blocks (([] : List Fact) ++ ([] : List Fact))) w30 w30 := hM.wide
    refine mixPE_chain ?_
    refine mixE.pure (v := .pointer (some ((⟨g3, 0, none⟩ : Addr).add 0))) (pu_field (sz := 1) Try.underlying24 rfl Try.sizeOf3 (by decide) rfl e1) ?_
    refine mixE.steady hD (v := .int .i64 b_0_0) (fun _ hF => ld_fld (hS.bx2 (i := 2) rfl [] (by decide) hF) Try.isAgg3 rfl rfl) ?_
    refine mixE.pure (v := .pointer (some ((⟨g3, 0, none⟩ : Addr).add 0))) (pu_field (sz := 1) Try.underlying24 rfl Try.sizeOf3 (by decide) rfl e1) ?_
    refine mixE.steady hD (v := .int .i64 b_0_0) (fun _ hF => ld_fld (hS.bx2 (i := 2) rfl [] (by decide) hF) Try.isAgg3 rfl rfl) ?_
    refine mixE.nil ?_
    refine mixPE_alt ?_ ?_
    ·
      skip
      refine mixPE_chain ?_
      obtain ⟨u31, h32, hb⟩ := bd hb
      refine mixE.op hM (hC.make (s := (.int .i64)) (n := b_0_0) Try.underlying22 Try.type3 rfl rfl rfl rfl rfl (pos_some h32).1 (pos_some h32).2 (by decide)) ?_
      rintro _ w37 ⟨A33, c34, rfl, hl35, hc36, hC, hF, hN⟩
      have hBf38 := Beside.new hM hN
      have hUf38 := Beside.new (hM.wide (H := ([] : List Fact))) hN
      replace hM := hM.none hF
      replace hD := hM.wide (H := ([] : List Fact))
      refine ⟨hM, ?_⟩
      clear hF hN
      refine mixE.nil ?_
      refine mixPE_chain ?_
      refine mixE.pure (v := .agg #[.int .i64 b_0_0, .slice A33 (((List.replicate b_0_0.toNat (0 : Int))).length) c34, .slice none 0 0]) (pu_builds (places := [(0, 1), (1, 1), (2, 1)]) (pv := [(0, .int .i64 b_0_0), (1, .slice A33 (((List.replicate b_0_0.toNat (0 : Int))).length) c34)]) Try.type48 Try.underlying48 rfl (mp_cons Try.type3 (mp_cons Try.type22 (mp_cons Try.type37 mp_nil rfl rfl) rfl rfl) rfl rfl) rfl (by simp [Instr.fill, Value.cells])) ?_
      refine mixE.op hM (hC.alloc (cs := [.int .i64 0, .slice none 0 0, .slice none 0 0]) Try.zeroValue48 rfl) ?_
      rintro _ w40 ⟨g39, rfl, hC, hF, hG⟩
      have hUf41 : g39 < w30.heap.size → g39 ∈ blocks (([] : List Fact) ++ ([] : List Fact)) := fun h => absurd (Nat.lt_of_lt_of_le h (Nat.le_trans hM.size hG)) (Nat.lt_irrefl _)
      clear hG
      replace hM := hM.none hF
      replace hD := hM.wide (H := ([] : List Fact))
      refine ⟨hM, ?_⟩
      refine mixE.sk hD (hC.seta (i := 0) (ds := [.int .i64 b_0_0, .slice A33 (((List.replicate b_0_0.toNat (0 : Int))).length) c34, .slice none 0 0]) rfl Try.type48 rfl rfl rfl rfl rfl) ?_
      rintro w42 ⟨hC, hF⟩
      replace hD := hD.besideG hUf41 hF
      clear hF
      refine ⟨hD, ?_⟩
      refine mixE.nil ?_
      clear hS hM
      clear hD
      refine hK28 _ _ ?_
      refine Wc.seq fun K43 hK43 => ?_
      refine Wc.seq fun K44 hK44 => ?_
      refine Wc.region (by decide +kernel) ?_
      refine lex.val (v := .agg #[.int .i64 b_0_0, .slice Ab_0_1 b_0_1.length cb_0_1]) (ld_blk (hC.bx (i := 4) rfl) Try.isAgg24 Try.sizeOf24 e1) ?_
      obtain ⟨y45, h46, hb⟩ := bd hb
      refine lex.cl (⟨_, _, op_call (vs := [.agg #[.int .i64 b_0_0, .slice Ab_0_1 b_0_1.length cb_0_1]]) Try.call23 rfl rfl rfl, braid_Perm_ok n hC.lt hb_0_0 (hC.rd (i := 5) rfl) h46⟩) ?_
      rintro _ w51 ⟨A47, m48, c49, rfl, hK⟩
      replace hC := hC.merge hK
      clear hK
      obtain ⟨rfl, hl52, hc53⟩ := (hC.ow (i := 0) rfl).sl_len
      replace hC := hC.freeze (i := 0) rfl (hC.own_new (i := 0) rfl)
      obtain ⟨y54, h55, hb⟩ := bd hb
      refine lex.cl (⟨_, _, op_call (vs := [.slice A47 y45.length c49]) Try.call39 rfl rfl rfl, perm_Cycles_ok n hC.lt (hC.rd (i := 0) rfl) h55⟩) ?_
      rintro _ w60 ⟨A56, m57, c58, rfl, hK⟩
      replace hC := hC.merge hK
      clear hK
      obtain ⟨rfl, hl61, hc62⟩ := (hC.ow (i := 0) rfl).sl_len
      refine lex.pure (v := .int .i64 (y54.length : Int)) (pu_len (A := A56) (n := y54.length) (m := c58) Try.underlying41 rfl) ?_
      refine lex.pure (v := .int .i64 0) (pu_move rfl) ?_
      refine lex.nil ?_
      refine hK44 _ _ ?_
      refine Wc.fresh fun E63 hE => ?_
      have e2 : E63 2 = .pointer (some ⟨g6, 0, none⟩) := (congrFun hE 2).trans e2
      have e3 : E63 3 = .int .i64 0 := (congrFun hE 3).trans e3
      have e4 : E63 4 = .slice A12 y10.1.length c14 := (congrFun hE 4).trans e4
      have e6 : E63 6 = .pointer (some ⟨g39, 0, none⟩) := (congrFun hE 6).trans rfl
      have e30 : E63 30 = .slice A56 y54.length c58 := (congrFun hE 30).trans rfl
      have e31 : E63 31 = .int .i64 (y54.length : Int) := (congrFun hE 31).trans rfl
      have e32 : E63 32 = .int .i64 0 := (congrFun hE 32).trans rfl
      clear hE
      obtain ⟨o64, hl0, hb⟩ := bd hb
      refine Wc.cut (fun E wv => ∃ (v32_0 : Int) (qf38_0 : List Int), E 2 = .pointer (some ⟨g6, 0, none⟩) ∧ E 3 = .int .i64 0 ∧ E 4 = .slice A12 y10.1.length c14 ∧ E 6 = .pointer (some ⟨g39, 0, none⟩) ∧ I64 v32_0 ∧ Cx (fun _ => False) O0 w wv [.box g6 48 [.int .i64 0, .slice none 0 0, .slice none 0 0], .own 27 (.sl (.int .i64)) (.slice A12 y10.1.length c14) y10.1, .box g39 48 [.int .i64 b_0_0, .slice A33 (((List.replicate b_0_0.toNat (0 : Int))).length) c34, .slice none 0 0], .own 3 (.int .i64) (.slice A33 (((List.replicate b_0_0.toNat (0 : Int))).length) c34) qf38_0] ∧ (((loopN n (F.artin_Group_b2 n y10) (0, ([] : List (List Int)))).bind fun o124 => match o124 with     | (v52_2, kf41_2_2) => some (b_0_0, qf38_0, kf41_2_2, 0)) : Option (Int × (List Int) × (List (List Int)) × Int)) = some r) (fun K65 hK65 => ?_) ?_
      · refine Wc.block ?_
        refine Wc.loop (fun m E wv => ∃ (v32_0 : Int) (qf38_0 : List Int), E 2 = .pointer (some ⟨g6, 0, none⟩) ∧ E 3 = .int .i64 0 ∧ E 4 = .slice A12 y10.1.length c14 ∧ E 6 = .pointer (some ⟨g39, 0, none⟩) ∧ E 30 = .slice A56 y54.length c58 ∧ E 31 = .int .i64 (y54.length : Int) ∧ E 32 = .int .i64 v32_0 ∧ I64 v32_0 ∧ Cx (fun _ => False) O0 w wv [.box g6 48 [.int .i64 0, .slice none 0 0, .slice none 0 0], .own 27 (.sl (.int .i64)) (.slice A12 y10.1.length c14) y10.1, .box g39 48 [.int .i64 b_0_0, .slice A33 (((List.replicate b_0_0.toNat (0 : Int))).length) c34, .slice none 0 0], .own 3 (.int .i64) (.slice A33 (((List.replicate b_0_0.toNat (0 : Int))).length) c34) qf38_0, .own 22 (.sl (.int .i64)) (.slice A56 y54.length c58) y54] ∧ loopN m (F.artin_Group_b0 n y54) (v32_0, qf38_0) = some o64) n ⟨0, (List.replicate b_0_0.toNat (0 : Int)), e2, e3, e4, e6, e30, e31, e32, (show I64 0 from by unfold I64; omega), hC.sel [5, 4, 2, 3, 0] (by decide), hl0⟩ ?_
        have hbK0 := hb
        clear hb hC hl0
        rintro m67 E69 w68 ⟨v32_0, qf38_0, e2, e3, e4, e6, e30, e31, e32, hrv32_0, hC, hl0⟩ K66 hK66
        obtain ⟨m67', o70, rfl, hb, hl0⟩ := loopN_some hl0
        unfold F.artin_Group_b0 at hb
        refine Wc.seq fun K71 hK71 => ?_
        refine Wc.region (by decide +kernel) ?_
        refine lex.pure (v := .bool (decide (v32_0 < (y54.length : Int)))) (pu_lss (k := .i64) (a := v32_0) (b := (y54.length : Int)) e32 e31) ?_
        refine lex.nil ?_
        refine hK71 _ _ ?_
        refine Wc.seq fun K72 hK72 => ?_
        refine Wc.cond (t := (decide (v32_0 < (y54.length : Int)))) (rfl) (fun hq73 => ?_) (fun hq73 => ?_)
        · replace hb := (cT hq73).symm.trans hb
          refine Wc.skip ?_
          refine hK72 _ _ ?_
          refine Wc.seq fun K74 hK74 => ?_
          refine Wc.block ?_
          refine Wc.seq fun K75 hK75 => ?_
          refine Wc.region (by decide +kernel) ?_
          refine lex.pure (v := .int .i64 v32_0) (pu_move e32) ?_
          obtain ⟨x76, h77, hb⟩ := bd hb
          obtain ⟨ad78, cs79, hA, hc80, hr81⟩ := hC.elo (i := 4) rfl (get_some h77).2
          subst hA
          refine lex.pure (v := .pointer (some (ad78.add (v32_0.toNat * 1)))) (pu_index (a := v32_0) Try.underlying41 Try.sizeOf22 e30 e32 (get_some h77).1) ?_
          have hR := hr81
          obtain ⟨A82, c83, rfl, hl84, hc85, _⟩ := hr81
          replace hC := hC.ro hR
          clear hR
          refine lex.val (v := .slice A82 x76.length c83) (ld_one Try.isAgg22 rfl (hc80 0 _ rfl)) ?_
          refine lex.pure (v := .int .i64 v32_0) (pu_assign rfl) ?_
          refine lex.pure (v := .slice A82 x76.length c83) (pu_assign rfl) ?_
          refine lex.nil ?_
          refine hK75 _ _ ?_
          refine Wc.seq fun K87 hK87 => ?_
          refine Wc.region (by decide +kernel) ?_
          refine lex.pure (v := .slice A82 x76.length c83) (pu_move rfl) ?_
          refine lex.pure (v := .int .i64 (x76.length : Int)) (pu_len (A := A82) (n := x76.length) (m := c83) Try.underlying22 rfl) ?_
          refine lex.pure (v := .int .i64 0) (pu_move rfl) ?_
          refine lex.nil ?_
          refine hK87 _ _ ?_
          obtain ⟨o88, hl1, hb⟩ := bd hb
          refine Wc.cut (fun E wv => ∃ (v39_1 : Int) (qf38_1 : List Int), E 2 = .pointer (some ⟨g6, 0, none⟩) ∧ E 3 = .int .i64 0 ∧ E 4 = .slice A12 y10.1.length c14 ∧ E 6 = .pointer (some ⟨g39, 0, none⟩) ∧ E 7 = .int .i64 v32_0 ∧ E 8 = .slice A82 x76.length c83 ∧ E 30 = .slice (some ad78) y54.length c58 ∧ E 31 = .int .i64 (y54.length : Int) ∧ E 32 = .int .i64 v32_0 ∧ E 33 = .bool (decide (v32_0 < (y54.length : Int))) ∧ E 37 = .slice A82 x76.length c83 ∧ E 38 = .int .i64 (x76.length : Int) ∧ E 39 = .int .i64 v39_1 ∧ I64 v39_1 ∧ Cx (fun _ => False) O0 w wv [.box g6 48 [.int .i64 0, .slice none 0 0, .slice none 0 0], .own 27 (.sl (.int .i64)) (.slice A12 y10.1.length c14) y10.1, .box g39 48 [.int .i64 b_0_0, .slice A33 (((List.replicate b_0_0.toNat (0 : Int))).length) c34, .slice none 0 0], .own 3 (.int .i64) (.slice A33 (((List.replicate b_0_0.toNat (0 : Int))).length) c34) qf38_1, .ro (.sl (.int .i64)) [.slice A82 x76.length c83] x76, .own 22 (.sl (.int .i64)) (.slice (some ad78) y54.length c58) y54] ∧ ((chk (v32_0 + 1)).bind fun z117 => some (.inl (z117, qf38_1)) : Option ((Int × (List Int)) ⊕ ((Int × (List Int))))) = some o70) (fun K89 hK89 => ?_) ?_
          · refine Wc.block ?_
            refine Wc.loop (fun m E wv => ∃ (v39_1 : Int) (qf38_1 : List Int), E 2 = .pointer (some ⟨g6, 0, none⟩) ∧ E 3 = .int .i64 0 ∧ E 4 = .slice A12 y10.1.length c14 ∧ E 6 = .pointer (some ⟨g39, 0, none⟩) ∧ E 7 = .int .i64 v32_0 ∧ E 8 = .slice A82 x76.length c83 ∧ E 30 = .slice (some ad78) y54.length c58 ∧ E 31 = .int .i64 (y54.length : Int) ∧ E 32 = .int .i64 v32_0 ∧ E 33 = .bool (decide (v32_0 < (y54.length : Int))) ∧ E 37 = .slice A82 x76.length c83 ∧ E 38 = .int .i64 (x76.length : Int) ∧ E 39 = .int .i64 v39_1 ∧ I64 v39_1 ∧ Cx (fun _ => False) O0 w wv [.box g6 48 [.int .i64 0, .slice none 0 0, .slice none 0 0], .own 27 (.sl (.int .i64)) (.slice A12 y10.1.length c14) y10.1, .box g39 48 [.int .i64 b_0_0, .slice A33 (((List.replicate b_0_0.toNat (0 : Int))).length) c34, .slice none 0 0], .own 3 (.int .i64) (.slice A33 (((List.replicate b_0_0.toNat (0 : Int))).length) c34) qf38_1, .ro (.sl (.int .i64)) [.slice A82 x76.length c83] x76, .own 22 (.sl (.int .i64)) (.slice (some ad78) y54.length c58) y54] ∧ loopN m (F.artin_Group_b1 n v32_0 x76) (v39_1, qf38_1) = some o88) n ⟨0, qf38_0, e2, e3, e4, e6, rfl, rfl, e30, e31, e32, rfl, rfl, rfl, rfl, (show I64 0 from by unfold I64; omega), hC.sel [1, 2, 3, 4, 0, 5] (by decide), hl1⟩ ?_
            have hbK1 := hb
            clear hb hC hl1
            rintro m91 E93 w92 ⟨v39_1, qf38_1, e2, e3, e4, e6, e7, e8, e30, e31, e32, e33, e37, e38, e39, hrv39_1, hC, hl1⟩ K90 hK90
            obtain ⟨m91', o94, rfl, hb, hl1⟩ := loopN_some hl1
            unfold F.artin_Group_b1 at hb
            refine Wc.seq fun K95 hK95 => ?_
            refine Wc.region (by decide +kernel) ?_
            refine lex.pure (v := .bool (decide (v39_1 < (x76.length : Int)))) (pu_lss (k := .i64) (a := v39_1) (b := (x76.length : Int)) e39 e38) ?_
            refine lex.nil ?_
            refine hK95 _ _ ?_
            refine Wc.seq fun K96 hK96 => ?_
            refine Wc.cond (t := (decide (v39_1 < (x76.length : Int)))) (rfl) (fun hq97 => ?_) (fun hq97 => ?_)
            · replace hb := (cT hq97).symm.trans hb
              refine Wc.skip ?_
              refine hK96 _ _ ?_
              refine Wc.seq fun K98 hK98 => ?_
              refine Wc.block ?_
              refine Wc.seq fun K99 hK99 => ?_
              refine Wc.region (by decide +kernel) ?_
              obtain ⟨x100, h101, hb⟩ := bd hb
              obtain ⟨ad102, cs103, hA, hc104, hr105⟩ := hC.elr (i := 4) rfl (get_some h101).2
              subst hA
              refine lex.pure (v := .pointer (some (ad102.add (v39_1.toNat * 1)))) (pu_index (a := v39_1) Try.underlying22 Try.sizeOf3 e37 e39 (get_some h101).1) ?_
              obtain ⟨rfl, hr105'⟩ := hr105
              refine lex.val (v := .int .i64 x100) (ld_one Try.isAgg3 rfl (hc104 0 _ rfl)) ?_
              refine lex.pure (v := .int .i64 x100) (pu_assign rfl) ?_
              refine lex.nil ?_
              refine hK99 _ _ ?_
              refine Wc.region (by decide +kernel) ?_
              refine lex.pure (v := .pointer (some ((⟨g39, 0, none⟩ : Addr).add 1))) (pu_field (sz := 1) Try.underlying48 rfl Try.sizeOf22 (by decide) rfl e6) ?_
              refine lex.val (v := .slice A33 (((List.replicate b_0_0.toNat (0 : Int))).length) c34) (ld_fld (hC.bx (i := 2) rfl) Try.isAgg22 rfl rfl) ?_
              refine lex.pure (v := .int .i64 x100) (pu_move rfl) ?_
              refine lex.pure (v := .int .i64 v32_0) (pu_move e7) ?_
              obtain ⟨x106, h107, hb⟩ := bd hb
              obtain ⟨ad108, cs109, hA, hc110, hr111⟩ := hC.elo (i := 3) rfl (get_some h107).2
              subst hA
              refine lex.pure (v := .pointer (some (ad108.add (x100.toNat * 1)))) (pu_index (a := x100) Try.underlying22 Try.sizeOf3 rfl rfl (by rw [(hC.ow (i := 3) rfl).sl_len.1]; exact (get_some h107).1)) ?_
              refine lex.sk (hC.put (i := 3) rfl rfl Try.sizeOf3 (k := x100.toNat) (a := v32_0) (by have := (get_some h107).1; simp at this ⊢; omega) (⟨rfl, I64.wr hrv32_0⟩) rfl rfl rfl) ?_
              rintro w112 ⟨hC, hF⟩
              refine lex.nil ?_
              refine hK98 _ _ ?_
              refine Wc.region (by decide +kernel) ?_
              obtain ⟨z113, h114, hb⟩ := bd hb
              refine lex.pure (v := .int .i64 z113) (pu_addc (a := v39_1) (b := 1) e39 rfl h114) ?_
              refine lex.pure (v := .int .i64 z113) (pu_move rfl) ?_
              refine lex.nil ?_
              obtain rfl := Option.some.inj hb
              exact hK90 m91' _ _ (Nat.lt_succ_self _) ⟨z113, (qf38_1.set x100.toNat v32_0), e2, e3, e4, e6, e7, e8, e30, e31, e32, e33, e37, e38, rfl, (chk_rng h114), hC.sel [0, 1, 2, 3, 4, 5] (by decide), lN hl1⟩
            · replace hb := (cF hq97).symm.trans hb
              refine Wc.exit rfl ?_
              obtain rfl := Option.some.inj hb
              obtain rfl := (lX hl1).symm
              exact hK89 _ _ ⟨v39_1, qf38_1, e2, e3, e4, e6, e7, e8, e30, e31, e32, e33, e37, e38, e39, hrv39_1, hC.sel [0, 1, 2, 3, 4, 5] (by decide), hbK1⟩
          · clear hb hC hl1
            rintro E116 w115 ⟨v39_1, qf38_1, e2, e3, e4, e6, e7, e8, e30, e31, e32, e33, e37, e38, e39, hrv39_1, hC, hb⟩
            refine hK74 _ _ ?_
            refine Wc.region (by decide +kernel) ?_
            obtain ⟨z117, h118, hb⟩ := bd hb
            refine lex.pure (v := .int .i64 z117) (pu_addc (a := v32_0) (b := 1) e32 rfl h118) ?_
            refine lex.pure (v := .int .i64 z117) (pu_move rfl) ?_
            refine lex.nil ?_
            obtain rfl := Option.some.inj hb
            exact hK66 m67' _ _ (Nat.lt_succ_self _) ⟨z117, qf38_1, e2, e3, e4, e6, e30, e31, rfl, (chk_rng h118), hC.sel [0, 1, 2, 3, 5] (by decide), lN hl0⟩
        · replace hb := (cF hq73).symm.trans hb
          refine Wc.exit rfl ?_
          obtain rfl := Option.some.inj hb
          obtain rfl := (lX hl0).symm
          exact hK65 _ _ ⟨v32_0, qf38_0, e2, e3, e4, e6, hrv32_0, hC.sel [0, 1, 2, 3] (by decide), hbK0⟩
      · clear hb hC hl0
        rintro E120 w119 ⟨v32_0, qf38_0, e2, e3, e4, e6, hrv32_0, hC, hb⟩
        refine hK43 _ _ ?_
        refine Wc.seq fun K121 hK121 => ?_
        refine Wc.seq fun K122 hK122 => ?_
        refine Wc.region (by decide +kernel) ?_
        refine lex.pure (v := .slice A12 y10.1.length c14) (pu_move e4) ?_
        refine lex.pure (v := .int .i64 (y10.1.length : Int)) (pu_len (A := A12) (n := y10.1.length) (m := c14) Try.underlying37 rfl) ?_
        refine lex.pure (v := .int .i64 0) (pu_move rfl) ?_
        refine lex.nil ?_
        refine hK122 _ _ ?_
        replace hC := hC.nil 27 (.sl (.int .i64))
        obtain ⟨o124, hl2, hb⟩ := bd hb
        refine Wc.cut (fun E wv => ∃ (v52_2 : Int) (kf41_2_2 : List (List Int)) (Akf41_2_2 : Option Addr) (mkf41_2_2 ckf41_2_2 : Nat), E 2 = .pointer (some ⟨g6, 0, none⟩) ∧ E 3 = .int .i64 0 ∧ E 6 = .pointer (some ⟨g39, 0, none⟩) ∧ I64 v52_2 ∧ Cx (fun _ => False) O0 w wv [.box g6 48 [.int .i64 0, .slice none 0 0, .slice none 0 0], .box g39 48 [.int .i64 b_0_0, .slice A33 (((List.replicate b_0_0.toNat (0 : Int))).length) c34, .slice Akf41_2_2 mkf41_2_2 ckf41_2_2], .own 3 (.int .i64) (.slice A33 (((List.replicate b_0_0.toNat (0 : Int))).length) c34) qf38_0, .own 27 (.sl (.int .i64)) (.slice Akf41_2_2 mkf41_2_2 ckf41_2_2) kf41_2_2] ∧ (some (b_0_0, qf38_0, kf41_2_2, 0) : Option (Int × (List Int) × (List (List Int)) × Int)) = some r) (fun K125 hK125 => ?_) ?_
        · refine Wc.block ?_
          refine Wc.loop (fun m E wv => ∃ (v52_2 : Int) (kf41_2_2 : List (List Int)) (Akf41_2_2 : Option Addr) (mkf41_2_2 ckf41_2_2 : Nat), E 2 = .pointer (some ⟨g6, 0, none⟩) ∧ E 3 = .int .i64 0 ∧ E 6 = .pointer (some ⟨g39, 0, none⟩) ∧ E 50 = .slice A12 y10.1.length c14 ∧ E 51 = .int .i64 (y10.1.length : Int) ∧ E 52 = .int .i64 v52_2 ∧ I64 v52_2 ∧ Cx (fun _ => False) O0 w wv [.box g6 48 [.int .i64 0, .slice none 0 0, .slice none 0 0], .box g39 48 [.int .i64 b_0_0, .slice A33 (((List.replicate b_0_0.toNat (0 : Int))).length) c34, .slice Akf41_2_2 mkf41_2_2 ckf41_2_2], .own 3 (.int .i64) (.slice A33 (((List.replicate b_0_0.toNat (0 : Int))).length) c34) qf38_0, .own 27 (.sl (.int .i64)) (.slice Akf41_2_2 mkf41_2_2 ckf41_2_2) kf41_2_2, .own 27 (.sl (.int .i64)) (.slice A12 y10.1.length c14) y10.1] ∧ loopN m (F.artin_Group_b2 n y10) (v52_2, kf41_2_2) = some o124) n ⟨0, ([] : List (List Int)), none, 0, 0, e2, e3, e6, rfl, rfl, rfl, (show I64 0 from by unfold I64; omega), hC.sel [1, 3, 4, 0, 2] (by decide), hl2⟩ ?_
          have hbK2 := hb
          clear hb hC hl2
          rintro m127 E129 w128 ⟨v52_2, kf41_2_2, Akf41_2_2, mkf41_2_2, ckf41_2_2, e2, e3, e6, e50, e51, e52, hrv52_2, hC, hl2⟩ K126 hK126
          obtain ⟨m127', o130, rfl, hb, hl2⟩ := loopN_some hl2
          unfold F.artin_Group_b2 at hb
          obtain ⟨rfl, hlkf41_2_2, hckf41_2_2⟩ := (hC.ow (i := 3) rfl).sl_len
          refine Wc.seq fun K131 hK131 => ?_
          refine Wc.region (by decide +kernel) ?_
          refine lex.pure (v := .bool (decide (v52_2 < (y10.1.length : Int)))) (pu_lss (k := .i64) (a := v52_2) (b := (y10.1.length : Int)) e52 e51) ?_
          refine lex.nil ?_
          refine hK131 _ _ ?_
          refine Wc.seq fun K132 hK132 => ?_
          refine Wc.cond (t := (decide (v52_2 < (y10.1.length : Int)))) (rfl) (fun hq133 => ?_) (fun hq133 => ?_)
          · replace hb := (cT hq133).symm.trans hb
            refine Wc.skip ?_
            refine hK132 _ _ ?_
            refine Wc.seq fun K134 hK134 => ?_
            refine Wc.block ?_
            refine Wc.seq fun K135 hK135 => ?_
            refine Wc.region (by decide +kernel) ?_
            refine lex.pure (v := .int .i64 v52_2) (pu_move e52) ?_
            obtain ⟨x136, h137, hb⟩ := bd hb
            obtain ⟨ad138, cs139, hA, hc140, hr141⟩ := hC.elo (i := 4) rfl (get_some h137).2
            subst hA
            refine lex.pure (v := .pointer (some (ad138.add (v52_2.toNat * 1)))) (pu_index (a := v52_2) Try.underlying37 Try.sizeOf27 e50 e52 (get_some h137).1) ?_
            have hR := hr141
            obtain ⟨A142, c143, rfl, hl144, hc145, _⟩ := hr141
            replace hC := hC.ro hR
            clear hR
            refine lex.val (v := .slice A142 x136.length c143) (ld_one Try.isAgg27 rfl (hc140 0 _ rfl)) ?_
            refine lex.pure (v := .int .i64 v52_2) (pu_assign rfl) ?_
            refine lex.pure (v := .slice A142 x136.length c143) (pu_assign rfl) ?_
            refine lex.nil ?_
            refine hK135 _ _ ?_
            refine Wc.regionMix [] (frm [] [.own 27 (.sl (.int .i64)) (.slice Akf41_2_2 kf41_2_2.length ckf41_2_2) kf41_2_2] [.box g39 48 [.int .i64 b_0_0, .slice A33 (((List.replicate b_0_0.toNat (0 : Int))).length) c34, .slice Akf41_2_2 kf41_2_2.length ckf41_2_2]]) (fun _ => rfl) mixed (by decide +kernel) (by decide +kernel) fun w148 hw147 => ?_
            replace hC := hC.step (Fr.of_drew hw147)
            have hM := Fr.refl (fun k => k ∈ blocks [.own 27 (.sl (.int .i64)) (.slice Akf41_2_2 kf41_2_2.length ckf41_2_2) kf41_2_2]) w148
            clear hw147
            have hS := hC
            have hBFf41_2_2 : Beside [.own 27 (.sl (.int .i64)) (.slice Akf41_2_2 kf41_2_2.length ckf41_2_2) kf41_2_2] w148 (.slice Akf41_2_2 kf41_2_2.length ckf41_2_2) := Beside.of (i := 0) rfl
            have hD : Fr (fun k => k ∈ blocks ([.own 27 (.sl (.int .i64)) (.slice Akf41_2_2 kf41_2_2.length ckf41_2_2) kf41_2_2] ++ [.box g39 48 [.int .i64 b_0_0, .slice A33 (((List.replicate b_0_0.toNat (0 : Int))).length) c34, .slice Akf41_2_2 kf41_2_2.length ckf41_2_2]])) w148 w148 := hM.wide
            have hUFf41_2_2 : Beside ([.own 27 (.sl (.int .i64)) (.slice Akf41_2_2 kf41_2_2.length ckf41_2_2) kf41_2_2] ++ [.box g39 48 [.int .i64 b_0_0, .slice A33 (((List.replicate b_0_0.toNat (0 : Int))).length) c34, .slice Akf41_2_2 kf41_2_2.length ckf41_2_2]]) w148 (.slice Akf41_2_2 kf41_2_2.length ckf41_2_2) := Beside.of (i := 0) rfl
            have hUf41 : g39 < w148.heap.size → g39 ∈ blocks ([.own 27 (.sl (.int .i64)) (.slice Akf41_2_2 kf41_2_2.length ckf41_2_2) kf41_2_2] ++ [.box g39 48 [.int .i64 b_0_0, .slice A33 (((List.replicate b_0_0.toNat (0 : Int))).length) c34, .slice Akf41_2_2 kf41_2_2.length ckf41_2_2]]) := fun _ => box_in (i := 1) rfl
            refine mixE.pure (v := .pointer (some ((⟨g39, 0, none⟩ : Addr).add 2))) (pu_field (sz := 1) Try.underlying48 rfl Try.sizeOf37 (by decide) rfl e6) ?_
            refine mixE.load hM (v := .slice Akf41_2_2 kf41_2_2.length ckf41_2_2) (fun _ hF => ld_fld (hS.bx2 (i := 2) rfl [4] (by decide) hF) Try.isAgg37 rfl rfl) ?_
            refine mixE.pure (v := .slice A142 x136.length c143) (pu_move rfl) ?_
            refine mixE.pure (v := .int .i64 v52_2) (pu_move rfl) ?_
            obtain ⟨z149, h150, hb⟩ := bd hb
            refine mixE.pure (v := .int .i64 z149) (pu_addc (a := v52_2) (b := 1) rfl rfl h150) ?_
            obtain ⟨z151, h152, hb⟩ := bd hb
            refine mixE.pure (v := .int .i64 z151) (pu_negc (a := z149) rfl h152) ?_
            refine mixE.op hM (hC.lit (s := (.int .i64)) (vs := [.int .i64 z151]) (xs := [z151]) Try.underlying27 Try.type3 rfl rfl (Nat.le_of_ble_eq_true rfl) rfl rfl (by simp [Value.cells, Sh.n]) rfl (show Elems _ _ (.int .i64) ([.int .i64 z151] ++ ([])) ([z151] : List Int) from Elems.cons (⟨rfl, I64.wr (chk_rng h152)⟩) (Elems.nil _ _ _))) ?_
            rintro _ w157 ⟨A153, c154, rfl, hl155, hc156, hC, hF, hN⟩
            have hBf158 := Beside.new hM hN
            have hUf158 := Beside.new (hM.wide (H := [.box g39 48 [.int .i64 b_0_0, .slice A33 (((List.replicate b_0_0.toNat (0 : Int))).length) c34, .slice Akf41_2_2 kf41_2_2.length ckf41_2_2]])) hN
            replace hM := hM.none hF
            replace hD := hM.wide (H := [.box g39 48 [.int .i64 b_0_0, .slice A33 (((List.replicate b_0_0.toNat (0 : Int))).length) c34, .slice Akf41_2_2 kf41_2_2.length ckf41_2_2]])
            refine ⟨hM, ?_⟩
            clear hF hN
            replace hC := hC.freeze (i := 0) rfl (hC.own_new (i := 0) rfl)
            refine mixE.op hM (hC.lit (s := (.sl (.int .i64))) (vs := [.slice A142 x136.length c143, .slice A153 ((([z151] : List Int)).length) c154]) (xs := [x136, ([z151] : List Int)]) Try.underlying37 Try.type27 rfl rfl (Nat.le_of_ble_eq_true rfl) rfl rfl (by simp [Value.cells, Sh.n]) rfl (show Elems _ _ (.sl (.int .i64)) ([.slice A142 x136.length c143] ++ ([.slice A153 ((([z151] : List Int)).length) c154] ++ ([]))) ([x136, ([z151] : List Int)] : List (List Int)) from Elems.cons (hC.rd (i := 1) rfl) (Elems.cons (hC.rd (i := 0) rfl) (Elems.nil _ _ _)))) ?_
            rintro _ w163 ⟨A159, c160, rfl, hl161, hc162, hC, hF, hN⟩
            have hBf164 := Beside.new hM hN
            have hUf164 := Beside.new (hM.wide (H := [.box g39 48 [.int .i64 b_0_0, .slice A33 (((List.replicate b_0_0.toNat (0 : Int))).length) c34, .slice Akf41_2_2 kf41_2_2.length ckf41_2_2]])) hN
            replace hM := hM.none hF
            replace hD := hM.wide (H := [.box g39 48 [.int .i64 b_0_0, .slice A33 (((List.replicate b_0_0.toNat (0 : Int))).length) c34, .slice Akf41_2_2 kf41_2_2.length ckf41_2_2]])
            refine ⟨hM, ?_⟩
            clear hF hN
            obtain ⟨y165, h166, hb⟩ := bd hb
            refine mixE.cl hM (⟨_, _, op_call (vs := [.slice A159 ((([x136, ([z151] : List Int)] : List (List Int))).length) c160]) Try.call40 rfl rfl rfl, word_Mul_ok n (hC.lentLt [.slice A159 ((([x136, ([z151] : List Int)] : List (List Int))).length) c160]) ((hC.ow (i := 0) rfl).lend (vs := [.slice A159 ((([x136, ([z151] : List Int)] : List (List Int))).length) c160]) (by simp)) h166⟩) ?_
            rintro _ w171 ⟨A167, m168, c169, rfl, hK⟩
            have hBf170 := Beside.cl (i := 0) hM hK rfl
            have hUf170 := hBf170.wide (H := [.box g39 48 [.int .i64 b_0_0, .slice A33 (((List.replicate b_0_0.toNat (0 : Int))).length) c34, .slice Akf41_2_2 kf41_2_2.length ckf41_2_2]])
            replace hM := hM.none hK.fr
            replace hD := hM.wide (H := [.box g39 48 [.int .i64 b_0_0, .slice A33 (((List.replicate b_0_0.toNat (0 : Int))).length) c34, .slice Akf41_2_2 kf41_2_2.length ckf41_2_2]])
            refine ⟨hM, ?_⟩
            replace hC := hC.mergeF hK rfl
            clear hK
            obtain ⟨rfl, hl172, hc173⟩ := (hC.ow (i := 0) rfl).sl_len
            replace hC := hC.freeze (i := 0) rfl (hC.own_new (i := 0) rfl)
            refine mixE.op hM (hC.lit (s := (.sl (.int .i64))) (vs := [.slice A167 y165.length c169]) (xs := [y165]) Try.underlying37 Try.type27 rfl rfl (Nat.le_of_ble_eq_true rfl) rfl rfl (by simp [Value.cells, Sh.n]) rfl (show Elems _ _ (.sl (.int .i64)) ([.slice A167 y165.length c169] ++ ([])) ([y165] : List (List Int)) from Elems.cons (hC.rd (i := 0) rfl) (Elems.nil _ _ _))) ?_
            rintro _ w178 ⟨A174, c175, rfl, hl176, hc177, hC, hF, hN⟩
            have hBf179 := Beside.new hM hN
            have hUf179 := Beside.new (hM.wide (H := [.box g39 48 [.int .i64 b_0_0, .slice A33 (((List.replicate b_0_0.toNat (0 : Int))).length) c34, .slice Akf41_2_2 kf41_2_2.length ckf41_2_2]])) hN
            replace hM := hM.none hF
            replace hD := hM.wide (H := [.box g39 48 [.int .i64 b_0_0, .slice A33 (((List.replicate b_0_0.toNat (0 : Int))).length) c34, .slice Akf41_2_2 kf41_2_2.length ckf41_2_2]])
            refine ⟨hM, ?_⟩
            clear hF hN
            obtain ⟨u180, h181, hb⟩ := bd hb
            refine mixE.op hM (hC.app (i := 8) (s := (.sl (.int .i64))) (xs := kf41_2_2) (ys := ([y165] : List (List Int))) (m := ((([y165] : List (List Int))).length)) rfl Try.underlying37 Try.underlying37 Try.type27 rfl rfl rfl (hC.srco (i := 0) rfl) rfl rfl (by have := lim_some h181; simp at this ⊢ <;> omega) (by decide)) ?_
            rintro _ w186 ⟨A182, c183, rfl, hl184, hc185, hC, hF, hN⟩
            have hB := hBFf41_2_2
            replace hBFf41_2_2 := hB.app hM hN
            replace hM := hM.beside hB hF
            clear hB
            replace hD := hM.wide (H := [.box g39 48 [.int .i64 b_0_0, .slice A33 (((List.replicate b_0_0.toNat (0 : Int))).length) c34, .slice Akf41_2_2 kf41_2_2.length ckf41_2_2]])
            refine ⟨hM, ?_⟩
            clear hF hN
            refine mixE.pure (v := .pointer (some ((⟨g39, 0, none⟩ : Addr).add 2))) (pu_field (sz := 1) Try.underlying48 rfl Try.sizeOf37 (by decide) rfl e6) ?_
            refine mixE.sk hD (hC.setf (i := 6) (k := 2) (v := .slice A182 ((kf41_2_2 ++ ([y165] : List (List Int))).length) c183) rfl Try.sizeOf37 rfl rfl rfl rfl) ?_
            rintro w187 ⟨hC, hF⟩
            replace hD := hD.besideG hUf41 hF
            clear hF
            refine ⟨hD, ?_⟩
            refine mixE.nil ?_
            clear hS hM
            clear hD
            refine hK134 _ _ ?_
            refine Wc.region (by decide +kernel) ?_
            obtain ⟨z188, h189, hb⟩ := bd hb
            refine lex.pure (v := .int .i64 z188) (pu_addc (a := v52_2) (b := 1) e52 rfl h189) ?_
            refine lex.pure (v := .int .i64 z188) (pu_move rfl) ?_
            refine lex.nil ?_
            obtain rfl := Option.some.inj hb
            exact hK126 m127' _ _ (Nat.lt_succ_self _) ⟨z188, (kf41_2_2 ++ ([y165] : List (List Int))), A182, (kf41_2_2 ++ ([y165] : List (List Int))).length, c183, e2, e3, e6, e50, e51, rfl, (chk_rng h189), hC.sel [5, 6, 7, 8, 9] (by decide), lN hl2⟩
          · replace hb := (cF hq133).symm.trans hb
            refine Wc.exit rfl ?_
            obtain rfl := Option.some.inj hb
            obtain rfl := (lX hl2).symm
            exact hK125 _ _ ⟨v52_2, kf41_2_2, Akf41_2_2, kf41_2_2.length, ckf41_2_2, e2, e3, e6, hrv52_2, hC.sel [0, 1, 2, 3] (by decide), hbK2⟩
        · clear hb hC hl2
          rintro E191 w190 ⟨v52_2, kf41_2_2, Akf41_2_2, mkf41_2_2, ckf41_2_2, e2, e3, e6, hrv52_2, hC, hb⟩
          obtain ⟨rfl, hlkf41_2_2, hckf41_2_2⟩ := (hC.ow (i := 3) rfl).sl_len
          refine hK121 _ _ ?_
          refine Wc.seq fun K192 hK192 => ?_
          refine Wc.region (by decide +kernel) ?_
          refine lex.val (v := .agg #[.int .i64 b_0_0, .slice A33 (((List.replicate b_0_0.toNat (0 : Int))).length) c34, .slice Akf41_2_2 kf41_2_2.length ckf41_2_2]) (ld_blk (hC.bx (i := 1) rfl) Try.isAgg48 Try.sizeOf48 e6) ?_
          refine lex.sk (hC.seta (i := 0) (ds := [.int .i64 b_0_0, .slice A33 (((List.replicate b_0_0.toNat (0 : Int))).length) c34, .slice Akf41_2_2 kf41_2_2.length ckf41_2_2]) rfl Try.type48 rfl rfl rfl e2 rfl) ?_
          rintro w193 ⟨hC, hF⟩
          refine lex.pure (v := .int .i64 0) (pu_assign rfl) ?_
          refine lex.nil ?_
          refine hK192 _ _ ?_
          obtain rfl := Option.some.inj hb
          refine Wc.ret ?_
          refine hKR _ _ ?_
          refine ⟨_, res2 Try.results21 ⟨_, e2, loadVar_blk (hC.bx (i := 0) rfl) Try.isAgg48 Try.sizeOf48⟩ (show RV _ _ _ (.tmp _) (.int .i64 0) from rfl), _, rfl, A33, ((List.replicate b_0_0.toNat (0 : Int))).length, c34, Akf41_2_2, kf41_2_2.length, ckf41_2_2, rfl, hb_0_0, (show I64 0 from by unfold I64; omega), hC.sel [2, 3] (by decide)⟩
    ·
      skip
      refine mixPE_chain ?_
      refine mixE.op hM (hC.alloc (cs := [.int .i64 0, .slice none 0 0, .slice none 0 0]) Try.zeroValue48 rfl) ?_
      rintro _ w195 ⟨g194, rfl, hC, hF, hG⟩
      have hUf196 : g194 < w30.heap.size → g194 ∈ blocks (([] : List Fact) ++ ([] : List Fact)) := fun h => absurd (Nat.lt_of_lt_of_le h (Nat.le_trans hM.size hG)) (Nat.lt_irrefl _)
      clear hG
      replace hM := hM.none hF
      replace hD := hM.wide (H := ([] : List Fact))
      refine ⟨hM, ?_⟩
      refine mixE.nil ?_
      refine mixPE_chain ?_
      obtain ⟨u31, h198, hb⟩ := bd hb
      refine mixE.op hM (hC.make (s := (.int .i64)) (n := b_0_0) Try.underlying22 Try.type3 rfl rfl rfl rfl rfl (pos_some h198).1 (pos_some h198).2 (by decide)) ?_
      rintro _ w203 ⟨A199, c200, rfl, hl201, hc202, hC, hF, hN⟩
      have hBf204 := Beside.new hM hN
      have hUf204 := Beside.new (hM.wide (H := ([] : List Fact))) hN
      replace hM := hM.none hF
      replace hD := hM.wide (H := ([] : List Fact))
      refine ⟨hM, ?_⟩
      clear hF hN
      refine mixE.pure (v := .agg #[.int .i64 b_0_0, .slice A199 (((List.replicate b_0_0.toNat (0 : Int))).length) c200, .slice none 0 0]) (pu_builds (places := [(0, 1), (1, 1), (2, 1)]) (pv := [(0, .int .i64 b_0_0), (1, .slice A199 (((List.replicate b_0_0.toNat (0 : Int))).length) c200)]) Try.type48 Try.underlying48 rfl (mp_cons Try.type3 (mp_cons Try.type22 (mp_cons Try.type37 mp_nil rfl rfl) rfl rfl) rfl rfl) rfl (by simp [Instr.fill, Value.cells])) ?_
      refine mixE.sk hD (hC.seta (i := 1) (ds := [.int .i64 b_0_0, .slice A199 (((List.replicate b_0_0.toNat (0 : Int))).length) c200, .slice none 0 0]) rfl Try.type48 rfl rfl rfl rfl rfl) ?_
      rintro w205 ⟨hC, hF⟩
      replace hD := hD.besideG hUf196 hF
      clear hF
      refine ⟨hD, ?_⟩
      refine mixE.nil ?_
      clear hS hM
      clear hD
      refine hK28 _ _ ?_
      refine Wc.seq fun K206 hK206 => ?_
      refine Wc.seq fun K207 hK207 => ?_
      refine Wc.region (by decide +kernel) ?_
      refine lex.val (v := .agg #[.int .i64 b_0_0, .slice Ab_0_1 b_0_1.length cb_0_1]) (ld_blk (hC.bx (i := 4) rfl) Try.isAgg24 Try.sizeOf24 e1) ?_
      obtain ⟨y45, h209, hb⟩ := bd hb
      refine lex.cl (⟨_, _, op_call (vs := [.agg #[.int .i64 b_0_0, .slice Ab_0_1 b_0_1.length cb_0_1]]) Try.call23 rfl rfl rfl, braid_Perm_ok n hC.lt hb_0_0 (hC.rd (i := 5) rfl) h209⟩) ?_
      rintro _ w214 ⟨A210, m211, c212, rfl, hK⟩
      replace hC := hC.merge hK
      clear hK
      obtain ⟨rfl, hl215, hc216⟩ := (hC.ow (i := 0) rfl).sl_len
      replace hC := hC.freeze (i := 0) rfl (hC.own_new (i := 0) rfl)
      obtain ⟨y54, h218, hb⟩ := bd hb
      refine lex.cl (⟨_, _, op_call (vs := [.slice A210 y45.length c212]) Try.call39 rfl rfl rfl, perm_Cycles_ok n hC.lt (hC.rd (i := 0) rfl) h218⟩) ?_
      rintro _ w223 ⟨A219, m220, c221, rfl, hK⟩
      replace hC := hC.merge hK
      clear hK
      obtain ⟨rfl, hl224, hc225⟩ := (hC.ow (i := 0) rfl).sl_len
      refine lex.pure (v := .int .i64 (y54.length : Int)) (pu_len (A := A219) (n := y54.length) (m := c221) Try.underlying41 rfl) ?_
      refine lex.pure (v := .int .i64 0) (pu_move rfl) ?_
      refine lex.nil ?_
      refine hK207 _ _ ?_
      refine Wc.fresh fun E226 hE => ?_
      have e2 : E226 2 = .pointer (some ⟨g6, 0, none⟩) := (congrFun hE 2).trans e2
      have e3 : E226 3 = .int .i64 0 := (congrFun hE 3).trans e3
      have e4 : E226 4 = .slice A12 y10.1.length c14 := (congrFun hE 4).trans e4
      have e6 : E226 6 = .pointer (some ⟨g194, 0, none⟩) := (congrFun hE 6).trans rfl
      have e30 : E226 30 = .slice A219 y54.length c221 := (congrFun hE 30).trans rfl
      have e31 : E226 31 = .int .i64 (y54.length : Int) := (congrFun hE 31).trans rfl
      have e32 : E226 32 = .int .i64 0 := (congrFun hE 32).trans rfl
      clear hE
      obtain ⟨o64, hl0, hb⟩ := bd hb
      refine Wc.cut (fun E wv => ∃ (v32_0 : Int) (qf38_0 : List Int), E 2 = .pointer (some ⟨g6, 0, none⟩) ∧ E 3 = .int .i64 0 ∧ E 4 = .slice A12 y10.1.length c14 ∧ E 6 = .pointer (some ⟨g194, 0, none⟩) ∧ I64 v32_0 ∧ Cx (fun _ => False) O0 w wv [.box g6 48 [.int .i64 0, .slice none 0 0, .slice none 0 0], .own 27 (.sl (.int .i64)) (.slice A12 y10.1.length c14) y10.1, .box g194 48 [.int .i64 b_0_0, .slice A199 (((List.replicate b_0_0.toNat (0 : Int))).length) c200, .slice none 0 0], .own 3 (.int .i64) (.slice A199 (((List.replicate b_0_0.toNat (0 : Int))).length) c200) qf38_0] ∧ (((loopN n (F.artin_Group_b2 n y10) (0, ([] : List (List Int)))).bind fun o124 => match o124 with     | (v52_2, kf41_2_2) => some (b_0_0, qf38_0, kf41_2_2, 0)) : Option (Int × (List Int) × (List (List Int)) × Int)) = some r) (fun K228 hK228 => ?_) ?_
      · refine Wc.block ?_
        refine Wc.loop (fun m E wv => ∃ (v32_0 : Int) (qf38_0 : List Int), E 2 = .pointer (some ⟨g6, 0, none⟩) ∧ E 3 = .int .i64 0 ∧ E 4 = .slice A12 y10.1.length c14 ∧ E 6 = .pointer (some ⟨g194, 0, none⟩) ∧ E 30 = .slice A219 y54.length c221 ∧ E 31 = .int .i64 (y54.length : Int) ∧ E 32 = .int .i64 v32_0 ∧ I64 v32_0 ∧ Cx (fun _ => False) O0 w wv [.box g6 48 [.int .i64 0, .slice none 0 0, .slice none 0 0], .own 27 (.sl (.int .i64)) (.slice A12 y10.1.length c14) y10.1, .box g194 48 [.int .i64 b_0_0, .slice A199 (((List.replicate b_0_0.toNat (0 : Int))).length) c200, .slice none 0 0], .own 3 (.int .i64) (.slice A199 (((List.replicate b_0_0.toNat (0 : Int))).length) c200) qf38_0, .own 22 (.sl (.int .i64)) (.slice A219 y54.length c221) y54] ∧ loopN m (F.artin_Group_b0 n y54) (v32_0, qf38_0) = some o64) n ⟨0, (List.replicate b_0_0.toNat (0 : Int)), e2, e3, e4, e6, e30, e31, e32, (show I64 0 from by unfold I64; omega), hC.sel [5, 4, 3, 2, 0] (by decide), hl0⟩ ?_
        have hbK0 := hb
        clear hb hC hl0
        rintro m230 E232 w231 ⟨v32_0, qf38_0, e2, e3, e4, e6, e30, e31, e32, hrv32_0, hC, hl0⟩ K229 hK229
        obtain ⟨m230', o233, rfl, hb, hl0⟩ := loopN_some hl0
        unfold F.artin_Group_b0 at hb
        refine Wc.seq fun K234 hK234 => ?_
        refine Wc.region (by decide +kernel) ?_
        refine lex.pure (v := .bool (decide (v32_0 < (y54.length : Int)))) (pu_lss (k := .i64) (a := v32_0) (b := (y54.length : Int)) e32 e31) ?_
        refine lex.nil ?_
        refine hK234 _ _ ?_
        refine Wc.seq fun K235 hK235 => ?_
        refine Wc.cond (t := (decide (v32_0 < (y54.length : Int)))) (rfl) (fun hq236 => ?_) (fun hq236 => ?_)
        · replace hb := (cT hq236).symm.trans hb
          refine Wc.skip ?_
          refine hK235 _ _ ?_
          refine Wc.seq fun K237 hK237 => ?_
          refine Wc.block ?_
          refine Wc.seq fun K238 hK238 => ?_
          refine Wc.region (by decide +kernel) ?_
          refine lex.pure (v := .int .i64 v32_0) (pu_move e32) ?_
          obtain ⟨x76, h240, hb⟩ := bd hb
          obtain ⟨ad241, cs242, hA, hc243, hr244⟩ := hC.elo (i := 4) rfl (get_some h240).2
          subst hA
          refine lex.pure (v := .pointer (some (ad241.add (v32_0.toNat * 1)))) (pu_index (a := v32_0) Try.underlying41 Try.sizeOf22 e30 e32 (get_some h240).1) ?_
          have hR := hr244
          obtain ⟨A245, c246, rfl, hl247, hc248, _⟩ := hr244
          replace hC := hC.ro hR
          clear hR
          refine lex.val (v := .slice A245 x76.length c246) (ld_one Try.isAgg22 rfl (hc243 0 _ rfl)) ?_
          refine lex.pure (v := .int .i64 v32_0) (pu_assign rfl) ?_
          refine lex.pure (v := .slice A245 x76.length c246) (pu_assign rfl) ?_
          refine lex.nil ?_
          refine hK238 _ _ ?_
          refine Wc.seq fun K250 hK250 => ?_
          refine Wc.region (by decide +kernel) ?_
          refine lex.pure (v := .slice A245 x76.length c246) (pu_move rfl) ?_
          refine lex.pure (v := .int .i64 (x76.length : Int)) (pu_len (A := A245) (n := x76.length) (m := c246) Try.underlying22 rfl) ?_
          refine lex.pure (v := .int .i64 0) (pu_move rfl) ?_
          refine lex.nil ?_
          refine hK250 _ _ ?_
          obtain ⟨o88, hl1, hb⟩ := bd hb
          refine Wc.cut (fun E wv => ∃ (v39_1 : Int) (qf38_1 : List Int), E 2 = .pointer (some ⟨g6, 0, none⟩) ∧ E 3 = .int .i64 0 ∧ E 4 = .slice A12 y10.1.length c14 ∧ E 6 = .pointer (some ⟨g194, 0, none⟩) ∧ E 7 = .int .i64 v32_0 ∧ E 8 = .slice A245 x76.length c246 ∧ E 30 = .slice (some ad241) y54.length c221 ∧ E 31 = .int .i64 (y54.length : Int) ∧ E 32 = .int .i64 v32_0 ∧ E 33 = .bool (decide (v32_0 < (y54.length : Int))) ∧ E 37 = .slice A245 x76.length c246 ∧ E 38 = .int .i64 (x76.length : Int) ∧ E 39 = .int .i64 v39_1 ∧ I64 v39_1 ∧ Cx (fun _ => False) O0 w wv [.box g6 48 [.int .i64 0, .slice none 0 0, .slice none 0 0], .own 27 (.sl (.int .i64)) (.slice A12 y10.1.length c14) y10.1, .box g194 48 [.int .i64 b_0_0, .slice A199 (((List.replicate b_0_0.toNat (0 : Int))).length) c200, .slice none 0 0], .own 3 (.int .i64) (.slice A199 (((List.replicate b_0_0.toNat (0 : Int))).length) c200) qf38_1, .ro (.sl (.int .i64)) [.slice A245 x76.length c246] x76, .own 22 (.sl (.int .i64)) (.slice (some ad241) y54.length c221) y54] ∧ ((chk (v32_0 + 1)).bind fun z117 => some (.inl (z117, qf38_1)) : Option ((Int × (List Int)) ⊕ ((Int × (List Int))))) = some o233) (fun K252 hK252 => ?_) ?_
          · refine Wc.block ?_
            refine Wc.loop (fun m E wv => ∃ (v39_1 : Int) (qf38_1 : List Int), E 2 = .pointer (some ⟨g6, 0, none⟩) ∧ E 3 = .int .i64 0 ∧ E 4 = .slice A12 y10.1.length c14 ∧ E 6 = .pointer (some ⟨g194, 0, none⟩) ∧ E 7 = .int .i64 v32_0 ∧ E 8 = .slice A245 x76.length c246 ∧ E 30 = .slice (some ad241) y54.length c221 ∧ E 31 = .int .i64 (y54.length : Int) ∧ E 32 = .int .i64 v32_0 ∧ E 33 = .bool (decide (v32_0 < (y54.length : Int))) ∧ E 37 = .slice A245 x76.length c246 ∧ E 38 = .int .i64 (x76.length : Int) ∧ E 39 = .int .i64 v39_1 ∧ I64 v39_1 ∧ Cx (fun _ => False) O0 w wv [.box g6 48 [.int .i64 0, .slice none 0 0, .slice none 0 0], .own 27 (.sl (.int .i64)) (.slice A12 y10.1.length c14) y10.1, .box g194 48 [.int .i64 b_0_0, .slice A199 (((List.replicate b_0_0.toNat (0 : Int))).length) c200, .slice none 0 0], .own 3 (.int .i64) (.slice A199 (((List.replicate b_0_0.toNat (0 : Int))).length) c200) qf38_1, .ro (.sl (.int .i64)) [.slice A245 x76.length c246] x76, .own 22 (.sl (.int .i64)) (.slice (some ad241) y54.length c221) y54] ∧ loopN m (F.artin_Group_b1 n v32_0 x76) (v39_1, qf38_1) = some o88) n ⟨0, qf38_0, e2, e3, e4, e6, rfl, rfl, e30, e31, e32, rfl, rfl, rfl, rfl, (show I64 0 from by unfold I64; omega), hC.sel [1, 2, 3, 4, 0, 5] (by decide), hl1⟩ ?_
            have hbK1 := hb
            clear hb hC hl1
            rintro m254 E256 w255 ⟨v39_1, qf38_1, e2, e3, e4, e6, e7, e8, e30, e31, e32, e33, e37, e38, e39, hrv39_1, hC, hl1⟩ K253 hK253
            obtain ⟨m254', o257, rfl, hb, hl1⟩ := loopN_some hl1
            unfold F.artin_Group_b1 at hb
            refine Wc.seq fun K258 hK258 => ?_
            refine Wc.region (by decide +kernel) ?_
            refine lex.pure (v := .bool (decide (v39_1 < (x76.length : Int)))) (pu_lss (k := .i64) (a := v39_1) (b := (x76.length : Int)) e39 e38) ?_
            refine lex.nil ?_
            refine hK258 _ _ ?_
            refine Wc.seq fun K259 hK259 => ?_
            refine Wc.cond (t := (decide (v39_1 < (x76.length : Int)))) (rfl) (fun hq260 => ?_) (fun hq260 => ?_)
            · replace hb := (cT hq260).symm.trans hb
              refine Wc.skip ?_
              refine hK259 _ _ ?_
              refine Wc.seq fun K261 hK261 => ?_
              refine Wc.block ?_
              refine Wc.seq fun K262 hK262 => ?_
              refine Wc.region (by decide +kernel) ?_
              obtain ⟨x100, h264, hb⟩ := bd hb
              obtain ⟨ad265, cs266, hA, hc267, hr268⟩ := hC.elr (i := 4) rfl (get_some h264).2
              subst hA
              refine lex.pure (v := .pointer (some (ad265.add (v39_1.toNat * 1)))) (pu_index (a := v39_1) Try.underlying22 Try.sizeOf3 e37 e39 (get_some h264).1) ?_
              obtain ⟨rfl, hr268'⟩ := hr268
              refine lex.val (v := .int .i64 x100) (ld_one Try.isAgg3 rfl (hc267 0 _ rfl)) ?_
              refine lex.pure (v := .int .i64 x100) (pu_assign rfl) ?_
              refine lex.nil ?_
              refine hK262 _ _ ?_
              refine Wc.region (by decide +kernel) ?_
              refine lex.pure (v := .pointer (some ((⟨g194, 0, none⟩ : Addr).add 1))) (pu_field (sz := 1) Try.underlying48 rfl Try.sizeOf22 (by decide) rfl e6) ?_
              refine lex.val (v := .slice A199 (((List.replicate b_0_0.toNat (0 : Int))).length) c200) (ld_fld (hC.bx (i := 2) rfl) Try.isAgg22 rfl rfl) ?_
              refine lex.pure (v := .int .i64 x100) (pu_move rfl) ?_
              refine lex.pure (v := .int .i64 v32_0) (pu_move e7) ?_
              obtain ⟨x106, h270, hb⟩ := bd hb
              obtain ⟨ad271, cs272, hA, hc273, hr274⟩ := hC.elo (i := 3) rfl (get_some h270).2
              subst hA
              refine lex.pure (v := .pointer (some (ad271.add (x100.toNat * 1)))) (pu_index (a := x100) Try.underlying22 Try.sizeOf3 rfl rfl (by rw [(hC.ow (i := 3) rfl).sl_len.1]; exact (get_some h270).1)) ?_
              refine lex.sk (hC.put (i := 3) rfl rfl Try.sizeOf3 (k := x100.toNat) (a := v32_0) (by have := (get_some h270).1; simp at this ⊢; omega) (⟨rfl, I64.wr hrv32_0⟩) rfl rfl rfl) ?_
              rintro w275 ⟨hC, hF⟩
              refine lex.nil ?_
              refine hK261 _ _ ?_
              refine Wc.region (by decide +kernel) ?_
              obtain ⟨z113, h277, hb⟩ := bd hb
              refine lex.pure (v := .int .i64 z113) (pu_addc (a := v39_1) (b := 1) e39 rfl h277) ?_
              refine lex.pure (v := .int .i64 z113) (pu_move rfl) ?_
              refine lex.nil ?_
              obtain rfl := Option.some.inj hb
              exact hK253 m254' _ _ (Nat.lt_succ_self _) ⟨z113, (qf38_1.set x100.toNat v32_0), e2, e3, e4, e6, e7, e8, e30, e31, e32, e33, e37, e38, rfl, (chk_rng h277), hC.sel [0, 1, 2, 3, 4, 5] (by decide), lN hl1⟩
            · replace hb := (cF hq260).symm.trans hb
              refine Wc.exit rfl ?_
              obtain rfl := Option.some.inj hb
              obtain rfl := (lX hl1).symm
              exact hK252 _ _ ⟨v39_1, qf38_1, e2, e3, e4, e6, e7, e8, e30, e31, e32, e33, e37, e38, e39, hrv39_1, hC.sel [0, 1, 2, 3, 4, 5] (by decide), hbK1⟩
          · clear hb hC hl1
            rintro E279 w278 ⟨v39_1, qf38_1, e2, e3, e4, e6, e7, e8, e30, e31, e32, e33, e37, e38, e39, hrv39_1, hC, hb⟩
            refine hK237 _ _ ?_
            refine Wc.region (by decide +kernel) ?_
            obtain ⟨z117, h281, hb⟩ := bd hb
            refine lex.pure (v := .int .i64 z117) (pu_addc (a := v32_0) (b := 1) e32 rfl h281) ?_
            refine lex.pure (v := .int .i64 z117) (pu_move rfl) ?_
            refine lex.nil ?_
            obtain rfl := Option.some.inj hb
            exact hK229 m230' _ _ (Nat.lt_succ_self _) ⟨z117, qf38_1, e2, e3, e4, e6, e30, e31, rfl, (chk_rng h281), hC.sel [0, 1, 2, 3, 5] (by decide), lN hl0⟩
        · replace hb := (cF hq236).symm.trans hb
          refine Wc.exit rfl ?_
          obtain rfl := Option.some.inj hb
          obtain rfl := (lX hl0).symm
          exact hK228 _ _ ⟨v32_0, qf38_0, e2, e3, e4, e6, hrv32_0, hC.sel [0, 1, 2, 3] (by decide), hbK0⟩
      · clear hb hC hl0
        rintro E283 w282 ⟨v32_0, qf38_0, e2, e3, e4, e6, hrv32_0, hC, hb⟩
        refine hK206 _ _ ?_
        refine Wc.seq fun K284 hK284 => ?_
        refine Wc.seq fun K285 hK285 => ?_
        refine Wc.region (by decide +kernel) ?_
        refine lex.pure (v := .slice A12 y10.1.length c14) (pu_move e4) ?_
        refine lex.pure (v := .int .i64 (y10.1.length : Int)) (pu_len (A := A12) (n := y10.1.length) (m := c14) Try.underlying37 rfl) ?_
        refine lex.pure (v := .int .i64 0) (pu_move rfl) ?_
        refine lex.nil ?_
        refine hK285 _ _ ?_
        replace hC := hC.nil 27 (.sl (.int .i64))
        obtain ⟨o124, hl2, hb⟩ := bd hb
        refine Wc.cut (fun E wv => ∃ (v52_2 : Int) (kf41_2_2 : List (List Int)) (Akf196_2_2 : Option Addr) (mkf196_2_2 ckf196_2_2 : Nat), E 2 = .pointer (some ⟨g6, 0, none⟩) ∧ E 3 = .int .i64 0 ∧ E 6 = .pointer (some ⟨g194, 0, none⟩) ∧ I64 v52_2 ∧ Cx (fun _ => False) O0 w wv [.box g6 48 [.int .i64 0, .slice none 0 0, .slice none 0 0], .box g194 48 [.int .i64 b_0_0, .slice A199 (((List.replicate b_0_0.toNat (0 : Int))).length) c200, .slice Akf196_2_2 mkf196_2_2 ckf196_2_2], .own 3 (.int .i64) (.slice A199 (((List.replicate b_0_0.toNat (0 : Int))).length) c200) qf38_0, .own 27 (.sl (.int .i64)) (.slice Akf196_2_2 mkf196_2_2 ckf196_2_2) kf41_2_2] ∧ (some (b_0_0, qf38_0, kf41_2_2, 0) : Option (Int × (List Int) × (List (List Int)) × Int)) = some r) (fun K288 hK288 => ?_) ?_
        · refine Wc.block ?_
          refine Wc.loop (fun m E wv => ∃ (v52_2 : Int) (kf41_2_2 : List (List Int)) (Akf196_2_2 : Option Addr) (mkf196_2_2 ckf196_2_2 : Nat), E 2 = .pointer (some ⟨g6, 0, none⟩) ∧ E 3 = .int .i64 0 ∧ E 6 = .pointer (some ⟨g194, 0, none⟩) ∧ E 50 = .slice A12 y10.1.length c14 ∧ E 51 = .int .i64 (y10.1.length : Int) ∧ E 52 = .int .i64 v52_2 ∧ I64 v52_2 ∧ Cx (fun _ => False) O0 w wv [.box g6 48 [.int .i64 0, .slice none 0 0, .slice none 0 0], .box g194 48 [.int .i64 b_0_0, .slice A199 (((List.replicate b_0_0.toNat (0 : Int))).length) c200, .slice Akf196_2_2 mkf196_2_2 ckf196_2_2], .own 3 (.int .i64) (.slice A199 (((List.replicate b_0_0.toNat (0 : Int))).length) c200) qf38_0, .own 27 (.sl (.int .i64)) (.slice Akf196_2_2 mkf196_2_2 ckf196_2_2) kf41_2_2, .own 27 (.sl (.int .i64)) (.slice A12 y10.1.length c14) y10.1] ∧ loopN m (F.artin_Group_b2 n y10) (v52_2, kf41_2_2) = some o124) n ⟨0, ([] : List (List Int)), none, 0, 0, e2, e3, e6, rfl, rfl, rfl, (show I64 0 from by unfold I64; omega), hC.sel [1, 3, 4, 0, 2] (by decide), hl2⟩ ?_
          have hbK2 := hb
          clear hb hC hl2
          rintro m290 E292 w291 ⟨v52_2, kf41_2_2, Akf196_2_2, mkf196_2_2, ckf196_2_2, e2, e3, e6, e50, e51, e52, hrv52_2, hC, hl2⟩ K289 hK289
          obtain ⟨m290', o293, rfl, hb, hl2⟩ := loopN_some hl2
          unfold F.artin_Group_b2 at hb
          obtain ⟨rfl, hlkf196_2_2, hckf196_2_2⟩ := (hC.ow (i := 3) rfl).sl_len
          refine Wc.seq fun K294 hK294 => ?_
          refine Wc.region (by decide +kernel) ?_
          refine lex.pure (v := .bool (decide (v52_2 < (y10.1.length : Int)))) (pu_lss (k := .i64) (a := v52_2) (b := (y10.1.length : Int)) e52 e51) ?_
          refine lex.nil ?_
          refine hK294 _ _ ?_
          refine Wc.seq fun K295 hK295 => ?_
          refine Wc.cond (t := (decide (v52_2 < (y10.1.length : Int)))) (rfl) (fun hq296 => ?_) (fun hq296 => ?_)
          · replace hb := (cT hq296).symm.trans hb
            refine Wc.skip ?_
            refine hK295 _ _ ?_
            refine Wc.seq fun K297 hK297 => ?_
            refine Wc.block ?_
            refine Wc.seq fun K298 hK298 => ?_
            refine Wc.region (by decide +kernel) ?_
            refine lex.pure (v := .int .i64 v52_2) (pu_move e52) ?_
            obtain ⟨x136, h300, hb⟩ := bd hb
            obtain ⟨ad301, cs302, hA, hc303, hr304⟩ := hC.elo (i := 4) rfl (get_some h300).2
            subst hA
            refine lex.pure (v := .pointer (some (ad301.add (v52_2.toNat * 1)))) (pu_index (a := v52_2) Try.underlying37 Try.sizeOf27 e50 e52 (get_some h300).1) ?_
            have hR := hr304
            obtain ⟨A305, c306, rfl, hl307, hc308, _⟩ := hr304
            replace hC := hC.ro hR
            clear hR
            refine lex.val (v := .slice A305 x136.length c306) (ld_one Try.isAgg27 rfl (hc303 0 _ rfl)) ?_
            refine lex.pure (v := .int .i64 v52_2) (pu_assign rfl) ?_
            refine lex.pure (v := .slice A305 x136.length c306) (pu_assign rfl) ?_
            refine lex.nil ?_
            refine hK298 _ _ ?_
            refine Wc.regionMix [] (frm [] [.own 27 (.sl (.int .i64)) (.slice Akf196_2_2 kf41_2_2.length ckf196_2_2) kf41_2_2] [.box g194 48 [.int .i64 b_0_0, .slice A199 (((List.replicate b_0_0.toNat (0 : Int))).length) c200, .slice Akf196_2_2 kf41_2_2.length ckf196_2_2]]) (fun _ => rfl) mixed (by decide +kernel) (by decide +kernel) fun w311 hw310 => ?_
            replace hC := hC.step (Fr.of_drew hw310)
            have hM := Fr.refl (fun k => k ∈ blocks [.own 27 (.sl (.int .i64)) (.slice Akf196_2_2 kf41_2_2.length ckf196_2_2) kf41_2_2]) w311
            clear hw310
            have hS := hC
            have hBFf196_2_2 : Beside [.own 27 (.sl (.int .i64)) (.slice Akf196_2_2 kf41_2_2.length ckf196_2_2) kf41_2_2] w311 (.slice Akf196_2_2 kf41_2_2.length ckf196_2_2) := Beside.of (i := 0) rfl
            have hD : Fr (fun k => k ∈ blocks ([.own 27 (.sl (.int .i64)) (.slice Akf196_2_2 kf41_2_2.length ckf196_2_2) kf41_2_2] ++ [.box g194 48 [.int .i64 b_0_0, .slice A199 (((List.replicate b_0_0.toNat (0 : Int))).length) c200, .slice Akf196_2_2 kf41_2_2.length ckf196_2_2]])) w311 w311 := hM.wide
            have hUFf196_2_2 : Beside ([.own 27 (.sl (.int .i64)) (.slice Akf196_2_2 kf41_2_2.length ckf196_2_2) kf41_2_2] ++ [.box g194 48 [.int .i64 b_0_0, .slice A199 (((List.replicate b_0_0.toNat (0 : Int))).length) c200, .slice Akf196_2_2 kf41_2_2.length ckf196_2_2]]) w311 (.slice Akf196_2_2 kf41_2_2.length ckf196_2_2) := Beside.of (i := 0) rfl
            have hUf196 : g194 < w311.heap.size → g194 ∈ blocks ([.own 27 (.sl (.int .i64)) (.slice Akf196_2_2 kf41_2_2.length ckf196_2_2) kf41_2_2] ++ [.box g194 48 [.int .i64 b_0_0, .slice A199 (((List.replicate b_0_0.toNat (0 : Int))).length) c200, .slice Akf196_2_2 kf41_2_2.length ckf196_2_2]]) := fun _ => box_in (i := 1) rfl
            refine mixE.pure (v := .pointer (some ((⟨g194, 0, none⟩ : Addr).add 2))) (pu_field (sz := 1) Try.underlying48 rfl Try.sizeOf37 (by decide) rfl e6) ?_
            refine mixE.load hM (v := .slice Akf196_2_2 kf41_2_2.length ckf196_2_2) (fun _ hF => ld_fld (hS.bx2 (i := 2) rfl [4] (by decide) hF) Try.isAgg37 rfl rfl) ?_
            refine mixE.pure (v := .slice A305 x136.length c306) (pu_move rfl) ?_
            refine mixE.pure (v := .int .i64 v52_2) (pu_move rfl) ?_
            obtain ⟨z149, h313, hb⟩ := bd hb
            refine mixE.pure (v := .int .i64 z149) (pu_addc (a := v52_2) (b := 1) rfl rfl h313) ?_
            obtain ⟨z151, h315, hb⟩ := bd hb
            refine mixE.pure (v := .int .i64 z151) (pu_negc (a := z149) rfl h315) ?_
            refine mixE.op hM (hC.lit (s := (.int .i64)) (vs := [.int .i64 z151]) (xs := [z151]) Try.underlying27 Try.type3 rfl rfl (Nat.le_of_ble_eq_true rfl) rfl rfl (by simp [Value.cells, Sh.n]) rfl (show Elems _ _ (.int .i64) ([.int .i64 z151] ++ ([])) ([z151] : List Int) from Elems.cons (⟨rfl, I64.wr (chk_rng h315)⟩) (Elems.nil _ _ _))) ?_
            rintro _ w320 ⟨A316, c317, rfl, hl318, hc319, hC, hF, hN⟩
            have hBf321 := Beside.new hM hN
            have hUf321 := Beside.new (hM.wide (H := [.box g194 48 [.int .i64 b_0_0, .slice A199 (((List.replicate b_0_0.toNat (0 : Int))).length) c200, .slice Akf196_2_2 kf41_2_2.length ckf196_2_2]])) hN
            replace hM := hM.none hF
            replace hD := hM.wide (H := [.box g194 48 [.int .i64 b_0_0, .slice A199 (((List.replicate b_0_0.toNat (0 : Int))).length) c200, .slice Akf196_2_2 kf41_2_2.length ckf196_2_2]])
            refine ⟨hM, ?_⟩
            clear hF hN
            replace hC := hC.freeze (i := 0) rfl (hC.own_new (i := 0) rfl)
            refine mixE.op hM (hC.lit (s := (.sl (.int .i64))) (vs := [.slice A305 x136.length c306, .slice A316 ((([z151] : List Int)).length) c317]) (xs := [x136, ([z151] : List Int)]) Try.underlying37 Try.type27 rfl rfl (Nat.le_of_ble_eq_true rfl) rfl rfl (by simp [Value.cells, Sh.n]) rfl (show Elems _ _ (.sl (.int .i64)) ([.slice A305 x136.length c306] ++ ([.slice A316 ((([z151] : List Int)).length) c317] ++ ([]))) ([x136, ([z151] : List Int)] : List (List Int)) from Elems.cons (hC.rd (i := 1) rfl) (Elems.cons (hC.rd (i := 0) rfl) (Elems.nil _ _ _)))) ?_
            rintro _ w326 ⟨A322, c323, rfl, hl324, hc325, hC, hF, hN⟩
            have hBf327 := Beside.new hM hN
            have hUf327 := Beside.new (hM.wide (H := [.box g194 48 [.int .i64 b_0_0, .slice A199 (((List.replicate b_0_0.toNat (0 : Int))).length) c200, .slice Akf196_2_2 kf41_2_2.length ckf196_2_2]])) hN
            replace hM := hM.none hF
            replace hD := hM.wide (H := [.box g194 48 [.int .i64 b_0_0, .slice A199 (((List.replicate b_0_0.toNat (0 : Int))).length) c200, .slice Akf196_2_2 kf41_2_2.length ckf196_2_2]])
            refine ⟨hM, ?_⟩
            clear hF hN
            obtain ⟨y165, h329, hb⟩ := bd hb
            refine mixE.cl hM (⟨_, _, op_call (vs := [.slice A322 ((([x136, ([z151] : List Int)] : List (List Int))).length) c323]) Try.call40 rfl rfl rfl, word_Mul_ok n (hC.lentLt [.slice A322 ((([x136, ([z151] : List Int)] : List (List Int))).length) c323]) ((hC.ow (i := 0) rfl).lend (vs := [.slice A322 ((([x136, ([z151] : List Int)] : List (List Int))).length) c323]) (by simp)) h329⟩) ?_
            rintro _ w334 ⟨A330, m331, c332, rfl, hK⟩
            have hBf333 := Beside.cl (i := 0) hM hK rfl
            have hUf333 := hBf333.wide (H := [.box g194 48 [.int .i64 b_0_0, .slice A199 (((List.replicate b_0_0.toNat (0 : Int))).length) c200, .slice Akf196_2_2 kf41_2_2.length ckf196_2_2]])
            replace hM := hM.none hK.fr
            replace hD := hM.wide (H := [.box g194 48 [.int .i64 b_0_0, .slice A199 (((List.replicate b_0_0.toNat (0 : Int))).length) c200, .slice Akf196_2_2 kf41_2_2.length ckf196_2_2]])
            refine ⟨hM, ?_⟩
            replace hC := hC.mergeF hK rfl
            clear hK
            obtain ⟨rfl, hl335, hc336⟩ := (hC.ow (i := 0) rfl).sl_len
            replace hC := hC.freeze (i := 0) rfl (hC.own_new (i := 0) rfl)
            refine mixE.op hM (hC.lit (s := (.sl (.int .i64))) (vs := [.slice A330 y165.length c332]) (xs := [y165]) Try.underlying37 Try.type27 rfl rfl (Nat.le_of_ble_eq_true rfl) rfl rfl (by simp [Value.cells, Sh.n]) rfl (show Elems _ _ (.sl (.int .i64)) ([.slice A330 y165.length c332] ++ ([])) ([y165] : List (List Int)) from Elems.cons (hC.rd (i := 0) rfl) (Elems.nil _ _ _))) ?_
            rintro _ w341 ⟨A337, c338, rfl, hl339, hc340, hC, hF, hN⟩
            have hBf342 := Beside.new hM hN
            have hUf342 := Beside.new (hM.wide (H := [.box g194 48 [.int .i64 b_0_0, .slice A199 (((List.replicate b_0_0.toNat (0 : Int))).length) c200, .slice Akf196_2_2 kf41_2_2.length ckf196_2_2]])) hN
            replace hM := hM.none hF
            replace hD := hM.wide (H := [.box g194 48 [.int .i64 b_0_0, .slice A199 (((List.replicate b_0_0.toNat (0 : Int))).length) c200, .slice Akf196_2_2 kf41_2_2.length ckf196_2_2]])
            refine ⟨hM, ?_⟩
            clear hF hN
            obtain ⟨u180, h344, hb⟩ := bd hb
            refine mixE.op hM (hC.app (i := 8) (s := (.sl (.int .i64))) (xs := kf41_2_2) (ys := ([y165] : List (List Int))) (m := ((([y165] : List (List Int))).length)) rfl Try.underlying37 Try.underlying37 Try.type27 rfl rfl rfl (hC.srco (i := 0) rfl) rfl rfl (by have := lim_some h344; simp at this ⊢ <;> omega) (by decide)) ?_
            rintro _ w349 ⟨A345, c346, rfl, hl347, hc348, hC, hF, hN⟩
            have hB := hBFf196_2_2
            replace hBFf196_2_2 := hB.app hM hN
            replace hM := hM.beside hB hF
            clear hB
            replace hD := hM.wide (H := [.box g194 48 [.int .i64 b_0_0, .slice A199 (((List.replicate b_0_0.toNat (0 : Int))).length) c200, .slice Akf196_2_2 kf41_2_2.length ckf196_2_2]])
            refine ⟨hM, ?_⟩
            clear hF hN
            refine mixE.pure (v := .pointer (some ((⟨g194, 0, none⟩ : Addr).add 2))) (pu_field (sz := 1) Try.underlying48 rfl Try.sizeOf37 (by decide) rfl e6) ?_
            refine mixE.sk hD (hC.setf (i := 6) (k := 2) (v := .slice A345 ((kf41_2_2 ++ ([y165] : List (List Int))).length) c346) rfl Try.sizeOf37 rfl rfl rfl rfl) ?_
            rintro w350 ⟨hC, hF⟩
            replace hD := hD.besideG hUf196 hF
            clear hF
            refine ⟨hD, ?_⟩
            refine mixE.nil ?_
            clear hS hM
            clear hD
            refine hK297 _ _ ?_
            refine Wc.region (by decide +kernel) ?_
            obtain ⟨z188, h352, hb⟩ := bd hb
            refine lex.pure (v := .int .i64 z188) (pu_addc (a := v52_2) (b := 1) e52 rfl h352) ?_
            refine lex.pure (v := .int .i64 z188) (pu_move rfl) ?_
            refine lex.nil ?_
            obtain rfl := Option.some.inj hb
            exact hK289 m290' _ _ (Nat.lt_succ_self _) ⟨z188, (kf41_2_2 ++ ([y165] : List (List Int))), A345, (kf41_2_2 ++ ([y165] : List (List Int))).length, c346, e2, e3, e6, e50, e51, rfl, (chk_rng h352), hC.sel [5, 6, 7, 8, 9] (by decide), lN hl2⟩
          · replace hb := (cF hq296).symm.trans hb
            refine Wc.exit rfl ?_
            obtain rfl := Option.some.inj hb
            obtain rfl := (lX hl2).symm
            exact hK288 _ _ ⟨v52_2, kf41_2_2, Akf196_2_2, kf41_2_2.length, ckf196_2_2, e2, e3, e6, hrv52_2, hC.sel [0, 1, 2, 3] (by decide), hbK2⟩
        · clear hb hC hl2
          rintro E354 w353 ⟨v52_2, kf41_2_2, Akf196_2_2, mkf196_2_2, ckf196_2_2, e2, e3, e6, hrv52_2, hC, hb⟩
          obtain ⟨rfl, hlkf196_2_2, hckf196_2_2⟩ := (hC.ow (i := 3) rfl).sl_len
          refine hK284 _ _ ?_
          refine Wc.seq fun K355 hK355 => ?_
          refine Wc.region (by decide +kernel) ?_
          refine lex.val (v := .agg #[.int .i64 b_0_0, .slice A199 (((List.replicate b_0_0.toNat (0 : Int))).length) c200, .slice Akf196_2_2 kf41_2_2.length ckf196_2_2]) (ld_blk (hC.bx (i := 1) rfl) Try.isAgg48 Try.sizeOf48 e6) ?_
          refine lex.sk (hC.seta (i := 0) (ds := [.int .i64 b_0_0, .slice A199 (((List.replicate b_0_0.toNat (0 : Int))).length) c200, .slice Akf196_2_2 kf41_2_2.length ckf196_2_2]) rfl Try.type48 rfl rfl rfl e2 rfl) ?_
          rintro w356 ⟨hC, hF⟩
          refine lex.pure (v := .int .i64 0) (pu_assign rfl) ?_
          refine lex.nil ?_
          refine hK355 _ _ ?_
          obtain rfl := Option.some.inj hb
          refine Wc.ret ?_
          refine hKR _ _ ?_
          refine ⟨_, res2 Try.results21 ⟨_, e2, loadVar_blk (hC.bx (i := 0) rfl) Try.isAgg48 Try.sizeOf48⟩ (show RV _ _ _ (.tmp _) (.int .i64 0) from rfl), _, rfl, A199, ((List.replicate b_0_0.toNat (0 : Int))).length, c200, Akf196_2_2, kf41_2_2.length, ckf196_2_2, rfl, hb_0_0, (show I64 0 from by unfold I64; omega), hC.sel [2, 3] (by decide)⟩
end Go.Proofs.Ytlkmcbgkohpmiaa
