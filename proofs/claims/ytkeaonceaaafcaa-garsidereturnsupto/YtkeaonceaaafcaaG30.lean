/- The walks: part 30. -/
import Derived.Test.YtkeaonceaaafcaaS
import Derived.Test.YtkeaonceaaafcaaG0
import Derived.Test.YtkeaonceaaafcaaG23
import Derived.Test.YtkeaonceaaafcaaG27
import Derived.Test.YtkeaonceaaafcaaG29
set_option linter.unusedVariables false
set_option linter.unusedSimpArgs false
namespace Go.Proofs.Ytkeaonceaaafcaa
open Ev
set_option maxRecDepth 100000 in
set_option maxHeartbeats 4000000 in
theorem garside_Word_ok (n : Nat) {w : World} {O0 : List Nat} (hO : ∀ k ∈ O0, k < w.heap.size) {nx_0_0 : Int} (hnx_0_0 : I64 nx_0_0) {nx_0_1 : Int} (hnx_0_1 : I64 nx_0_1) {Anx_0_2 : Option Addr} {mnx_0_2 cnx_0_2 : Nat} {nx_0_2 : List (List Int)} (hnx_0_2 : Rep O0 w (.sl (.sl (.int .i64))) [.slice Anx_0_2 mnx_0_2 cnx_0_2] nx_0_2) {r : Int × (List Int) × Int} (hb : F.garside_Word n nx_0_0 nx_0_1 nx_0_2 = some r) :
    Calls Try.prog 35 #[.agg #[.int .i64 nx_0_0, .int .i64 nx_0_1, .slice Anx_0_2 mnx_0_2 cnx_0_2]] w fun e w' => ∃ v, e = .returned v ∧ ∃ (A1 : Option Addr) (m1 c1 : Nat), v = .tuple #[.agg #[.int .i64 r.1, .slice A1 m1 c1], .int .i64 r.2.2] ∧ I64 r.1 ∧ I64 r.2.2 ∧ Cx (fun _ => False) O0 w w' [.own 3 (.int .i64) (.slice A1 m1 c1) r.2.1] := by
  unfold F.garside_Word at hb
  have hC := Cx.start hO
  replace hC := hC.arg rfl hnx_0_2
  clear hO
  obtain ⟨rfl, hlnx_0_2, hcnx_0_2⟩ := hnx_0_2.sl_len
  refine calls_of_Wc Try.func35 rfl (by rw [Try.ntmps35]; exact Nat.le_of_ble_eq_true rfl) fun KR hKR => ?_
  refine Wc.seq fun K2 hK2 => ?_
  refine Wc.region (by decide +kernel) ?_
  refine lex.op (hC.box (cs := [.int .i64 nx_0_0, .int .i64 nx_0_1, .slice Anx_0_2 nx_0_2.length cnx_0_2]) rfl rfl) ?_
  rintro _ w4 ⟨g3, rfl, hC, hF, hG⟩
  clear hG
  refine lex.op (hC.alloc (cs := [.int .i64 0, .slice none 0 0]) Try.zeroValue24 rfl) ?_
  rintro _ w7 ⟨g6, rfl, hC, hF, hG⟩
  clear hG
  refine lex.pure (v := .int .i64 0) (pu_assign rfl) ?_
  refine lex.nil ?_
  refine hK2 _ _ ?_
  refine Wc.seq fun K9 hK9 => ?_
  refine Wc.seq fun K10 hK10 => ?_
  refine Wc.region (by decide +kernel) ?_
  refine lex.val (v := .agg #[.int .i64 nx_0_0, .int .i64 nx_0_1, .slice Anx_0_2 nx_0_2.length cnx_0_2]) (ld_blk (hC.bx (i := 1) rfl) Try.isAgg28 Try.sizeOf28 rfl) ?_
  obtain ⟨y11, h12, hb⟩ := bd hb
  refine lex.cl (⟨_, _, op_call (vs := [.agg #[.int .i64 nx_0_0, .int .i64 nx_0_1, .slice Anx_0_2 nx_0_2.length cnx_0_2]]) Try.call36 rfl rfl rfl, garside_Valid_ok n hC.lt hnx_0_0 hnx_0_1 (hC.rd (i := 2) rfl) h12⟩) ?_
  rintro _ w13 ⟨rfl, hK⟩
  replace hC := hC.merge hK
  clear hK
  refine lex.pure (v := .bool (!y11)) (pu_not (q := y11) rfl) ?_
  refine lex.nil ?_
  refine hK10 _ _ ?_
  refine Wc.cond (t := (!y11)) (rfl) (fun hq14 => ?_) (fun hq14 => ?_)
  · replace hb := (cT hq14).symm.trans hb
    refine Wc.seq fun K15 hK15 => ?_
    refine Wc.region (by decide +kernel) ?_
    refine lex.pure (v := .agg #[.int .i64 0, .slice none 0 0]) (pu_builds (places := [(0, 1), (1, 1)]) (pv := []) Try.type24 Try.underlying24 rfl (mp_cons Try.type3 (mp_cons Try.type22 mp_nil rfl rfl) rfl rfl) rfl (by simp [Instr.fill, Value.cells])) ?_
    refine lex.sk (hC.seta (i := 0) (ds := [.int .i64 0, .slice none 0 0]) rfl Try.type24 rfl rfl rfl rfl rfl) ?_
    rintro w16 ⟨hC, hF⟩
    refine lex.pure (v := .int .i64 1) (pu_assign rfl) ?_
    refine lex.nil ?_
    refine hK15 _ _ ?_
    replace hC := hC.nil 3 (.int .i64)
    obtain rfl := Option.some.inj hb
    refine Wc.ret ?_
    refine hKR _ _ ?_
    refine ⟨_, res2 Try.results35 ⟨_, rfl, loadVar_blk (hC.bx (i := 1) rfl) Try.isAgg24 Try.sizeOf24⟩ (show RV _ _ _ (.tmp _) (.int .i64 1) from rfl), _, rfl, none, 0, 0, rfl, (show I64 0 from by unfold I64; omega), (show I64 1 from by unfold I64; omega), hC.sel [0] (by decide)⟩
  · replace hb := (cF hq14).symm.trans hb
    refine Wc.skip ?_
    refine hK9 _ _ ?_
    refine Wc.seq fun K18 hK18 => ?_
    refine Wc.regionPlan [14, 16] (frm [14, 16] ([] : List Fact) ([] : List Fact)) (chainP [0, 1, 2, 3] (.alt (chainP [4] (.alt (chainP [5] (chainP [6, 7, 8] .done)) (chainP [7] (chainP [5, 6, 8] .done)))) (chainP [7] (chainP [4, 5, 6, 8] .done)))) (fun _ => rfl) mixed (by decide +kernel) (by decide +kernel) fun w20 hw19 => ?_
    replace hC := hC.step (Fr.of_drew hw19)
    have hM := Fr.refl (fun k => k ∈ blocks ([] : List Fact)) w20
    clear hw19
    have hS := hC
    have hD : Fr (fun k => k ∈ blocks (([] : List Fact) ++ ([] : List Fact))) w20 w20 := hM.wide
    refine mixPE_chain ?_
    refine mixE.pure (v := .pointer (some ((⟨g3, 0, none⟩ : Addr).add 0))) (pu_field (sz := 1) Try.underlying28 rfl Try.sizeOf3 (by decide) rfl rfl) ?_
    refine mixE.steady hD (v := .int .i64 nx_0_0) (fun _ hF => ld_fld (hS.bx2 (i := 1) rfl [] (by decide) hF) Try.isAgg3 rfl rfl) ?_
    refine mixE.pure (v := .pointer (some ((⟨g3, 0, none⟩ : Addr).add 0))) (pu_field (sz := 1) Try.underlying28 rfl Try.sizeOf3 (by decide) rfl rfl) ?_
    refine mixE.steady hD (v := .int .i64 nx_0_0) (fun _ hF => ld_fld (hS.bx2 (i := 1) rfl [] (by decide) hF) Try.isAgg3 rfl rfl) ?_
    refine mixE.nil ?_
    refine mixPE_alt ?_ ?_
    ·
      skip
      refine mixPE_chain ?_
      obtain ⟨y21, h22, hb⟩ := bd hb
      refine mixE.cl hM (⟨_, _, op_call (vs := [.int .i64 nx_0_0]) Try.call39 rfl rfl rfl, garside_halfTwist_ok n hC.lt hnx_0_0 h22⟩) ?_
      rintro _ w27 ⟨A23, m24, c25, rfl, hK⟩
      have hBf26 := Beside.cl (i := 0) hM hK rfl
      have hUf26 := hBf26.wide (H := ([] : List Fact))
      replace hM := hM.none hK.fr
      replace hD := hM.wide (H := ([] : List Fact))
      refine ⟨hM, ?_⟩
      replace hC := hC.merge hK
      clear hK
      obtain ⟨rfl, hl28, hc29⟩ := (hC.ow (i := 0) rfl).sl_len
      refine mixE.nil ?_
      refine mixPE_alt ?_ ?_
      ·
        skip
        refine mixPE_chain ?_
        obtain ⟨y30, h31, hb⟩ := bd hb
        refine mixE.cl hM (⟨_, _, op_call (vs := [.slice A23 y21.length c25]) Try.call55 rfl rfl rfl, garside_letters_ok n (hC.lentLt [.slice A23 y21.length c25]) ((hC.ow (i := 0) rfl).lend (vs := [.slice A23 y21.length c25]) (by simp)) h31⟩) ?_
        rintro _ w36 ⟨A32, m33, c34, rfl, hK⟩
        have hBf35 := Beside.cl (i := 0) hM hK rfl
        have hUf35 := hBf35.wide (H := ([] : List Fact))
        replace hM := hM.none hK.fr
        replace hD := hM.wide (H := ([] : List Fact))
        refine ⟨hM, ?_⟩
        replace hC := hC.mergeF hK rfl
        clear hK
        obtain ⟨rfl, hl37, hc38⟩ := (hC.ow (i := 0) rfl).sl_len
        refine mixE.nil ?_
        refine mixPE_chain ?_
        refine mixE.pure (v := .agg #[.int .i64 nx_0_0, .slice A32 y30.length c34]) (pu_builds (places := [(0, 1), (1, 1)]) (pv := [(0, .int .i64 nx_0_0), (1, .slice A32 y30.length c34)]) Try.type24 Try.underlying24 rfl (mp_cons Try.type3 (mp_cons Try.type22 mp_nil rfl rfl) rfl rfl) rfl (by simp [Instr.fill, Value.cells])) ?_
        refine mixE.op hM (hC.alloc (cs := [.int .i64 0, .slice none 0 0]) Try.zeroValue24 rfl) ?_
        rintro _ w40 ⟨g39, rfl, hC, hF, hG⟩
        have hUf41 : g39 < w20.heap.size → g39 ∈ blocks (([] : List Fact) ++ ([] : List Fact)) := fun h => absurd (Nat.lt_of_lt_of_le h (Nat.le_trans hM.size hG)) (Nat.lt_irrefl _)
        clear hG
        replace hM := hM.none hF
        replace hD := hM.wide (H := ([] : List Fact))
        refine ⟨hM, ?_⟩
        refine mixE.sk hD (hC.seta (i := 0) (ds := [.int .i64 nx_0_0, .slice A32 y30.length c34]) rfl Try.type24 rfl rfl rfl rfl rfl) ?_
        rintro w42 ⟨hC, hF⟩
        replace hD := hD.besideG hUf41 hF
        clear hF
        refine ⟨hD, ?_⟩
        refine mixE.nil ?_
        clear hS hM
        clear hD
        refine hK18 _ _ ?_
        refine Wc.fresh fun E43 hE => ?_
        have e1 : E43 1 = .pointer (some ⟨g3, 0, none⟩) := (congrFun hE 1).trans rfl
        have e2 : E43 2 = .pointer (some ⟨g6, 0, none⟩) := (congrFun hE 2).trans rfl
        have e3 : E43 3 = .int .i64 0 := (congrFun hE 3).trans rfl
        have e4 : E43 4 = .pointer (some ⟨g39, 0, none⟩) := (congrFun hE 4).trans rfl
        clear hE
        refine Wc.seq fun K44 hK44 => ?_
        refine Wc.region (by decide +kernel) ?_
        refine lex.pure (v := .pointer (some ((⟨g3, 0, none⟩ : Addr).add 1))) (pu_field (sz := 1) Try.underlying28 rfl Try.sizeOf3 (by decide) rfl e1) ?_
        refine lex.val (v := .int .i64 nx_0_1) (ld_fld (hC.bx (i := 4) rfl) Try.isAgg3 rfl rfl) ?_
        refine lex.pure (v := .int .i64 nx_0_1) (pu_assign rfl) ?_
        refine lex.nil ?_
        refine hK44 _ _ ?_
        refine Wc.seqJ (fun E wv => ∃ (v5_0 : Int) (bf41_0_0 : Int) (kf41_1_0 : List Int) (Akf41_1_0 : Option Addr) (mkf41_1_0 ckf41_1_0 : Nat), E 1 = .pointer (some ⟨g3, 0, none⟩) ∧ E 2 = .pointer (some ⟨g6, 0, none⟩) ∧ E 3 = .int .i64 0 ∧ E 4 = .pointer (some ⟨g39, 0, none⟩) ∧ E 5 = .int .i64 v5_0 ∧ I64 v5_0 ∧ I64 bf41_0_0 ∧ Cx (fun _ => False) O0 w wv [.box g3 28 [.int .i64 nx_0_0, .int .i64 nx_0_1, .slice Anx_0_2 nx_0_2.length cnx_0_2], .ro (.sl (.sl (.int .i64))) [.slice Anx_0_2 nx_0_2.length cnx_0_2] nx_0_2, .box g6 24 [.int .i64 0, .slice none 0 0], .box g39 24 [.int .i64 bf41_0_0, .slice Akf41_1_0 mkf41_1_0 ckf41_1_0], .own 3 (.int .i64) (.slice Akf41_1_0 mkf41_1_0 ckf41_1_0) kf41_1_0] ∧ F.garside_Word_j0 n nx_0_0 nx_0_2 v5_0 bf41_0_0 kf41_1_0 = some r) (fun K45 hK45 => ?_) ?_
        ·
          skip
          refine Wc.seq fun K46 hK46 => ?_
          refine Wc.region (by decide +kernel) ?_
          refine lex.pure (v := .pointer (some ((⟨g3, 0, none⟩ : Addr).add 1))) (pu_field (sz := 1) Try.underlying28 rfl Try.sizeOf3 (by decide) rfl e1) ?_
          refine lex.val (v := .int .i64 nx_0_1) (ld_fld (hC.bx (i := 4) rfl) Try.isAgg3 rfl rfl) ?_
          refine lex.pure (v := .bool (decide (nx_0_1 < 0))) (pu_lss (k := .i64) (a := nx_0_1) (b := 0) rfl rfl) ?_
          refine lex.nil ?_
          refine hK46 _ _ ?_
          refine Wc.cond (t := (decide (nx_0_1 < 0))) (rfl) (fun hq47 => ?_) (fun hq47 => ?_)
          · replace hb := (cT hq47).symm.trans hb
            refine Wc.regionMix [28] (frm [28] ([] : List Fact) [.box g39 24 [.int .i64 nx_0_0, .slice A32 y30.length c34]]) (fun _ => rfl) mixed (by decide +kernel) (by decide +kernel) fun w49 hw48 => ?_
            replace hC := hC.step (Fr.of_drew hw48)
            have hM := Fr.refl (fun k => k ∈ blocks ([] : List Fact)) w49
            clear hw48
            have hS := hC
            have hD : Fr (fun k => k ∈ blocks (([] : List Fact) ++ [.box g39 24 [.int .i64 nx_0_0, .slice A32 y30.length c34]])) w49 w49 := hM.wide
            have hUf41 : g39 < w49.heap.size → g39 ∈ blocks (([] : List Fact) ++ [.box g39 24 [.int .i64 nx_0_0, .slice A32 y30.length c34]]) := fun _ => box_in (i := 0) rfl
            refine mixE.load hM (v := .agg #[.int .i64 nx_0_0, .slice A32 y30.length c34]) (fun _ hF => ld_blk (hS.bx2 (i := 0) rfl [] (by decide) hF) Try.isAgg24 Try.sizeOf24 e4) ?_
            obtain ⟨y50, h51, hb⟩ := bd hb
            refine mixE.cl hM (⟨_, _, op_call (vs := [.agg #[.int .i64 nx_0_0, .slice A32 y30.length c34]]) Try.call37 rfl rfl rfl, braid_Inverse_ok n (hC.lentLt [.slice A32 y30.length c34]) hnx_0_0 ((hC.ow (i := 1) rfl).lend (vs := [.slice A32 y30.length c34]) (by simp)) h51⟩) ?_
            rintro _ w57 ⟨A53, m54, c55, rfl, hr52, hK⟩
            have hBf56 := Beside.cl (i := 0) hM hK rfl
            have hUf56 := hBf56.wide (H := [.box g39 24 [.int .i64 nx_0_0, .slice A32 y30.length c34]])
            replace hM := hM.none hK.fr
            replace hD := hM.wide (H := [.box g39 24 [.int .i64 nx_0_0, .slice A32 y30.length c34]])
            refine ⟨hM, ?_⟩
            replace hC := hC.mergeF hK rfl
            clear hK
            obtain ⟨rfl, hl58, hc59⟩ := (hC.ow (i := 0) rfl).sl_len
            refine mixE.pure (v := .pointer (some ((⟨g3, 0, none⟩ : Addr).add 1))) (pu_field (sz := 1) Try.underlying28 rfl Try.sizeOf3 (by decide) rfl e1) ?_
            refine mixE.steady hD (v := .int .i64 nx_0_1) (fun _ hF => ld_fld (hS.bx2 (i := 4) rfl [0] (by decide) hF) Try.isAgg3 rfl rfl) ?_
            obtain ⟨z60, h61, hb⟩ := bd hb
            refine mixE.pure (v := .int .i64 z60) (pu_negc (a := nx_0_1) rfl h61) ?_
            refine mixE.sk hD (hC.seta (i := 1) (ds := [.int .i64 y50.1, .slice A53 y50.2.length c55]) rfl Try.type24 rfl rfl rfl e4 rfl) ?_
            rintro w62 ⟨hC, hF⟩
            replace hD := hD.besideG hUf41 hF
            clear hF
            refine ⟨hD, ?_⟩
            refine mixE.pure (v := .int .i64 z60) (pu_assign rfl) ?_
            refine mixE.nil ?_
            clear hS hM
            clear hD
            exact hK45 _ _ ⟨z60, y50.1, y50.2, A53, y50.2.length, c55, e1, e2, e3, e4, rfl, (chk_rng h61), hr52, hC.sel [5, 6, 4, 1, 0] (by decide), hb⟩
          · replace hb := (cF hq47).symm.trans hb
            refine Wc.skip ?_
            exact hK45 _ _ ⟨nx_0_1, nx_0_0, y30, A32, y30.length, c34, e1, e2, e3, e4, rfl, hnx_0_1, hnx_0_0, hC.sel [4, 5, 3, 0, 1] (by decide), hb⟩
        · clear hb hC
          rintro E64 w63 ⟨v5_0, bf41_0_0, kf41_1_0, Akf41_1_0, mkf41_1_0, ckf41_1_0, e1, e2, e3, e4, e5, hrv5_0, hrbf41_0_0, hC, hb⟩
          unfold F.garside_Word_j0 at hb
          obtain ⟨rfl, hlkf41_1_0, hckf41_1_0⟩ := (hC.ow (i := 4) rfl).sl_len
          refine Wc.seq fun K65 hK65 => ?_
          refine Wc.region (by decide +kernel) ?_
          refine lex.pure (v := .pointer (some ((⟨g3, 0, none⟩ : Addr).add 0))) (pu_field (sz := 1) Try.underlying28 rfl Try.sizeOf3 (by decide) rfl e1) ?_
          refine lex.val (v := .int .i64 nx_0_0) (ld_fld (hC.bx (i := 0) rfl) Try.isAgg3 rfl rfl) ?_
          refine lex.pure (v := .agg #[.int .i64 nx_0_0, .slice none 0 0]) (pu_builds (places := [(0, 1), (1, 1)]) (pv := [(0, .int .i64 nx_0_0)]) Try.type24 Try.underlying24 rfl (mp_cons Try.type3 (mp_cons Try.type22 mp_nil rfl rfl) rfl rfl) rfl (by simp [Instr.fill, Value.cells])) ?_
          refine lex.op (hC.alloc (cs := [.int .i64 0, .slice none 0 0]) Try.zeroValue24 rfl) ?_
          rintro _ w67 ⟨g66, rfl, hC, hF, hG⟩
          clear hG
          refine lex.sk (hC.seta (i := 0) (ds := [.int .i64 nx_0_0, .slice none 0 0]) rfl Try.type24 rfl rfl rfl rfl rfl) ?_
          rintro w69 ⟨hC, hF⟩
          refine lex.nil ?_
          refine hK65 _ _ ?_
          refine Wc.seq fun K70 hK70 => ?_
          refine Wc.seq fun K71 hK71 => ?_
          refine Wc.region (by decide +kernel) ?_
          refine lex.pure (v := .int .i64 v5_0) (pu_move e5) ?_
          refine lex.pure (v := .int .i64 0) (pu_move rfl) ?_
          refine lex.nil ?_
          refine hK71 _ _ ?_
          replace hC := hC.nil 3 (.int .i64)
          obtain ⟨o73, hl1, hb⟩ := bd hb
          refine Wc.cut (fun E wv => ∃ (v34_1 : Int) (kf68_1_1 : List Int) (Akf68_1_1 : Option Addr) (mkf68_1_1 ckf68_1_1 : Nat), E 1 = .pointer (some ⟨g3, 0, none⟩) ∧ E 2 = .pointer (some ⟨g6, 0, none⟩) ∧ E 3 = .int .i64 0 ∧ E 6 = .pointer (some ⟨g66, 0, none⟩) ∧ I64 v34_1 ∧ Cx (fun _ => False) O0 w wv [.box g3 28 [.int .i64 nx_0_0, .int .i64 nx_0_1, .slice Anx_0_2 nx_0_2.length cnx_0_2], .ro (.sl (.sl (.int .i64))) [.slice Anx_0_2 nx_0_2.length cnx_0_2] nx_0_2, .box g6 24 [.int .i64 0, .slice none 0 0], .box g66 24 [.int .i64 nx_0_0, .slice Akf68_1_1 mkf68_1_1 ckf68_1_1], .own 3 (.int .i64) (.slice Akf68_1_1 mkf68_1_1 ckf68_1_1) kf68_1_1] ∧ (((loopN n (F.garside_Word_b2 n nx_0_2) (0, kf68_1_1)).bind fun o98 => match o98 with     | (v46_2, kf68_1_2) => cond (decide (200 < (kf68_1_2.length : Int))) (some (0, [], 5)) (some (nx_0_0, kf68_1_2, 0))) : Option (Int × (List Int) × Int)) = some r) (fun K74 hK74 => ?_) ?_
          · refine Wc.block ?_
            refine Wc.loop (fun m E wv => ∃ (v34_1 : Int) (kf68_1_1 : List Int) (Akf68_1_1 : Option Addr) (mkf68_1_1 ckf68_1_1 : Nat), E 1 = .pointer (some ⟨g3, 0, none⟩) ∧ E 2 = .pointer (some ⟨g6, 0, none⟩) ∧ E 3 = .int .i64 0 ∧ E 4 = .pointer (some ⟨g39, 0, none⟩) ∧ E 6 = .pointer (some ⟨g66, 0, none⟩) ∧ E 33 = .int .i64 v5_0 ∧ E 34 = .int .i64 v34_1 ∧ I64 v34_1 ∧ Cx (fun _ => False) O0 w wv [.box g3 28 [.int .i64 nx_0_0, .int .i64 nx_0_1, .slice Anx_0_2 nx_0_2.length cnx_0_2], .ro (.sl (.sl (.int .i64))) [.slice Anx_0_2 nx_0_2.length cnx_0_2] nx_0_2, .box g6 24 [.int .i64 0, .slice none 0 0], .box g39 24 [.int .i64 bf41_0_0, .slice Akf41_1_0 kf41_1_0.length ckf41_1_0], .own 3 (.int .i64) (.slice Akf41_1_0 kf41_1_0.length ckf41_1_0) kf41_1_0, .box g66 24 [.int .i64 nx_0_0, .slice Akf68_1_1 mkf68_1_1 ckf68_1_1], .own 3 (.int .i64) (.slice Akf68_1_1 mkf68_1_1 ckf68_1_1) kf68_1_1] ∧ loopN m (F.garside_Word_b1 n v5_0 kf41_1_0) (v34_1, kf68_1_1) = some o73) n ⟨0, ([] : List Int), none, 0, 0, e1, e2, e3, e4, rfl, rfl, rfl, (show I64 0 from by unfold I64; omega), hC.sel [2, 3, 4, 5, 6, 1, 0] (by decide), hl1⟩ ?_
            have hbK1 := hb
            clear hb hC hl1
            rintro m76 E78 w77 ⟨v34_1, kf68_1_1, Akf68_1_1, mkf68_1_1, ckf68_1_1, e1, e2, e3, e4, e6, e33, e34, hrv34_1, hC, hl1⟩ K75 hK75
            obtain ⟨m76', o79, rfl, hb, hl1⟩ := loopN_some hl1
            unfold F.garside_Word_b1 at hb
            obtain ⟨rfl, hlkf68_1_1, hckf68_1_1⟩ := (hC.ow (i := 6) rfl).sl_len
            refine Wc.seq fun K80 hK80 => ?_
            refine Wc.region (by decide +kernel) ?_
            refine lex.pure (v := .bool (decide (v34_1 < v5_0))) (pu_lss (k := .i64) (a := v34_1) (b := v5_0) e34 e33) ?_
            refine lex.nil ?_
            refine hK80 _ _ ?_
            refine Wc.seq fun K81 hK81 => ?_
            refine Wc.cond (t := (decide (v34_1 < v5_0))) (rfl) (fun hq82 => ?_) (fun hq82 => ?_)
            · replace hb := (cT hq82).symm.trans hb
              refine Wc.skip ?_
              refine hK81 _ _ ?_
              refine Wc.seq fun K83 hK83 => ?_
              refine Wc.block ?_
              refine Wc.region (by decide +kernel) ?_
              refine lex.pure (v := .pointer (some ((⟨g66, 0, none⟩ : Addr).add 1))) (pu_field (sz := 1) Try.underlying24 rfl Try.sizeOf22 (by decide) rfl e6) ?_
              refine lex.val (v := .slice Akf68_1_1 kf68_1_1.length ckf68_1_1) (ld_fld (hC.bx (i := 5) rfl) Try.isAgg22 rfl rfl) ?_
              refine lex.pure (v := .pointer (some ((⟨g39, 0, none⟩ : Addr).add 1))) (pu_field (sz := 1) Try.underlying24 rfl Try.sizeOf22 (by decide) rfl e4) ?_
              refine lex.val (v := .slice Akf41_1_0 kf41_1_0.length ckf41_1_0) (ld_fld (hC.bx (i := 3) rfl) Try.isAgg22 rfl rfl) ?_
              obtain ⟨u84, h85, hb⟩ := bd hb
              refine lex.op (hC.app (i := 6) (s := (.int .i64)) (xs := kf68_1_1) (ys := kf41_1_0) (m := kf41_1_0.length) rfl Try.underlying22 Try.underlying22 Try.type3 rfl rfl rfl (hC.srco (i := 4) rfl) rfl rfl (by have := lim_some h85; simp at this ⊢ <;> omega) (by decide)) ?_
              rintro _ w90 ⟨A86, c87, rfl, hl88, hc89, hC, hF, hN⟩
              clear hF hN
              refine lex.pure (v := .pointer (some ((⟨g66, 0, none⟩ : Addr).add 1))) (pu_field (sz := 1) Try.underlying24 rfl Try.sizeOf22 (by decide) rfl e6) ?_
              refine lex.sk (hC.setf (i := 5) (k := 1) (v := .slice A86 ((kf68_1_1 ++ kf41_1_0).length) c87) rfl Try.sizeOf22 rfl rfl rfl rfl) ?_
              rintro w91 ⟨hC, hF⟩
              refine lex.nil ?_
              refine hK83 _ _ ?_
              refine Wc.region (by decide +kernel) ?_
              obtain ⟨z92, h93, hb⟩ := bd hb
              refine lex.pure (v := .int .i64 z92) (pu_addc (a := v34_1) (b := 1) e34 rfl h93) ?_
              refine lex.pure (v := .int .i64 z92) (pu_move rfl) ?_
              refine lex.nil ?_
              obtain rfl := Option.some.inj hb
              exact hK75 m76' _ _ (Nat.lt_succ_self _) ⟨z92, (kf68_1_1 ++ kf41_1_0), A86, (kf68_1_1 ++ kf41_1_0).length, c87, e1, e2, e3, e4, e6, e33, rfl, (chk_rng h93), hC.sel [0, 1, 2, 3, 4, 5, 6] (by decide), lN hl1⟩
            · replace hb := (cF hq82).symm.trans hb
              refine Wc.exit rfl ?_
              obtain rfl := Option.some.inj hb
              obtain rfl := (lX hl1).symm
              exact hK74 _ _ ⟨v34_1, kf68_1_1, Akf68_1_1, kf68_1_1.length, ckf68_1_1, e1, e2, e3, e6, hrv34_1, hC.sel [0, 1, 2, 5, 6] (by decide), hbK1⟩
          · clear hb hC hl1
            rintro E95 w94 ⟨v34_1, kf68_1_1, Akf68_1_1, mkf68_1_1, ckf68_1_1, e1, e2, e3, e6, hrv34_1, hC, hb⟩
            obtain ⟨rfl, hlkf68_1_1, hckf68_1_1⟩ := (hC.ow (i := 4) rfl).sl_len
            refine hK70 _ _ ?_
            refine Wc.seq fun K96 hK96 => ?_
            refine Wc.seq fun K97 hK97 => ?_
            refine Wc.region (by decide +kernel) ?_
            refine lex.pure (v := .pointer (some ((⟨g3, 0, none⟩ : Addr).add 2))) (pu_field (sz := 1) Try.underlying28 rfl Try.sizeOf26 (by decide) rfl e1) ?_
            refine lex.val (v := .slice Anx_0_2 nx_0_2.length cnx_0_2) (ld_fld (hC.bx (i := 0) rfl) Try.isAgg26 rfl rfl) ?_
            refine lex.pure (v := .int .i64 (nx_0_2.length : Int)) (pu_len (A := Anx_0_2) (n := nx_0_2.length) (m := cnx_0_2) Try.underlying26 rfl) ?_
            refine lex.pure (v := .int .i64 0) (pu_move rfl) ?_
            refine lex.nil ?_
            refine hK97 _ _ ?_
            obtain ⟨o98, hl2, hb⟩ := bd hb
            refine Wc.cut (fun E wv => ∃ (v46_2 : Int) (kf68_1_2 : List Int) (Akf68_1_2 : Option Addr) (mkf68_1_2 ckf68_1_2 : Nat), E 2 = .pointer (some ⟨g6, 0, none⟩) ∧ E 3 = .int .i64 0 ∧ E 6 = .pointer (some ⟨g66, 0, none⟩) ∧ I64 v46_2 ∧ Cx (fun _ => False) O0 w wv [.box g6 24 [.int .i64 0, .slice none 0 0], .box g66 24 [.int .i64 nx_0_0, .slice Akf68_1_2 mkf68_1_2 ckf68_1_2], .own 3 (.int .i64) (.slice Akf68_1_2 mkf68_1_2 ckf68_1_2) kf68_1_2] ∧ (cond (decide (200 < (kf68_1_2.length : Int))) (some (0, [], 5)) (some (nx_0_0, kf68_1_2, 0)) : Option (Int × (List Int) × Int)) = some r) (fun K99 hK99 => ?_) ?_
            · refine Wc.block ?_
              refine Wc.loop (fun m E wv => ∃ (v46_2 : Int) (kf68_1_2 : List Int) (Akf68_1_2 : Option Addr) (mkf68_1_2 ckf68_1_2 : Nat), E 2 = .pointer (some ⟨g6, 0, none⟩) ∧ E 3 = .int .i64 0 ∧ E 6 = .pointer (some ⟨g66, 0, none⟩) ∧ E 44 = .slice Anx_0_2 nx_0_2.length cnx_0_2 ∧ E 45 = .int .i64 (nx_0_2.length : Int) ∧ E 46 = .int .i64 v46_2 ∧ I64 v46_2 ∧ Cx (fun _ => False) O0 w wv [.box g6 24 [.int .i64 0, .slice none 0 0], .box g66 24 [.int .i64 nx_0_0, .slice Akf68_1_2 mkf68_1_2 ckf68_1_2], .own 3 (.int .i64) (.slice Akf68_1_2 mkf68_1_2 ckf68_1_2) kf68_1_2, .ro (.sl (.sl (.int .i64))) [.slice Anx_0_2 nx_0_2.length cnx_0_2] nx_0_2] ∧ loopN m (F.garside_Word_b2 n nx_0_2) (v46_2, kf68_1_2) = some o98) n ⟨0, kf68_1_1, Akf68_1_1, kf68_1_1.length, ckf68_1_1, e2, e3, e6, rfl, rfl, rfl, (show I64 0 from by unfold I64; omega), hC.sel [2, 3, 4, 1] (by decide), hl2⟩ ?_
              have hbK2 := hb
              clear hb hC hl2
              rintro m101 E103 w102 ⟨v46_2, kf68_1_2, Akf68_1_2, mkf68_1_2, ckf68_1_2, e2, e3, e6, e44, e45, e46, hrv46_2, hC, hl2⟩ K100 hK100
              obtain ⟨m101', o104, rfl, hb, hl2⟩ := loopN_some hl2
              unfold F.garside_Word_b2 at hb
              obtain ⟨rfl, hlkf68_1_2, hckf68_1_2⟩ := (hC.ow (i := 2) rfl).sl_len
              refine Wc.seq fun K105 hK105 => ?_
              refine Wc.region (by decide +kernel) ?_
              refine lex.pure (v := .bool (decide (v46_2 < (nx_0_2.length : Int)))) (pu_lss (k := .i64) (a := v46_2) (b := (nx_0_2.length : Int)) e46 e45) ?_
              refine lex.nil ?_
              refine hK105 _ _ ?_
              refine Wc.seq fun K106 hK106 => ?_
              refine Wc.cond (t := (decide (v46_2 < (nx_0_2.length : Int)))) (rfl) (fun hq107 => ?_) (fun hq107 => ?_)
              · replace hb := (cT hq107).symm.trans hb
                refine Wc.skip ?_
                refine hK106 _ _ ?_
                refine Wc.seq fun K108 hK108 => ?_
                refine Wc.block ?_
                refine Wc.seq fun K109 hK109 => ?_
                refine Wc.region (by decide +kernel) ?_
                obtain ⟨x110, h111, hb⟩ := bd hb
                obtain ⟨ad112, cs113, hA, hc114, hr115⟩ := hC.elr (i := 3) rfl (get_some h111).2
                subst hA
                refine lex.pure (v := .pointer (some (ad112.add (v46_2.toNat * 1)))) (pu_index (a := v46_2) Try.underlying26 Try.sizeOf43 e44 e46 (get_some h111).1) ?_
                have hR := hr115
                obtain ⟨A116, c117, rfl, hl118, hc119, _⟩ := hr115
                replace hC := hC.ro hR
                clear hR
                refine lex.val (v := .slice A116 x110.length c117) (ld_one Try.isAgg43 rfl (hc114 0 _ rfl)) ?_
                refine lex.pure (v := .slice A116 x110.length c117) (pu_assign rfl) ?_
                refine lex.nil ?_
                refine hK109 _ _ ?_
                refine Wc.regionMix [] (frm [] [.own 3 (.int .i64) (.slice Akf68_1_2 kf68_1_2.length ckf68_1_2) kf68_1_2] [.box g66 24 [.int .i64 nx_0_0, .slice Akf68_1_2 kf68_1_2.length ckf68_1_2]]) (fun _ => rfl) mixed (by decide +kernel) (by decide +kernel) fun w122 hw121 => ?_
                replace hC := hC.step (Fr.of_drew hw121)
                have hM := Fr.refl (fun k => k ∈ blocks [.own 3 (.int .i64) (.slice Akf68_1_2 kf68_1_2.length ckf68_1_2) kf68_1_2]) w122
                clear hw121
                have hS := hC
                have hBFf68_1_2 : Beside [.own 3 (.int .i64) (.slice Akf68_1_2 kf68_1_2.length ckf68_1_2) kf68_1_2] w122 (.slice Akf68_1_2 kf68_1_2.length ckf68_1_2) := Beside.of (i := 0) rfl
                have hD : Fr (fun k => k ∈ blocks ([.own 3 (.int .i64) (.slice Akf68_1_2 kf68_1_2.length ckf68_1_2) kf68_1_2] ++ [.box g66 24 [.int .i64 nx_0_0, .slice Akf68_1_2 kf68_1_2.length ckf68_1_2]])) w122 w122 := hM.wide
                have hUFf68_1_2 : Beside ([.own 3 (.int .i64) (.slice Akf68_1_2 kf68_1_2.length ckf68_1_2) kf68_1_2] ++ [.box g66 24 [.int .i64 nx_0_0, .slice Akf68_1_2 kf68_1_2.length ckf68_1_2]]) w122 (.slice Akf68_1_2 kf68_1_2.length ckf68_1_2) := Beside.of (i := 0) rfl
                have hUf68 : g66 < w122.heap.size → g66 ∈ blocks ([.own 3 (.int .i64) (.slice Akf68_1_2 kf68_1_2.length ckf68_1_2) kf68_1_2] ++ [.box g66 24 [.int .i64 nx_0_0, .slice Akf68_1_2 kf68_1_2.length ckf68_1_2]]) := fun _ => box_in (i := 1) rfl
                refine mixE.pure (v := .pointer (some ((⟨g66, 0, none⟩ : Addr).add 1))) (pu_field (sz := 1) Try.underlying24 rfl Try.sizeOf22 (by decide) rfl e6) ?_
                refine mixE.load hM (v := .slice Akf68_1_2 kf68_1_2.length ckf68_1_2) (fun _ hF => ld_fld (hS.bx2 (i := 2) rfl [3] (by decide) hF) Try.isAgg22 rfl rfl) ?_
                refine mixE.pure (v := .slice A116 x110.length c117) (pu_move rfl) ?_
                obtain ⟨y123, h124, hb⟩ := bd hb
                refine mixE.cl hM (⟨_, _, op_call (vs := [.slice A116 x110.length c117]) Try.call55 rfl rfl rfl, garside_letters_ok n hC.lt (hC.rd (i := 0) rfl) h124⟩) ?_
                rintro _ w129 ⟨A125, m126, c127, rfl, hK⟩
                have hBf128 := Beside.cl (i := 0) hM hK rfl
                have hUf128 := hBf128.wide (H := [.box g66 24 [.int .i64 nx_0_0, .slice Akf68_1_2 kf68_1_2.length ckf68_1_2]])
                replace hM := hM.none hK.fr
                replace hD := hM.wide (H := [.box g66 24 [.int .i64 nx_0_0, .slice Akf68_1_2 kf68_1_2.length ckf68_1_2]])
                refine ⟨hM, ?_⟩
                replace hC := hC.merge hK
                clear hK
                obtain ⟨rfl, hl130, hc131⟩ := (hC.ow (i := 0) rfl).sl_len
                obtain ⟨u132, h133, hb⟩ := bd hb
                refine mixE.op hM (hC.app (i := 4) (s := (.int .i64)) (xs := kf68_1_2) (ys := y123) (m := y123.length) rfl Try.underlying22 Try.underlying22 Try.type3 rfl rfl rfl (hC.srco (i := 0) rfl) rfl rfl (by have := lim_some h133; simp at this ⊢ <;> omega) (by decide)) ?_
                rintro _ w138 ⟨A134, c135, rfl, hl136, hc137, hC, hF, hN⟩
                have hB := hBFf68_1_2
                replace hBFf68_1_2 := hB.app hM hN
                replace hM := hM.beside hB hF
                clear hB
                replace hD := hM.wide (H := [.box g66 24 [.int .i64 nx_0_0, .slice Akf68_1_2 kf68_1_2.length ckf68_1_2]])
                refine ⟨hM, ?_⟩
                clear hF hN
                refine mixE.pure (v := .pointer (some ((⟨g66, 0, none⟩ : Addr).add 1))) (pu_field (sz := 1) Try.underlying24 rfl Try.sizeOf22 (by decide) rfl e6) ?_
                refine mixE.sk hD (hC.setf (i := 3) (k := 1) (v := .slice A134 ((kf68_1_2 ++ y123).length) c135) rfl Try.sizeOf22 rfl rfl rfl rfl) ?_
                rintro w139 ⟨hC, hF⟩
                replace hD := hD.besideG hUf68 hF
                clear hF
                refine ⟨hD, ?_⟩
                refine mixE.nil ?_
                clear hS hM
                clear hD
                refine hK108 _ _ ?_
                refine Wc.region (by decide +kernel) ?_
                obtain ⟨z140, h141, hb⟩ := bd hb
                refine lex.pure (v := .int .i64 z140) (pu_addc (a := v46_2) (b := 1) e46 rfl h141) ?_
                refine lex.pure (v := .int .i64 z140) (pu_move rfl) ?_
                refine lex.nil ?_
                obtain rfl := Option.some.inj hb
                exact hK100 m101' _ _ (Nat.lt_succ_self _) ⟨z140, (kf68_1_2 ++ y123), A134, (kf68_1_2 ++ y123).length, c135, e2, e3, e6, e44, e45, rfl, (chk_rng h141), hC.sel [2, 3, 4, 5] (by decide), lN hl2⟩
              · replace hb := (cF hq107).symm.trans hb
                refine Wc.exit rfl ?_
                obtain rfl := Option.some.inj hb
                obtain rfl := (lX hl2).symm
                exact hK99 _ _ ⟨v46_2, kf68_1_2, Akf68_1_2, kf68_1_2.length, ckf68_1_2, e2, e3, e6, hrv46_2, hC.sel [0, 1, 2] (by decide), hbK2⟩
            · clear hb hC hl2
              rintro E143 w142 ⟨v46_2, kf68_1_2, Akf68_1_2, mkf68_1_2, ckf68_1_2, e2, e3, e6, hrv46_2, hC, hb⟩
              obtain ⟨rfl, hlkf68_1_2, hckf68_1_2⟩ := (hC.ow (i := 2) rfl).sl_len
              refine hK96 _ _ ?_
              refine Wc.seq fun K144 hK144 => ?_
              refine Wc.seq fun K145 hK145 => ?_
              refine Wc.region (by decide +kernel) ?_
              refine lex.pure (v := .pointer (some ((⟨g66, 0, none⟩ : Addr).add 1))) (pu_field (sz := 1) Try.underlying24 rfl Try.sizeOf22 (by decide) rfl e6) ?_
              refine lex.val (v := .slice Akf68_1_2 kf68_1_2.length ckf68_1_2) (ld_fld (hC.bx (i := 1) rfl) Try.isAgg22 rfl rfl) ?_
              refine lex.pure (v := .int .i64 (kf68_1_2.length : Int)) (pu_len (A := Akf68_1_2) (n := kf68_1_2.length) (m := ckf68_1_2) Try.underlying22 rfl) ?_
              refine lex.pure (v := .bool (decide (200 < (kf68_1_2.length : Int)))) (pu_gtr (k := .i64) (a := (kf68_1_2.length : Int)) (b := 200) rfl rfl) ?_
              refine lex.nil ?_
              refine hK145 _ _ ?_
              refine Wc.cond (t := (decide (200 < (kf68_1_2.length : Int)))) (rfl) (fun hq146 => ?_) (fun hq146 => ?_)
              · replace hb := (cT hq146).symm.trans hb
                refine Wc.seq fun K147 hK147 => ?_
                refine Wc.region (by decide +kernel) ?_
                refine lex.pure (v := .agg #[.int .i64 0, .slice none 0 0]) (pu_builds (places := [(0, 1), (1, 1)]) (pv := []) Try.type24 Try.underlying24 rfl (mp_cons Try.type3 (mp_cons Try.type22 mp_nil rfl rfl) rfl rfl) rfl (by simp [Instr.fill, Value.cells])) ?_
                refine lex.sk (hC.seta (i := 0) (ds := [.int .i64 0, .slice none 0 0]) rfl Try.type24 rfl rfl rfl e2 rfl) ?_
                rintro w148 ⟨hC, hF⟩
                refine lex.pure (v := .int .i64 5) (pu_assign rfl) ?_
                refine lex.nil ?_
                refine hK147 _ _ ?_
                replace hC := hC.nil 3 (.int .i64)
                obtain rfl := Option.some.inj hb
                refine Wc.ret ?_
                refine hKR _ _ ?_
                refine ⟨_, res2 Try.results35 ⟨_, e2, loadVar_blk (hC.bx (i := 1) rfl) Try.isAgg24 Try.sizeOf24⟩ (show RV _ _ _ (.tmp _) (.int .i64 5) from rfl), _, rfl, none, 0, 0, rfl, (show I64 0 from by unfold I64; omega), (show I64 5 from by unfold I64; omega), hC.sel [0] (by decide)⟩
              · replace hb := (cF hq146).symm.trans hb
                refine Wc.skip ?_
                refine hK144 _ _ ?_
                refine Wc.seq fun K150 hK150 => ?_
                refine Wc.region (by decide +kernel) ?_
                refine lex.val (v := .agg #[.int .i64 nx_0_0, .slice Akf68_1_2 kf68_1_2.length ckf68_1_2]) (ld_blk (hC.bx (i := 1) rfl) Try.isAgg24 Try.sizeOf24 e6) ?_
                refine lex.sk (hC.seta (i := 0) (ds := [.int .i64 nx_0_0, .slice Akf68_1_2 kf68_1_2.length ckf68_1_2]) rfl Try.type24 rfl rfl rfl e2 rfl) ?_
                rintro w151 ⟨hC, hF⟩
                refine lex.pure (v := .int .i64 0) (pu_assign rfl) ?_
                refine lex.nil ?_
                refine hK150 _ _ ?_
                obtain rfl := Option.some.inj hb
                refine Wc.ret ?_
                refine hKR _ _ ?_
                refine ⟨_, res2 Try.results35 ⟨_, e2, loadVar_blk (hC.bx (i := 0) rfl) Try.isAgg24 Try.sizeOf24⟩ (show RV _ _ _ (.tmp _) (.int .i64 0) from rfl), _, rfl, Akf68_1_2, kf68_1_2.length, ckf68_1_2, rfl, hnx_0_0, (show I64 0 from by unfold I64; omega), hC.sel [2] (by decide)⟩
      ·
        skip
        refine mixPE_chain ?_
        refine mixE.op hM (hC.alloc (cs := [.int .i64 0, .slice none 0 0]) Try.zeroValue24 rfl) ?_
        rintro _ w153 ⟨g152, rfl, hC, hF, hG⟩
        have hUf154 : g152 < w20.heap.size → g152 ∈ blocks (([] : List Fact) ++ ([] : List Fact)) := fun h => absurd (Nat.lt_of_lt_of_le h (Nat.le_trans hM.size hG)) (Nat.lt_irrefl _)
        clear hG
        replace hM := hM.none hF
        replace hD := hM.wide (H := ([] : List Fact))
        refine ⟨hM, ?_⟩
        refine mixE.nil ?_
        refine mixPE_chain ?_
        obtain ⟨y30, h156, hb⟩ := bd hb
        refine mixE.cl hM (⟨_, _, op_call (vs := [.slice A23 y21.length c25]) Try.call55 rfl rfl rfl, garside_letters_ok n (hC.lentLt [.slice A23 y21.length c25]) ((hC.ow (i := 1) rfl).lend (vs := [.slice A23 y21.length c25]) (by simp)) h156⟩) ?_
        rintro _ w161 ⟨A157, m158, c159, rfl, hK⟩
        have hBf160 := Beside.cl (i := 0) hM hK rfl
        have hUf160 := hBf160.wide (H := ([] : List Fact))
        replace hM := hM.none hK.fr
        replace hD := hM.wide (H := ([] : List Fact))
        refine ⟨hM, ?_⟩
        replace hC := hC.mergeF hK rfl
        clear hK
        obtain ⟨rfl, hl162, hc163⟩ := (hC.ow (i := 0) rfl).sl_len
        refine mixE.pure (v := .agg #[.int .i64 nx_0_0, .slice A157 y30.length c159]) (pu_builds (places := [(0, 1), (1, 1)]) (pv := [(0, .int .i64 nx_0_0), (1, .slice A157 y30.length c159)]) Try.type24 Try.underlying24 rfl (mp_cons Try.type3 (mp_cons Try.type22 mp_nil rfl rfl) rfl rfl) rfl (by simp [Instr.fill, Value.cells])) ?_
        refine mixE.sk hD (hC.seta (i := 1) (ds := [.int .i64 nx_0_0, .slice A157 y30.length c159]) rfl Try.type24 rfl rfl rfl rfl rfl) ?_
        rintro w164 ⟨hC, hF⟩
        replace hD := hD.besideG hUf154 hF
        clear hF
        refine ⟨hD, ?_⟩
        refine mixE.nil ?_
        clear hS hM
        clear hD
        refine hK18 _ _ ?_
        refine Wc.fresh fun E165 hE => ?_
        have e1 : E165 1 = .pointer (some ⟨g3, 0, none⟩) := (congrFun hE 1).trans rfl
        have e2 : E165 2 = .pointer (some ⟨g6, 0, none⟩) := (congrFun hE 2).trans rfl
        have e3 : E165 3 = .int .i64 0 := (congrFun hE 3).trans rfl
        have e4 : E165 4 = .pointer (some ⟨g152, 0, none⟩) := (congrFun hE 4).trans rfl
        clear hE
        refine Wc.seq fun K166 hK166 => ?_
        refine Wc.region (by decide +kernel) ?_
        refine lex.pure (v := .pointer (some ((⟨g3, 0, none⟩ : Addr).add 1))) (pu_field (sz := 1) Try.underlying28 rfl Try.sizeOf3 (by decide) rfl e1) ?_
        refine lex.val (v := .int .i64 nx_0_1) (ld_fld (hC.bx (i := 4) rfl) Try.isAgg3 rfl rfl) ?_
        refine lex.pure (v := .int .i64 nx_0_1) (pu_assign rfl) ?_
        refine lex.nil ?_
        refine hK166 _ _ ?_
        refine Wc.seqJ (fun E wv => ∃ (v5_0 : Int) (bf154_0_0 : Int) (kf41_1_0 : List Int) (Akf154_1_0 : Option Addr) (mkf154_1_0 ckf154_1_0 : Nat), E 1 = .pointer (some ⟨g3, 0, none⟩) ∧ E 2 = .pointer (some ⟨g6, 0, none⟩) ∧ E 3 = .int .i64 0 ∧ E 4 = .pointer (some ⟨g152, 0, none⟩) ∧ E 5 = .int .i64 v5_0 ∧ I64 v5_0 ∧ I64 bf154_0_0 ∧ Cx (fun _ => False) O0 w wv [.box g3 28 [.int .i64 nx_0_0, .int .i64 nx_0_1, .slice Anx_0_2 nx_0_2.length cnx_0_2], .ro (.sl (.sl (.int .i64))) [.slice Anx_0_2 nx_0_2.length cnx_0_2] nx_0_2, .box g6 24 [.int .i64 0, .slice none 0 0], .box g152 24 [.int .i64 bf154_0_0, .slice Akf154_1_0 mkf154_1_0 ckf154_1_0], .own 3 (.int .i64) (.slice Akf154_1_0 mkf154_1_0 ckf154_1_0) kf41_1_0] ∧ F.garside_Word_j0 n nx_0_0 nx_0_2 v5_0 bf154_0_0 kf41_1_0 = some r) (fun K167 hK167 => ?_) ?_
        ·
          skip
          refine Wc.seq fun K168 hK168 => ?_
          refine Wc.region (by decide +kernel) ?_
          refine lex.pure (v := .pointer (some ((⟨g3, 0, none⟩ : Addr).add 1))) (pu_field (sz := 1) Try.underlying28 rfl Try.sizeOf3 (by decide) rfl e1) ?_
          refine lex.val (v := .int .i64 nx_0_1) (ld_fld (hC.bx (i := 4) rfl) Try.isAgg3 rfl rfl) ?_
          refine lex.pure (v := .bool (decide (nx_0_1 < 0))) (pu_lss (k := .i64) (a := nx_0_1) (b := 0) rfl rfl) ?_
          refine lex.nil ?_
          refine hK168 _ _ ?_
          refine Wc.cond (t := (decide (nx_0_1 < 0))) (rfl) (fun hq169 => ?_) (fun hq169 => ?_)
          · replace hb := (cT hq169).symm.trans hb
            refine Wc.regionMix [28] (frm [28] ([] : List Fact) [.box g152 24 [.int .i64 nx_0_0, .slice A157 y30.length c159]]) (fun _ => rfl) mixed (by decide +kernel) (by decide +kernel) fun w171 hw170 => ?_
            replace hC := hC.step (Fr.of_drew hw170)
            have hM := Fr.refl (fun k => k ∈ blocks ([] : List Fact)) w171
            clear hw170
            have hS := hC
            have hD : Fr (fun k => k ∈ blocks (([] : List Fact) ++ [.box g152 24 [.int .i64 nx_0_0, .slice A157 y30.length c159]])) w171 w171 := hM.wide
            have hUf154 : g152 < w171.heap.size → g152 ∈ blocks (([] : List Fact) ++ [.box g152 24 [.int .i64 nx_0_0, .slice A157 y30.length c159]]) := fun _ => box_in (i := 0) rfl
            refine mixE.load hM (v := .agg #[.int .i64 nx_0_0, .slice A157 y30.length c159]) (fun _ hF => ld_blk (hS.bx2 (i := 1) rfl [] (by decide) hF) Try.isAgg24 Try.sizeOf24 e4) ?_
            obtain ⟨y50, h173, hb⟩ := bd hb
            refine mixE.cl hM (⟨_, _, op_call (vs := [.agg #[.int .i64 nx_0_0, .slice A157 y30.length c159]]) Try.call37 rfl rfl rfl, braid_Inverse_ok n (hC.lentLt [.slice A157 y30.length c159]) hnx_0_0 ((hC.ow (i := 0) rfl).lend (vs := [.slice A157 y30.length c159]) (by simp)) h173⟩) ?_
            rintro _ w179 ⟨A175, m176, c177, rfl, hr174, hK⟩
            have hBf178 := Beside.cl (i := 0) hM hK rfl
            have hUf178 := hBf178.wide (H := [.box g152 24 [.int .i64 nx_0_0, .slice A157 y30.length c159]])
            replace hM := hM.none hK.fr
            replace hD := hM.wide (H := [.box g152 24 [.int .i64 nx_0_0, .slice A157 y30.length c159]])
            refine ⟨hM, ?_⟩
            replace hC := hC.mergeF hK rfl
            clear hK
            obtain ⟨rfl, hl180, hc181⟩ := (hC.ow (i := 0) rfl).sl_len
            refine mixE.pure (v := .pointer (some ((⟨g3, 0, none⟩ : Addr).add 1))) (pu_field (sz := 1) Try.underlying28 rfl Try.sizeOf3 (by decide) rfl e1) ?_
            refine mixE.steady hD (v := .int .i64 nx_0_1) (fun _ hF => ld_fld (hS.bx2 (i := 4) rfl [1] (by decide) hF) Try.isAgg3 rfl rfl) ?_
            obtain ⟨z60, h183, hb⟩ := bd hb
            refine mixE.pure (v := .int .i64 z60) (pu_negc (a := nx_0_1) rfl h183) ?_
            refine mixE.sk hD (hC.seta (i := 2) (ds := [.int .i64 y50.1, .slice A175 y50.2.length c177]) rfl Try.type24 rfl rfl rfl e4 rfl) ?_
            rintro w184 ⟨hC, hF⟩
            replace hD := hD.besideG hUf154 hF
            clear hF
            refine ⟨hD, ?_⟩
            refine mixE.pure (v := .int .i64 z60) (pu_assign rfl) ?_
            refine mixE.nil ?_
            clear hS hM
            clear hD
            exact hK167 _ _ ⟨z60, y50.1, y50.2, A175, y50.2.length, c177, e1, e2, e3, e4, rfl, (chk_rng h183), hr174, hC.sel [5, 6, 4, 2, 0] (by decide), hb⟩
          · replace hb := (cF hq169).symm.trans hb
            refine Wc.skip ?_
            exact hK167 _ _ ⟨nx_0_1, nx_0_0, y30, A157, y30.length, c159, e1, e2, e3, e4, rfl, hnx_0_1, hnx_0_0, hC.sel [4, 5, 3, 1, 0] (by decide), hb⟩
        · clear hb hC
          rintro E186 w185 ⟨v5_0, bf154_0_0, kf41_1_0, Akf154_1_0, mkf154_1_0, ckf154_1_0, e1, e2, e3, e4, e5, hrv5_0, hrbf154_0_0, hC, hb⟩
          unfold F.garside_Word_j0 at hb
          obtain ⟨rfl, hlkf154_1_0, hckf154_1_0⟩ := (hC.ow (i := 4) rfl).sl_len
          refine Wc.seq fun K187 hK187 => ?_
          refine Wc.region (by decide +kernel) ?_
          refine lex.pure (v := .pointer (some ((⟨g3, 0, none⟩ : Addr).add 0))) (pu_field (sz := 1) Try.underlying28 rfl Try.sizeOf3 (by decide) rfl e1) ?_
          refine lex.val (v := .int .i64 nx_0_0) (ld_fld (hC.bx (i := 0) rfl) Try.isAgg3 rfl rfl) ?_
          refine lex.pure (v := .agg #[.int .i64 nx_0_0, .slice none 0 0]) (pu_builds (places := [(0, 1), (1, 1)]) (pv := [(0, .int .i64 nx_0_0)]) Try.type24 Try.underlying24 rfl (mp_cons Try.type3 (mp_cons Try.type22 mp_nil rfl rfl) rfl rfl) rfl (by simp [Instr.fill, Value.cells])) ?_
          refine lex.op (hC.alloc (cs := [.int .i64 0, .slice none 0 0]) Try.zeroValue24 rfl) ?_
          rintro _ w189 ⟨g188, rfl, hC, hF, hG⟩
          clear hG
          refine lex.sk (hC.seta (i := 0) (ds := [.int .i64 nx_0_0, .slice none 0 0]) rfl Try.type24 rfl rfl rfl rfl rfl) ?_
          rintro w191 ⟨hC, hF⟩
          refine lex.nil ?_
          refine hK187 _ _ ?_
          refine Wc.seq fun K192 hK192 => ?_
          refine Wc.seq fun K193 hK193 => ?_
          refine Wc.region (by decide +kernel) ?_
          refine lex.pure (v := .int .i64 v5_0) (pu_move e5) ?_
          refine lex.pure (v := .int .i64 0) (pu_move rfl) ?_
          refine lex.nil ?_
          refine hK193 _ _ ?_
          replace hC := hC.nil 3 (.int .i64)
          obtain ⟨o73, hl1, hb⟩ := bd hb
          refine Wc.cut (fun E wv => ∃ (v34_1 : Int) (kf68_1_1 : List Int) (Akf190_1_1 : Option Addr) (mkf190_1_1 ckf190_1_1 : Nat), E 1 = .pointer (some ⟨g3, 0, none⟩) ∧ E 2 = .pointer (some ⟨g6, 0, none⟩) ∧ E 3 = .int .i64 0 ∧ E 6 = .pointer (some ⟨g188, 0, none⟩) ∧ I64 v34_1 ∧ Cx (fun _ => False) O0 w wv [.box g3 28 [.int .i64 nx_0_0, .int .i64 nx_0_1, .slice Anx_0_2 nx_0_2.length cnx_0_2], .ro (.sl (.sl (.int .i64))) [.slice Anx_0_2 nx_0_2.length cnx_0_2] nx_0_2, .box g6 24 [.int .i64 0, .slice none 0 0], .box g188 24 [.int .i64 nx_0_0, .slice Akf190_1_1 mkf190_1_1 ckf190_1_1], .own 3 (.int .i64) (.slice Akf190_1_1 mkf190_1_1 ckf190_1_1) kf68_1_1] ∧ (((loopN n (F.garside_Word_b2 n nx_0_2) (0, kf68_1_1)).bind fun o98 => match o98 with     | (v46_2, kf68_1_2) => cond (decide (200 < (kf68_1_2.length : Int))) (some (0, [], 5)) (some (nx_0_0, kf68_1_2, 0))) : Option (Int × (List Int) × Int)) = some r) (fun K196 hK196 => ?_) ?_
          · refine Wc.block ?_
            refine Wc.loop (fun m E wv => ∃ (v34_1 : Int) (kf68_1_1 : List Int) (Akf190_1_1 : Option Addr) (mkf190_1_1 ckf190_1_1 : Nat), E 1 = .pointer (some ⟨g3, 0, none⟩) ∧ E 2 = .pointer (some ⟨g6, 0, none⟩) ∧ E 3 = .int .i64 0 ∧ E 4 = .pointer (some ⟨g152, 0, none⟩) ∧ E 6 = .pointer (some ⟨g188, 0, none⟩) ∧ E 33 = .int .i64 v5_0 ∧ E 34 = .int .i64 v34_1 ∧ I64 v34_1 ∧ Cx (fun _ => False) O0 w wv [.box g3 28 [.int .i64 nx_0_0, .int .i64 nx_0_1, .slice Anx_0_2 nx_0_2.length cnx_0_2], .ro (.sl (.sl (.int .i64))) [.slice Anx_0_2 nx_0_2.length cnx_0_2] nx_0_2, .box g6 24 [.int .i64 0, .slice none 0 0], .box g152 24 [.int .i64 bf154_0_0, .slice Akf154_1_0 kf41_1_0.length ckf154_1_0], .own 3 (.int .i64) (.slice Akf154_1_0 kf41_1_0.length ckf154_1_0) kf41_1_0, .box g188 24 [.int .i64 nx_0_0, .slice Akf190_1_1 mkf190_1_1 ckf190_1_1], .own 3 (.int .i64) (.slice Akf190_1_1 mkf190_1_1 ckf190_1_1) kf68_1_1] ∧ loopN m (F.garside_Word_b1 n v5_0 kf41_1_0) (v34_1, kf68_1_1) = some o73) n ⟨0, ([] : List Int), none, 0, 0, e1, e2, e3, e4, rfl, rfl, rfl, (show I64 0 from by unfold I64; omega), hC.sel [2, 3, 4, 5, 6, 1, 0] (by decide), hl1⟩ ?_
            have hbK1 := hb
            clear hb hC hl1
            rintro m198 E200 w199 ⟨v34_1, kf68_1_1, Akf190_1_1, mkf190_1_1, ckf190_1_1, e1, e2, e3, e4, e6, e33, e34, hrv34_1, hC, hl1⟩ K197 hK197
            obtain ⟨m198', o201, rfl, hb, hl1⟩ := loopN_some hl1
            unfold F.garside_Word_b1 at hb
            obtain ⟨rfl, hlkf190_1_1, hckf190_1_1⟩ := (hC.ow (i := 6) rfl).sl_len
            refine Wc.seq fun K202 hK202 => ?_
            refine Wc.region (by decide +kernel) ?_
            refine lex.pure (v := .bool (decide (v34_1 < v5_0))) (pu_lss (k := .i64) (a := v34_1) (b := v5_0) e34 e33) ?_
            refine lex.nil ?_
            refine hK202 _ _ ?_
            refine Wc.seq fun K203 hK203 => ?_
            refine Wc.cond (t := (decide (v34_1 < v5_0))) (rfl) (fun hq204 => ?_) (fun hq204 => ?_)
            · replace hb := (cT hq204).symm.trans hb
              refine Wc.skip ?_
              refine hK203 _ _ ?_
              refine Wc.seq fun K205 hK205 => ?_
              refine Wc.block ?_
              refine Wc.region (by decide +kernel) ?_
              refine lex.pure (v := .pointer (some ((⟨g188, 0, none⟩ : Addr).add 1))) (pu_field (sz := 1) Try.underlying24 rfl Try.sizeOf22 (by decide) rfl e6) ?_
              refine lex.val (v := .slice Akf190_1_1 kf68_1_1.length ckf190_1_1) (ld_fld (hC.bx (i := 5) rfl) Try.isAgg22 rfl rfl) ?_
              refine lex.pure (v := .pointer (some ((⟨g152, 0, none⟩ : Addr).add 1))) (pu_field (sz := 1) Try.underlying24 rfl Try.sizeOf22 (by decide) rfl e4) ?_
              refine lex.val (v := .slice Akf154_1_0 kf41_1_0.length ckf154_1_0) (ld_fld (hC.bx (i := 3) rfl) Try.isAgg22 rfl rfl) ?_
              obtain ⟨u84, h207, hb⟩ := bd hb
              refine lex.op (hC.app (i := 6) (s := (.int .i64)) (xs := kf68_1_1) (ys := kf41_1_0) (m := kf41_1_0.length) rfl Try.underlying22 Try.underlying22 Try.type3 rfl rfl rfl (hC.srco (i := 4) rfl) rfl rfl (by have := lim_some h207; simp at this ⊢ <;> omega) (by decide)) ?_
              rintro _ w212 ⟨A208, c209, rfl, hl210, hc211, hC, hF, hN⟩
              clear hF hN
              refine lex.pure (v := .pointer (some ((⟨g188, 0, none⟩ : Addr).add 1))) (pu_field (sz := 1) Try.underlying24 rfl Try.sizeOf22 (by decide) rfl e6) ?_
              refine lex.sk (hC.setf (i := 5) (k := 1) (v := .slice A208 ((kf68_1_1 ++ kf41_1_0).length) c209) rfl Try.sizeOf22 rfl rfl rfl rfl) ?_
              rintro w213 ⟨hC, hF⟩
              refine lex.nil ?_
              refine hK205 _ _ ?_
              refine Wc.region (by decide +kernel) ?_
              obtain ⟨z92, h215, hb⟩ := bd hb
              refine lex.pure (v := .int .i64 z92) (pu_addc (a := v34_1) (b := 1) e34 rfl h215) ?_
              refine lex.pure (v := .int .i64 z92) (pu_move rfl) ?_
              refine lex.nil ?_
              obtain rfl := Option.some.inj hb
              exact hK197 m198' _ _ (Nat.lt_succ_self _) ⟨z92, (kf68_1_1 ++ kf41_1_0), A208, (kf68_1_1 ++ kf41_1_0).length, c209, e1, e2, e3, e4, e6, e33, rfl, (chk_rng h215), hC.sel [0, 1, 2, 3, 4, 5, 6] (by decide), lN hl1⟩
            · replace hb := (cF hq204).symm.trans hb
              refine Wc.exit rfl ?_
              obtain rfl := Option.some.inj hb
              obtain rfl := (lX hl1).symm
              exact hK196 _ _ ⟨v34_1, kf68_1_1, Akf190_1_1, kf68_1_1.length, ckf190_1_1, e1, e2, e3, e6, hrv34_1, hC.sel [0, 1, 2, 5, 6] (by decide), hbK1⟩
          · clear hb hC hl1
            rintro E217 w216 ⟨v34_1, kf68_1_1, Akf190_1_1, mkf190_1_1, ckf190_1_1, e1, e2, e3, e6, hrv34_1, hC, hb⟩
            obtain ⟨rfl, hlkf190_1_1, hckf190_1_1⟩ := (hC.ow (i := 4) rfl).sl_len
            refine hK192 _ _ ?_
            refine Wc.seq fun K218 hK218 => ?_
            refine Wc.seq fun K219 hK219 => ?_
            refine Wc.region (by decide +kernel) ?_
            refine lex.pure (v := .pointer (some ((⟨g3, 0, none⟩ : Addr).add 2))) (pu_field (sz := 1) Try.underlying28 rfl Try.sizeOf26 (by decide) rfl e1) ?_
            refine lex.val (v := .slice Anx_0_2 nx_0_2.length cnx_0_2) (ld_fld (hC.bx (i := 0) rfl) Try.isAgg26 rfl rfl) ?_
            refine lex.pure (v := .int .i64 (nx_0_2.length : Int)) (pu_len (A := Anx_0_2) (n := nx_0_2.length) (m := cnx_0_2) Try.underlying26 rfl) ?_
            refine lex.pure (v := .int .i64 0) (pu_move rfl) ?_
            refine lex.nil ?_
            refine hK219 _ _ ?_
            obtain ⟨o98, hl2, hb⟩ := bd hb
            refine Wc.cut (fun E wv => ∃ (v46_2 : Int) (kf68_1_2 : List Int) (Akf190_1_2 : Option Addr) (mkf190_1_2 ckf190_1_2 : Nat), E 2 = .pointer (some ⟨g6, 0, none⟩) ∧ E 3 = .int .i64 0 ∧ E 6 = .pointer (some ⟨g188, 0, none⟩) ∧ I64 v46_2 ∧ Cx (fun _ => False) O0 w wv [.box g6 24 [.int .i64 0, .slice none 0 0], .box g188 24 [.int .i64 nx_0_0, .slice Akf190_1_2 mkf190_1_2 ckf190_1_2], .own 3 (.int .i64) (.slice Akf190_1_2 mkf190_1_2 ckf190_1_2) kf68_1_2] ∧ (cond (decide (200 < (kf68_1_2.length : Int))) (some (0, [], 5)) (some (nx_0_0, kf68_1_2, 0)) : Option (Int × (List Int) × Int)) = some r) (fun K221 hK221 => ?_) ?_
            · refine Wc.block ?_
              refine Wc.loop (fun m E wv => ∃ (v46_2 : Int) (kf68_1_2 : List Int) (Akf190_1_2 : Option Addr) (mkf190_1_2 ckf190_1_2 : Nat), E 2 = .pointer (some ⟨g6, 0, none⟩) ∧ E 3 = .int .i64 0 ∧ E 6 = .pointer (some ⟨g188, 0, none⟩) ∧ E 44 = .slice Anx_0_2 nx_0_2.length cnx_0_2 ∧ E 45 = .int .i64 (nx_0_2.length : Int) ∧ E 46 = .int .i64 v46_2 ∧ I64 v46_2 ∧ Cx (fun _ => False) O0 w wv [.box g6 24 [.int .i64 0, .slice none 0 0], .box g188 24 [.int .i64 nx_0_0, .slice Akf190_1_2 mkf190_1_2 ckf190_1_2], .own 3 (.int .i64) (.slice Akf190_1_2 mkf190_1_2 ckf190_1_2) kf68_1_2, .ro (.sl (.sl (.int .i64))) [.slice Anx_0_2 nx_0_2.length cnx_0_2] nx_0_2] ∧ loopN m (F.garside_Word_b2 n nx_0_2) (v46_2, kf68_1_2) = some o98) n ⟨0, kf68_1_1, Akf190_1_1, kf68_1_1.length, ckf190_1_1, e2, e3, e6, rfl, rfl, rfl, (show I64 0 from by unfold I64; omega), hC.sel [2, 3, 4, 1] (by decide), hl2⟩ ?_
              have hbK2 := hb
              clear hb hC hl2
              rintro m223 E225 w224 ⟨v46_2, kf68_1_2, Akf190_1_2, mkf190_1_2, ckf190_1_2, e2, e3, e6, e44, e45, e46, hrv46_2, hC, hl2⟩ K222 hK222
              obtain ⟨m223', o226, rfl, hb, hl2⟩ := loopN_some hl2
              unfold F.garside_Word_b2 at hb
              obtain ⟨rfl, hlkf190_1_2, hckf190_1_2⟩ := (hC.ow (i := 2) rfl).sl_len
              refine Wc.seq fun K227 hK227 => ?_
              refine Wc.region (by decide +kernel) ?_
              refine lex.pure (v := .bool (decide (v46_2 < (nx_0_2.length : Int)))) (pu_lss (k := .i64) (a := v46_2) (b := (nx_0_2.length : Int)) e46 e45) ?_
              refine lex.nil ?_
              refine hK227 _ _ ?_
              refine Wc.seq fun K228 hK228 => ?_
              refine Wc.cond (t := (decide (v46_2 < (nx_0_2.length : Int)))) (rfl) (fun hq229 => ?_) (fun hq229 => ?_)
              · replace hb := (cT hq229).symm.trans hb
                refine Wc.skip ?_
                refine hK228 _ _ ?_
                refine Wc.seq fun K230 hK230 => ?_
                refine Wc.block ?_
                refine Wc.seq fun K231 hK231 => ?_
                refine Wc.region (by decide +kernel) ?_
                obtain ⟨x110, h233, hb⟩ := bd hb
                obtain ⟨ad234, cs235, hA, hc236, hr237⟩ := hC.elr (i := 3) rfl (get_some h233).2
                subst hA
                refine lex.pure (v := .pointer (some (ad234.add (v46_2.toNat * 1)))) (pu_index (a := v46_2) Try.underlying26 Try.sizeOf43 e44 e46 (get_some h233).1) ?_
                have hR := hr237
                obtain ⟨A238, c239, rfl, hl240, hc241, _⟩ := hr237
                replace hC := hC.ro hR
                clear hR
                refine lex.val (v := .slice A238 x110.length c239) (ld_one Try.isAgg43 rfl (hc236 0 _ rfl)) ?_
                refine lex.pure (v := .slice A238 x110.length c239) (pu_assign rfl) ?_
                refine lex.nil ?_
                refine hK231 _ _ ?_
                refine Wc.regionMix [] (frm [] [.own 3 (.int .i64) (.slice Akf190_1_2 kf68_1_2.length ckf190_1_2) kf68_1_2] [.box g188 24 [.int .i64 nx_0_0, .slice Akf190_1_2 kf68_1_2.length ckf190_1_2]]) (fun _ => rfl) mixed (by decide +kernel) (by decide +kernel) fun w244 hw243 => ?_
                replace hC := hC.step (Fr.of_drew hw243)
                have hM := Fr.refl (fun k => k ∈ blocks [.own 3 (.int .i64) (.slice Akf190_1_2 kf68_1_2.length ckf190_1_2) kf68_1_2]) w244
                clear hw243
                have hS := hC
                have hBFf190_1_2 : Beside [.own 3 (.int .i64) (.slice Akf190_1_2 kf68_1_2.length ckf190_1_2) kf68_1_2] w244 (.slice Akf190_1_2 kf68_1_2.length ckf190_1_2) := Beside.of (i := 0) rfl
                have hD : Fr (fun k => k ∈ blocks ([.own 3 (.int .i64) (.slice Akf190_1_2 kf68_1_2.length ckf190_1_2) kf68_1_2] ++ [.box g188 24 [.int .i64 nx_0_0, .slice Akf190_1_2 kf68_1_2.length ckf190_1_2]])) w244 w244 := hM.wide
                have hUFf190_1_2 : Beside ([.own 3 (.int .i64) (.slice Akf190_1_2 kf68_1_2.length ckf190_1_2) kf68_1_2] ++ [.box g188 24 [.int .i64 nx_0_0, .slice Akf190_1_2 kf68_1_2.length ckf190_1_2]]) w244 (.slice Akf190_1_2 kf68_1_2.length ckf190_1_2) := Beside.of (i := 0) rfl
                have hUf190 : g188 < w244.heap.size → g188 ∈ blocks ([.own 3 (.int .i64) (.slice Akf190_1_2 kf68_1_2.length ckf190_1_2) kf68_1_2] ++ [.box g188 24 [.int .i64 nx_0_0, .slice Akf190_1_2 kf68_1_2.length ckf190_1_2]]) := fun _ => box_in (i := 1) rfl
                refine mixE.pure (v := .pointer (some ((⟨g188, 0, none⟩ : Addr).add 1))) (pu_field (sz := 1) Try.underlying24 rfl Try.sizeOf22 (by decide) rfl e6) ?_
                refine mixE.load hM (v := .slice Akf190_1_2 kf68_1_2.length ckf190_1_2) (fun _ hF => ld_fld (hS.bx2 (i := 2) rfl [3] (by decide) hF) Try.isAgg22 rfl rfl) ?_
                refine mixE.pure (v := .slice A238 x110.length c239) (pu_move rfl) ?_
                obtain ⟨y123, h246, hb⟩ := bd hb
                refine mixE.cl hM (⟨_, _, op_call (vs := [.slice A238 x110.length c239]) Try.call55 rfl rfl rfl, garside_letters_ok n hC.lt (hC.rd (i := 0) rfl) h246⟩) ?_
                rintro _ w251 ⟨A247, m248, c249, rfl, hK⟩
                have hBf250 := Beside.cl (i := 0) hM hK rfl
                have hUf250 := hBf250.wide (H := [.box g188 24 [.int .i64 nx_0_0, .slice Akf190_1_2 kf68_1_2.length ckf190_1_2]])
                replace hM := hM.none hK.fr
                replace hD := hM.wide (H := [.box g188 24 [.int .i64 nx_0_0, .slice Akf190_1_2 kf68_1_2.length ckf190_1_2]])
                refine ⟨hM, ?_⟩
                replace hC := hC.merge hK
                clear hK
                obtain ⟨rfl, hl252, hc253⟩ := (hC.ow (i := 0) rfl).sl_len
                obtain ⟨u132, h255, hb⟩ := bd hb
                refine mixE.op hM (hC.app (i := 4) (s := (.int .i64)) (xs := kf68_1_2) (ys := y123) (m := y123.length) rfl Try.underlying22 Try.underlying22 Try.type3 rfl rfl rfl (hC.srco (i := 0) rfl) rfl rfl (by have := lim_some h255; simp at this ⊢ <;> omega) (by decide)) ?_
                rintro _ w260 ⟨A256, c257, rfl, hl258, hc259, hC, hF, hN⟩
                have hB := hBFf190_1_2
                replace hBFf190_1_2 := hB.app hM hN
                replace hM := hM.beside hB hF
                clear hB
                replace hD := hM.wide (H := [.box g188 24 [.int .i64 nx_0_0, .slice Akf190_1_2 kf68_1_2.length ckf190_1_2]])
                refine ⟨hM, ?_⟩
                clear hF hN
                refine mixE.pure (v := .pointer (some ((⟨g188, 0, none⟩ : Addr).add 1))) (pu_field (sz := 1) Try.underlying24 rfl Try.sizeOf22 (by decide) rfl e6) ?_
                refine mixE.sk hD (hC.setf (i := 3) (k := 1) (v := .slice A256 ((kf68_1_2 ++ y123).length) c257) rfl Try.sizeOf22 rfl rfl rfl rfl) ?_
                rintro w261 ⟨hC, hF⟩
                replace hD := hD.besideG hUf190 hF
                clear hF
                refine ⟨hD, ?_⟩
                refine mixE.nil ?_
                clear hS hM
                clear hD
                refine hK230 _ _ ?_
                refine Wc.region (by decide +kernel) ?_
                obtain ⟨z140, h263, hb⟩ := bd hb
                refine lex.pure (v := .int .i64 z140) (pu_addc (a := v46_2) (b := 1) e46 rfl h263) ?_
                refine lex.pure (v := .int .i64 z140) (pu_move rfl) ?_
                refine lex.nil ?_
                obtain rfl := Option.some.inj hb
                exact hK222 m223' _ _ (Nat.lt_succ_self _) ⟨z140, (kf68_1_2 ++ y123), A256, (kf68_1_2 ++ y123).length, c257, e2, e3, e6, e44, e45, rfl, (chk_rng h263), hC.sel [2, 3, 4, 5] (by decide), lN hl2⟩
              · replace hb := (cF hq229).symm.trans hb
                refine Wc.exit rfl ?_
                obtain rfl := Option.some.inj hb
                obtain rfl := (lX hl2).symm
                exact hK221 _ _ ⟨v46_2, kf68_1_2, Akf190_1_2, kf68_1_2.length, ckf190_1_2, e2, e3, e6, hrv46_2, hC.sel [0, 1, 2] (by decide), hbK2⟩
            · clear hb hC hl2
              rintro E265 w264 ⟨v46_2, kf68_1_2, Akf190_1_2, mkf190_1_2, ckf190_1_2, e2, e3, e6, hrv46_2, hC, hb⟩
              obtain ⟨rfl, hlkf190_1_2, hckf190_1_2⟩ := (hC.ow (i := 2) rfl).sl_len
              refine hK218 _ _ ?_
              refine Wc.seq fun K266 hK266 => ?_
              refine Wc.seq fun K267 hK267 => ?_
              refine Wc.region (by decide +kernel) ?_
              refine lex.pure (v := .pointer (some ((⟨g188, 0, none⟩ : Addr).add 1))) (pu_field (sz := 1) Try.underlying24 rfl Try.sizeOf22 (by decide) rfl e6) ?_
              refine lex.val (v := .slice Akf190_1_2 kf68_1_2.length ckf190_1_2) (ld_fld (hC.bx (i := 1) rfl) Try.isAgg22 rfl rfl) ?_
              refine lex.pure (v := .int .i64 (kf68_1_2.length : Int)) (pu_len (A := Akf190_1_2) (n := kf68_1_2.length) (m := ckf190_1_2) Try.underlying22 rfl) ?_
              refine lex.pure (v := .bool (decide (200 < (kf68_1_2.length : Int)))) (pu_gtr (k := .i64) (a := (kf68_1_2.length : Int)) (b := 200) rfl rfl) ?_
              refine lex.nil ?_
              refine hK267 _ _ ?_
              refine Wc.cond (t := (decide (200 < (kf68_1_2.length : Int)))) (rfl) (fun hq268 => ?_) (fun hq268 => ?_)
              · replace hb := (cT hq268).symm.trans hb
                refine Wc.seq fun K269 hK269 => ?_
                refine Wc.region (by decide +kernel) ?_
                refine lex.pure (v := .agg #[.int .i64 0, .slice none 0 0]) (pu_builds (places := [(0, 1), (1, 1)]) (pv := []) Try.type24 Try.underlying24 rfl (mp_cons Try.type3 (mp_cons Try.type22 mp_nil rfl rfl) rfl rfl) rfl (by simp [Instr.fill, Value.cells])) ?_
                refine lex.sk (hC.seta (i := 0) (ds := [.int .i64 0, .slice none 0 0]) rfl Try.type24 rfl rfl rfl e2 rfl) ?_
                rintro w270 ⟨hC, hF⟩
                refine lex.pure (v := .int .i64 5) (pu_assign rfl) ?_
                refine lex.nil ?_
                refine hK269 _ _ ?_
                replace hC := hC.nil 3 (.int .i64)
                obtain rfl := Option.some.inj hb
                refine Wc.ret ?_
                refine hKR _ _ ?_
                refine ⟨_, res2 Try.results35 ⟨_, e2, loadVar_blk (hC.bx (i := 1) rfl) Try.isAgg24 Try.sizeOf24⟩ (show RV _ _ _ (.tmp _) (.int .i64 5) from rfl), _, rfl, none, 0, 0, rfl, (show I64 0 from by unfold I64; omega), (show I64 5 from by unfold I64; omega), hC.sel [0] (by decide)⟩
              · replace hb := (cF hq268).symm.trans hb
                refine Wc.skip ?_
                refine hK266 _ _ ?_
                refine Wc.seq fun K272 hK272 => ?_
                refine Wc.region (by decide +kernel) ?_
                refine lex.val (v := .agg #[.int .i64 nx_0_0, .slice Akf190_1_2 kf68_1_2.length ckf190_1_2]) (ld_blk (hC.bx (i := 1) rfl) Try.isAgg24 Try.sizeOf24 e6) ?_
                refine lex.sk (hC.seta (i := 0) (ds := [.int .i64 nx_0_0, .slice Akf190_1_2 kf68_1_2.length ckf190_1_2]) rfl Try.type24 rfl rfl rfl e2 rfl) ?_
                rintro w273 ⟨hC, hF⟩
                refine lex.pure (v := .int .i64 0) (pu_assign rfl) ?_
                refine lex.nil ?_
                refine hK272 _ _ ?_
                obtain rfl := Option.some.inj hb
                refine Wc.ret ?_
                refine hKR _ _ ?_
                refine ⟨_, res2 Try.results35 ⟨_, e2, loadVar_blk (hC.bx (i := 0) rfl) Try.isAgg24 Try.sizeOf24⟩ (show RV _ _ _ (.tmp _) (.int .i64 0) from rfl), _, rfl, Akf190_1_2, kf68_1_2.length, ckf190_1_2, rfl, hnx_0_0, (show I64 0 from by unfold I64; omega), hC.sel [2] (by decide)⟩
    ·
      skip
      refine mixPE_chain ?_
      refine mixE.op hM (hC.alloc (cs := [.int .i64 0, .slice none 0 0]) Try.zeroValue24 rfl) ?_
      rintro _ w275 ⟨g274, rfl, hC, hF, hG⟩
      have hUf276 : g274 < w20.heap.size → g274 ∈ blocks (([] : List Fact) ++ ([] : List Fact)) := fun h => absurd (Nat.lt_of_lt_of_le h (Nat.le_trans hM.size hG)) (Nat.lt_irrefl _)
      clear hG
      replace hM := hM.none hF
      replace hD := hM.wide (H := ([] : List Fact))
      refine ⟨hM, ?_⟩
      refine mixE.nil ?_
      refine mixPE_chain ?_
      obtain ⟨y21, h278, hb⟩ := bd hb
      refine mixE.cl hM (⟨_, _, op_call (vs := [.int .i64 nx_0_0]) Try.call39 rfl rfl rfl, garside_halfTwist_ok n hC.lt hnx_0_0 h278⟩) ?_
      rintro _ w283 ⟨A279, m280, c281, rfl, hK⟩
      have hBf282 := Beside.cl (i := 0) hM hK rfl
      have hUf282 := hBf282.wide (H := ([] : List Fact))
      replace hM := hM.none hK.fr
      replace hD := hM.wide (H := ([] : List Fact))
      refine ⟨hM, ?_⟩
      replace hC := hC.merge hK
      clear hK
      obtain ⟨rfl, hl284, hc285⟩ := (hC.ow (i := 0) rfl).sl_len
      obtain ⟨y30, h287, hb⟩ := bd hb
      refine mixE.cl hM (⟨_, _, op_call (vs := [.slice A279 y21.length c281]) Try.call55 rfl rfl rfl, garside_letters_ok n (hC.lentLt [.slice A279 y21.length c281]) ((hC.ow (i := 0) rfl).lend (vs := [.slice A279 y21.length c281]) (by simp)) h287⟩) ?_
      rintro _ w292 ⟨A288, m289, c290, rfl, hK⟩
      have hBf291 := Beside.cl (i := 0) hM hK rfl
      have hUf291 := hBf291.wide (H := ([] : List Fact))
      replace hM := hM.none hK.fr
      replace hD := hM.wide (H := ([] : List Fact))
      refine ⟨hM, ?_⟩
      replace hC := hC.mergeF hK rfl
      clear hK
      obtain ⟨rfl, hl293, hc294⟩ := (hC.ow (i := 0) rfl).sl_len
      refine mixE.pure (v := .agg #[.int .i64 nx_0_0, .slice A288 y30.length c290]) (pu_builds (places := [(0, 1), (1, 1)]) (pv := [(0, .int .i64 nx_0_0), (1, .slice A288 y30.length c290)]) Try.type24 Try.underlying24 rfl (mp_cons Try.type3 (mp_cons Try.type22 mp_nil rfl rfl) rfl rfl) rfl (by simp [Instr.fill, Value.cells])) ?_
      refine mixE.sk hD (hC.seta (i := 2) (ds := [.int .i64 nx_0_0, .slice A288 y30.length c290]) rfl Try.type24 rfl rfl rfl rfl rfl) ?_
      rintro w295 ⟨hC, hF⟩
      replace hD := hD.besideG hUf276 hF
      clear hF
      refine ⟨hD, ?_⟩
      refine mixE.nil ?_
      clear hS hM
      clear hD
      refine hK18 _ _ ?_
      refine Wc.fresh fun E296 hE => ?_
      have e1 : E296 1 = .pointer (some ⟨g3, 0, none⟩) := (congrFun hE 1).trans rfl
      have e2 : E296 2 = .pointer (some ⟨g6, 0, none⟩) := (congrFun hE 2).trans rfl
      have e3 : E296 3 = .int .i64 0 := (congrFun hE 3).trans rfl
      have e4 : E296 4 = .pointer (some ⟨g274, 0, none⟩) := (congrFun hE 4).trans rfl
      clear hE
      refine Wc.seq fun K297 hK297 => ?_
      refine Wc.region (by decide +kernel) ?_
      refine lex.pure (v := .pointer (some ((⟨g3, 0, none⟩ : Addr).add 1))) (pu_field (sz := 1) Try.underlying28 rfl Try.sizeOf3 (by decide) rfl e1) ?_
      refine lex.val (v := .int .i64 nx_0_1) (ld_fld (hC.bx (i := 4) rfl) Try.isAgg3 rfl rfl) ?_
      refine lex.pure (v := .int .i64 nx_0_1) (pu_assign rfl) ?_
      refine lex.nil ?_
      refine hK297 _ _ ?_
      refine Wc.seqJ (fun E wv => ∃ (v5_0 : Int) (bf276_0_0 : Int) (kf41_1_0 : List Int) (Akf276_1_0 : Option Addr) (mkf276_1_0 ckf276_1_0 : Nat), E 1 = .pointer (some ⟨g3, 0, none⟩) ∧ E 2 = .pointer (some ⟨g6, 0, none⟩) ∧ E 3 = .int .i64 0 ∧ E 4 = .pointer (some ⟨g274, 0, none⟩) ∧ E 5 = .int .i64 v5_0 ∧ I64 v5_0 ∧ I64 bf276_0_0 ∧ Cx (fun _ => False) O0 w wv [.box g3 28 [.int .i64 nx_0_0, .int .i64 nx_0_1, .slice Anx_0_2 nx_0_2.length cnx_0_2], .ro (.sl (.sl (.int .i64))) [.slice Anx_0_2 nx_0_2.length cnx_0_2] nx_0_2, .box g6 24 [.int .i64 0, .slice none 0 0], .box g274 24 [.int .i64 bf276_0_0, .slice Akf276_1_0 mkf276_1_0 ckf276_1_0], .own 3 (.int .i64) (.slice Akf276_1_0 mkf276_1_0 ckf276_1_0) kf41_1_0] ∧ F.garside_Word_j0 n nx_0_0 nx_0_2 v5_0 bf276_0_0 kf41_1_0 = some r) (fun K298 hK298 => ?_) ?_
      ·
        skip
        refine Wc.seq fun K299 hK299 => ?_
        refine Wc.region (by decide +kernel) ?_
        refine lex.pure (v := .pointer (some ((⟨g3, 0, none⟩ : Addr).add 1))) (pu_field (sz := 1) Try.underlying28 rfl Try.sizeOf3 (by decide) rfl e1) ?_
        refine lex.val (v := .int .i64 nx_0_1) (ld_fld (hC.bx (i := 4) rfl) Try.isAgg3 rfl rfl) ?_
        refine lex.pure (v := .bool (decide (nx_0_1 < 0))) (pu_lss (k := .i64) (a := nx_0_1) (b := 0) rfl rfl) ?_
        refine lex.nil ?_
        refine hK299 _ _ ?_
        refine Wc.cond (t := (decide (nx_0_1 < 0))) (rfl) (fun hq300 => ?_) (fun hq300 => ?_)
        · replace hb := (cT hq300).symm.trans hb
          refine Wc.regionMix [28] (frm [28] ([] : List Fact) [.box g274 24 [.int .i64 nx_0_0, .slice A288 y30.length c290]]) (fun _ => rfl) mixed (by decide +kernel) (by decide +kernel) fun w302 hw301 => ?_
          replace hC := hC.step (Fr.of_drew hw301)
          have hM := Fr.refl (fun k => k ∈ blocks ([] : List Fact)) w302
          clear hw301
          have hS := hC
          have hD : Fr (fun k => k ∈ blocks (([] : List Fact) ++ [.box g274 24 [.int .i64 nx_0_0, .slice A288 y30.length c290]])) w302 w302 := hM.wide
          have hUf276 : g274 < w302.heap.size → g274 ∈ blocks (([] : List Fact) ++ [.box g274 24 [.int .i64 nx_0_0, .slice A288 y30.length c290]]) := fun _ => box_in (i := 0) rfl
          refine mixE.load hM (v := .agg #[.int .i64 nx_0_0, .slice A288 y30.length c290]) (fun _ hF => ld_blk (hS.bx2 (i := 2) rfl [] (by decide) hF) Try.isAgg24 Try.sizeOf24 e4) ?_
          obtain ⟨y50, h304, hb⟩ := bd hb
          refine mixE.cl hM (⟨_, _, op_call (vs := [.agg #[.int .i64 nx_0_0, .slice A288 y30.length c290]]) Try.call37 rfl rfl rfl, braid_Inverse_ok n (hC.lentLt [.slice A288 y30.length c290]) hnx_0_0 ((hC.ow (i := 0) rfl).lend (vs := [.slice A288 y30.length c290]) (by simp)) h304⟩) ?_
          rintro _ w310 ⟨A306, m307, c308, rfl, hr305, hK⟩
          have hBf309 := Beside.cl (i := 0) hM hK rfl
          have hUf309 := hBf309.wide (H := [.box g274 24 [.int .i64 nx_0_0, .slice A288 y30.length c290]])
          replace hM := hM.none hK.fr
          replace hD := hM.wide (H := [.box g274 24 [.int .i64 nx_0_0, .slice A288 y30.length c290]])
          refine ⟨hM, ?_⟩
          replace hC := hC.mergeF hK rfl
          clear hK
          obtain ⟨rfl, hl311, hc312⟩ := (hC.ow (i := 0) rfl).sl_len
          refine mixE.pure (v := .pointer (some ((⟨g3, 0, none⟩ : Addr).add 1))) (pu_field (sz := 1) Try.underlying28 rfl Try.sizeOf3 (by decide) rfl e1) ?_
          refine mixE.steady hD (v := .int .i64 nx_0_1) (fun _ hF => ld_fld (hS.bx2 (i := 4) rfl [2] (by decide) hF) Try.isAgg3 rfl rfl) ?_
          obtain ⟨z60, h314, hb⟩ := bd hb
          refine mixE.pure (v := .int .i64 z60) (pu_negc (a := nx_0_1) rfl h314) ?_
          refine mixE.sk hD (hC.seta (i := 3) (ds := [.int .i64 y50.1, .slice A306 y50.2.length c308]) rfl Try.type24 rfl rfl rfl e4 rfl) ?_
          rintro w315 ⟨hC, hF⟩
          replace hD := hD.besideG hUf276 hF
          clear hF
          refine ⟨hD, ?_⟩
          refine mixE.pure (v := .int .i64 z60) (pu_assign rfl) ?_
          refine mixE.nil ?_
          clear hS hM
          clear hD
          exact hK298 _ _ ⟨z60, y50.1, y50.2, A306, y50.2.length, c308, e1, e2, e3, e4, rfl, (chk_rng h314), hr305, hC.sel [5, 6, 4, 3, 0] (by decide), hb⟩
        · replace hb := (cF hq300).symm.trans hb
          refine Wc.skip ?_
          exact hK298 _ _ ⟨nx_0_1, nx_0_0, y30, A288, y30.length, c290, e1, e2, e3, e4, rfl, hnx_0_1, hnx_0_0, hC.sel [4, 5, 3, 2, 0] (by decide), hb⟩
      · clear hb hC
        rintro E317 w316 ⟨v5_0, bf276_0_0, kf41_1_0, Akf276_1_0, mkf276_1_0, ckf276_1_0, e1, e2, e3, e4, e5, hrv5_0, hrbf276_0_0, hC, hb⟩
        unfold F.garside_Word_j0 at hb
        obtain ⟨rfl, hlkf276_1_0, hckf276_1_0⟩ := (hC.ow (i := 4) rfl).sl_len
        refine Wc.seq fun K318 hK318 => ?_
        refine Wc.region (by decide +kernel) ?_
        refine lex.pure (v := .pointer (some ((⟨g3, 0, none⟩ : Addr).add 0))) (pu_field (sz := 1) Try.underlying28 rfl Try.sizeOf3 (by decide) rfl e1) ?_
        refine lex.val (v := .int .i64 nx_0_0) (ld_fld (hC.bx (i := 0) rfl) Try.isAgg3 rfl rfl) ?_
        refine lex.pure (v := .agg #[.int .i64 nx_0_0, .slice none 0 0]) (pu_builds (places := [(0, 1), (1, 1)]) (pv := [(0, .int .i64 nx_0_0)]) Try.type24 Try.underlying24 rfl (mp_cons Try.type3 (mp_cons Try.type22 mp_nil rfl rfl) rfl rfl) rfl (by simp [Instr.fill, Value.cells])) ?_
        refine lex.op (hC.alloc (cs := [.int .i64 0, .slice none 0 0]) Try.zeroValue24 rfl) ?_
        rintro _ w320 ⟨g319, rfl, hC, hF, hG⟩
        clear hG
        refine lex.sk (hC.seta (i := 0) (ds := [.int .i64 nx_0_0, .slice none 0 0]) rfl Try.type24 rfl rfl rfl rfl rfl) ?_
        rintro w322 ⟨hC, hF⟩
        refine lex.nil ?_
        refine hK318 _ _ ?_
        refine Wc.seq fun K323 hK323 => ?_
        refine Wc.seq fun K324 hK324 => ?_
        refine Wc.region (by decide +kernel) ?_
        refine lex.pure (v := .int .i64 v5_0) (pu_move e5) ?_
        refine lex.pure (v := .int .i64 0) (pu_move rfl) ?_
        refine lex.nil ?_
        refine hK324 _ _ ?_
        replace hC := hC.nil 3 (.int .i64)
        obtain ⟨o73, hl1, hb⟩ := bd hb
        refine Wc.cut (fun E wv => ∃ (v34_1 : Int) (kf68_1_1 : List Int) (Akf321_1_1 : Option Addr) (mkf321_1_1 ckf321_1_1 : Nat), E 1 = .pointer (some ⟨g3, 0, none⟩) ∧ E 2 = .pointer (some ⟨g6, 0, none⟩) ∧ E 3 = .int .i64 0 ∧ E 6 = .pointer (some ⟨g319, 0, none⟩) ∧ I64 v34_1 ∧ Cx (fun _ => False) O0 w wv [.box g3 28 [.int .i64 nx_0_0, .int .i64 nx_0_1, .slice Anx_0_2 nx_0_2.length cnx_0_2], .ro (.sl (.sl (.int .i64))) [.slice Anx_0_2 nx_0_2.length cnx_0_2] nx_0_2, .box g6 24 [.int .i64 0, .slice none 0 0], .box g319 24 [.int .i64 nx_0_0, .slice Akf321_1_1 mkf321_1_1 ckf321_1_1], .own 3 (.int .i64) (.slice Akf321_1_1 mkf321_1_1 ckf321_1_1) kf68_1_1] ∧ (((loopN n (F.garside_Word_b2 n nx_0_2) (0, kf68_1_1)).bind fun o98 => match o98 with     | (v46_2, kf68_1_2) => cond (decide (200 < (kf68_1_2.length : Int))) (some (0, [], 5)) (some (nx_0_0, kf68_1_2, 0))) : Option (Int × (List Int) × Int)) = some r) (fun K327 hK327 => ?_) ?_
        · refine Wc.block ?_
          refine Wc.loop (fun m E wv => ∃ (v34_1 : Int) (kf68_1_1 : List Int) (Akf321_1_1 : Option Addr) (mkf321_1_1 ckf321_1_1 : Nat), E 1 = .pointer (some ⟨g3, 0, none⟩) ∧ E 2 = .pointer (some ⟨g6, 0, none⟩) ∧ E 3 = .int .i64 0 ∧ E 4 = .pointer (some ⟨g274, 0, none⟩) ∧ E 6 = .pointer (some ⟨g319, 0, none⟩) ∧ E 33 = .int .i64 v5_0 ∧ E 34 = .int .i64 v34_1 ∧ I64 v34_1 ∧ Cx (fun _ => False) O0 w wv [.box g3 28 [.int .i64 nx_0_0, .int .i64 nx_0_1, .slice Anx_0_2 nx_0_2.length cnx_0_2], .ro (.sl (.sl (.int .i64))) [.slice Anx_0_2 nx_0_2.length cnx_0_2] nx_0_2, .box g6 24 [.int .i64 0, .slice none 0 0], .box g274 24 [.int .i64 bf276_0_0, .slice Akf276_1_0 kf41_1_0.length ckf276_1_0], .own 3 (.int .i64) (.slice Akf276_1_0 kf41_1_0.length ckf276_1_0) kf41_1_0, .box g319 24 [.int .i64 nx_0_0, .slice Akf321_1_1 mkf321_1_1 ckf321_1_1], .own 3 (.int .i64) (.slice Akf321_1_1 mkf321_1_1 ckf321_1_1) kf68_1_1] ∧ loopN m (F.garside_Word_b1 n v5_0 kf41_1_0) (v34_1, kf68_1_1) = some o73) n ⟨0, ([] : List Int), none, 0, 0, e1, e2, e3, e4, rfl, rfl, rfl, (show I64 0 from by unfold I64; omega), hC.sel [2, 3, 4, 5, 6, 1, 0] (by decide), hl1⟩ ?_
          have hbK1 := hb
          clear hb hC hl1
          rintro m329 E331 w330 ⟨v34_1, kf68_1_1, Akf321_1_1, mkf321_1_1, ckf321_1_1, e1, e2, e3, e4, e6, e33, e34, hrv34_1, hC, hl1⟩ K328 hK328
          obtain ⟨m329', o332, rfl, hb, hl1⟩ := loopN_some hl1
          unfold F.garside_Word_b1 at hb
          obtain ⟨rfl, hlkf321_1_1, hckf321_1_1⟩ := (hC.ow (i := 6) rfl).sl_len
          refine Wc.seq fun K333 hK333 => ?_
          refine Wc.region (by decide +kernel) ?_
          refine lex.pure (v := .bool (decide (v34_1 < v5_0))) (pu_lss (k := .i64) (a := v34_1) (b := v5_0) e34 e33) ?_
          refine lex.nil ?_
          refine hK333 _ _ ?_
          refine Wc.seq fun K334 hK334 => ?_
          refine Wc.cond (t := (decide (v34_1 < v5_0))) (rfl) (fun hq335 => ?_) (fun hq335 => ?_)
          · replace hb := (cT hq335).symm.trans hb
            refine Wc.skip ?_
            refine hK334 _ _ ?_
            refine Wc.seq fun K336 hK336 => ?_
            refine Wc.block ?_
            refine Wc.region (by decide +kernel) ?_
            refine lex.pure (v := .pointer (some ((⟨g319, 0, none⟩ : Addr).add 1))) (pu_field (sz := 1) Try.underlying24 rfl Try.sizeOf22 (by decide) rfl e6) ?_
            refine lex.val (v := .slice Akf321_1_1 kf68_1_1.length ckf321_1_1) (ld_fld (hC.bx (i := 5) rfl) Try.isAgg22 rfl rfl) ?_
            refine lex.pure (v := .pointer (some ((⟨g274, 0, none⟩ : Addr).add 1))) (pu_field (sz := 1) Try.underlying24 rfl Try.sizeOf22 (by decide) rfl e4) ?_
            refine lex.val (v := .slice Akf276_1_0 kf41_1_0.length ckf276_1_0) (ld_fld (hC.bx (i := 3) rfl) Try.isAgg22 rfl rfl) ?_
            obtain ⟨u84, h338, hb⟩ := bd hb
            refine lex.op (hC.app (i := 6) (s := (.int .i64)) (xs := kf68_1_1) (ys := kf41_1_0) (m := kf41_1_0.length) rfl Try.underlying22 Try.underlying22 Try.type3 rfl rfl rfl (hC.srco (i := 4) rfl) rfl rfl (by have := lim_some h338; simp at this ⊢ <;> omega) (by decide)) ?_
            rintro _ w343 ⟨A339, c340, rfl, hl341, hc342, hC, hF, hN⟩
            clear hF hN
            refine lex.pure (v := .pointer (some ((⟨g319, 0, none⟩ : Addr).add 1))) (pu_field (sz := 1) Try.underlying24 rfl Try.sizeOf22 (by decide) rfl e6) ?_
            refine lex.sk (hC.setf (i := 5) (k := 1) (v := .slice A339 ((kf68_1_1 ++ kf41_1_0).length) c340) rfl Try.sizeOf22 rfl rfl rfl rfl) ?_
            rintro w344 ⟨hC, hF⟩
            refine lex.nil ?_
            refine hK336 _ _ ?_
            refine Wc.region (by decide +kernel) ?_
            obtain ⟨z92, h346, hb⟩ := bd hb
            refine lex.pure (v := .int .i64 z92) (pu_addc (a := v34_1) (b := 1) e34 rfl h346) ?_
            refine lex.pure (v := .int .i64 z92) (pu_move rfl) ?_
            refine lex.nil ?_
            obtain rfl := Option.some.inj hb
            exact hK328 m329' _ _ (Nat.lt_succ_self _) ⟨z92, (kf68_1_1 ++ kf41_1_0), A339, (kf68_1_1 ++ kf41_1_0).length, c340, e1, e2, e3, e4, e6, e33, rfl, (chk_rng h346), hC.sel [0, 1, 2, 3, 4, 5, 6] (by decide), lN hl1⟩
          · replace hb := (cF hq335).symm.trans hb
            refine Wc.exit rfl ?_
            obtain rfl := Option.some.inj hb
            obtain rfl := (lX hl1).symm
            exact hK327 _ _ ⟨v34_1, kf68_1_1, Akf321_1_1, kf68_1_1.length, ckf321_1_1, e1, e2, e3, e6, hrv34_1, hC.sel [0, 1, 2, 5, 6] (by decide), hbK1⟩
        · clear hb hC hl1
          rintro E348 w347 ⟨v34_1, kf68_1_1, Akf321_1_1, mkf321_1_1, ckf321_1_1, e1, e2, e3, e6, hrv34_1, hC, hb⟩
          obtain ⟨rfl, hlkf321_1_1, hckf321_1_1⟩ := (hC.ow (i := 4) rfl).sl_len
          refine hK323 _ _ ?_
          refine Wc.seq fun K349 hK349 => ?_
          refine Wc.seq fun K350 hK350 => ?_
          refine Wc.region (by decide +kernel) ?_
          refine lex.pure (v := .pointer (some ((⟨g3, 0, none⟩ : Addr).add 2))) (pu_field (sz := 1) Try.underlying28 rfl Try.sizeOf26 (by decide) rfl e1) ?_
          refine lex.val (v := .slice Anx_0_2 nx_0_2.length cnx_0_2) (ld_fld (hC.bx (i := 0) rfl) Try.isAgg26 rfl rfl) ?_
          refine lex.pure (v := .int .i64 (nx_0_2.length : Int)) (pu_len (A := Anx_0_2) (n := nx_0_2.length) (m := cnx_0_2) Try.underlying26 rfl) ?_
          refine lex.pure (v := .int .i64 0) (pu_move rfl) ?_
          refine lex.nil ?_
          refine hK350 _ _ ?_
          obtain ⟨o98, hl2, hb⟩ := bd hb
          refine Wc.cut (fun E wv => ∃ (v46_2 : Int) (kf68_1_2 : List Int) (Akf321_1_2 : Option Addr) (mkf321_1_2 ckf321_1_2 : Nat), E 2 = .pointer (some ⟨g6, 0, none⟩) ∧ E 3 = .int .i64 0 ∧ E 6 = .pointer (some ⟨g319, 0, none⟩) ∧ I64 v46_2 ∧ Cx (fun _ => False) O0 w wv [.box g6 24 [.int .i64 0, .slice none 0 0], .box g319 24 [.int .i64 nx_0_0, .slice Akf321_1_2 mkf321_1_2 ckf321_1_2], .own 3 (.int .i64) (.slice Akf321_1_2 mkf321_1_2 ckf321_1_2) kf68_1_2] ∧ (cond (decide (200 < (kf68_1_2.length : Int))) (some (0, [], 5)) (some (nx_0_0, kf68_1_2, 0)) : Option (Int × (List Int) × Int)) = some r) (fun K352 hK352 => ?_) ?_
          · refine Wc.block ?_
            refine Wc.loop (fun m E wv => ∃ (v46_2 : Int) (kf68_1_2 : List Int) (Akf321_1_2 : Option Addr) (mkf321_1_2 ckf321_1_2 : Nat), E 2 = .pointer (some ⟨g6, 0, none⟩) ∧ E 3 = .int .i64 0 ∧ E 6 = .pointer (some ⟨g319, 0, none⟩) ∧ E 44 = .slice Anx_0_2 nx_0_2.length cnx_0_2 ∧ E 45 = .int .i64 (nx_0_2.length : Int) ∧ E 46 = .int .i64 v46_2 ∧ I64 v46_2 ∧ Cx (fun _ => False) O0 w wv [.box g6 24 [.int .i64 0, .slice none 0 0], .box g319 24 [.int .i64 nx_0_0, .slice Akf321_1_2 mkf321_1_2 ckf321_1_2], .own 3 (.int .i64) (.slice Akf321_1_2 mkf321_1_2 ckf321_1_2) kf68_1_2, .ro (.sl (.sl (.int .i64))) [.slice Anx_0_2 nx_0_2.length cnx_0_2] nx_0_2] ∧ loopN m (F.garside_Word_b2 n nx_0_2) (v46_2, kf68_1_2) = some o98) n ⟨0, kf68_1_1, Akf321_1_1, kf68_1_1.length, ckf321_1_1, e2, e3, e6, rfl, rfl, rfl, (show I64 0 from by unfold I64; omega), hC.sel [2, 3, 4, 1] (by decide), hl2⟩ ?_
            have hbK2 := hb
            clear hb hC hl2
            rintro m354 E356 w355 ⟨v46_2, kf68_1_2, Akf321_1_2, mkf321_1_2, ckf321_1_2, e2, e3, e6, e44, e45, e46, hrv46_2, hC, hl2⟩ K353 hK353
            obtain ⟨m354', o357, rfl, hb, hl2⟩ := loopN_some hl2
            unfold F.garside_Word_b2 at hb
            obtain ⟨rfl, hlkf321_1_2, hckf321_1_2⟩ := (hC.ow (i := 2) rfl).sl_len
            refine Wc.seq fun K358 hK358 => ?_
            refine Wc.region (by decide +kernel) ?_
            refine lex.pure (v := .bool (decide (v46_2 < (nx_0_2.length : Int)))) (pu_lss (k := .i64) (a := v46_2) (b := (nx_0_2.length : Int)) e46 e45) ?_
            refine lex.nil ?_
            refine hK358 _ _ ?_
            refine Wc.seq fun K359 hK359 => ?_
            refine Wc.cond (t := (decide (v46_2 < (nx_0_2.length : Int)))) (rfl) (fun hq360 => ?_) (fun hq360 => ?_)
            · replace hb := (cT hq360).symm.trans hb
              refine Wc.skip ?_
              refine hK359 _ _ ?_
              refine Wc.seq fun K361 hK361 => ?_
              refine Wc.block ?_
              refine Wc.seq fun K362 hK362 => ?_
              refine Wc.region (by decide +kernel) ?_
              obtain ⟨x110, h364, hb⟩ := bd hb
              obtain ⟨ad365, cs366, hA, hc367, hr368⟩ := hC.elr (i := 3) rfl (get_some h364).2
              subst hA
              refine lex.pure (v := .pointer (some (ad365.add (v46_2.toNat * 1)))) (pu_index (a := v46_2) Try.underlying26 Try.sizeOf43 e44 e46 (get_some h364).1) ?_
              have hR := hr368
              obtain ⟨A369, c370, rfl, hl371, hc372, _⟩ := hr368
              replace hC := hC.ro hR
              clear hR
              refine lex.val (v := .slice A369 x110.length c370) (ld_one Try.isAgg43 rfl (hc367 0 _ rfl)) ?_
              refine lex.pure (v := .slice A369 x110.length c370) (pu_assign rfl) ?_
              refine lex.nil ?_
              refine hK362 _ _ ?_
              refine Wc.regionMix [] (frm [] [.own 3 (.int .i64) (.slice Akf321_1_2 kf68_1_2.length ckf321_1_2) kf68_1_2] [.box g319 24 [.int .i64 nx_0_0, .slice Akf321_1_2 kf68_1_2.length ckf321_1_2]]) (fun _ => rfl) mixed (by decide +kernel) (by decide +kernel) fun w375 hw374 => ?_
              replace hC := hC.step (Fr.of_drew hw374)
              have hM := Fr.refl (fun k => k ∈ blocks [.own 3 (.int .i64) (.slice Akf321_1_2 kf68_1_2.length ckf321_1_2) kf68_1_2]) w375
              clear hw374
              have hS := hC
              have hBFf321_1_2 : Beside [.own 3 (.int .i64) (.slice Akf321_1_2 kf68_1_2.length ckf321_1_2) kf68_1_2] w375 (.slice Akf321_1_2 kf68_1_2.length ckf321_1_2) := Beside.of (i := 0) rfl
              have hD : Fr (fun k => k ∈ blocks ([.own 3 (.int .i64) (.slice Akf321_1_2 kf68_1_2.length ckf321_1_2) kf68_1_2] ++ [.box g319 24 [.int .i64 nx_0_0, .slice Akf321_1_2 kf68_1_2.length ckf321_1_2]])) w375 w375 := hM.wide
              have hUFf321_1_2 : Beside ([.own 3 (.int .i64) (.slice Akf321_1_2 kf68_1_2.length ckf321_1_2) kf68_1_2] ++ [.box g319 24 [.int .i64 nx_0_0, .slice Akf321_1_2 kf68_1_2.length ckf321_1_2]]) w375 (.slice Akf321_1_2 kf68_1_2.length ckf321_1_2) := Beside.of (i := 0) rfl
              have hUf321 : g319 < w375.heap.size → g319 ∈ blocks ([.own 3 (.int .i64) (.slice Akf321_1_2 kf68_1_2.length ckf321_1_2) kf68_1_2] ++ [.box g319 24 [.int .i64 nx_0_0, .slice Akf321_1_2 kf68_1_2.length ckf321_1_2]]) := fun _ => box_in (i := 1) rfl
              refine mixE.pure (v := .pointer (some ((⟨g319, 0, none⟩ : Addr).add 1))) (pu_field (sz := 1) Try.underlying24 rfl Try.sizeOf22 (by decide) rfl e6) ?_
              refine mixE.load hM (v := .slice Akf321_1_2 kf68_1_2.length ckf321_1_2) (fun _ hF => ld_fld (hS.bx2 (i := 2) rfl [3] (by decide) hF) Try.isAgg22 rfl rfl) ?_
              refine mixE.pure (v := .slice A369 x110.length c370) (pu_move rfl) ?_
              obtain ⟨y123, h377, hb⟩ := bd hb
              refine mixE.cl hM (⟨_, _, op_call (vs := [.slice A369 x110.length c370]) Try.call55 rfl rfl rfl, garside_letters_ok n hC.lt (hC.rd (i := 0) rfl) h377⟩) ?_
              rintro _ w382 ⟨A378, m379, c380, rfl, hK⟩
              have hBf381 := Beside.cl (i := 0) hM hK rfl
              have hUf381 := hBf381.wide (H := [.box g319 24 [.int .i64 nx_0_0, .slice Akf321_1_2 kf68_1_2.length ckf321_1_2]])
              replace hM := hM.none hK.fr
              replace hD := hM.wide (H := [.box g319 24 [.int .i64 nx_0_0, .slice Akf321_1_2 kf68_1_2.length ckf321_1_2]])
              refine ⟨hM, ?_⟩
              replace hC := hC.merge hK
              clear hK
              obtain ⟨rfl, hl383, hc384⟩ := (hC.ow (i := 0) rfl).sl_len
              obtain ⟨u132, h386, hb⟩ := bd hb
              refine mixE.op hM (hC.app (i := 4) (s := (.int .i64)) (xs := kf68_1_2) (ys := y123) (m := y123.length) rfl Try.underlying22 Try.underlying22 Try.type3 rfl rfl rfl (hC.srco (i := 0) rfl) rfl rfl (by have := lim_some h386; simp at this ⊢ <;> omega) (by decide)) ?_
              rintro _ w391 ⟨A387, c388, rfl, hl389, hc390, hC, hF, hN⟩
              have hB := hBFf321_1_2
              replace hBFf321_1_2 := hB.app hM hN
              replace hM := hM.beside hB hF
              clear hB
              replace hD := hM.wide (H := [.box g319 24 [.int .i64 nx_0_0, .slice Akf321_1_2 kf68_1_2.length ckf321_1_2]])
              refine ⟨hM, ?_⟩
              clear hF hN
              refine mixE.pure (v := .pointer (some ((⟨g319, 0, none⟩ : Addr).add 1))) (pu_field (sz := 1) Try.underlying24 rfl Try.sizeOf22 (by decide) rfl e6) ?_
              refine mixE.sk hD (hC.setf (i := 3) (k := 1) (v := .slice A387 ((kf68_1_2 ++ y123).length) c388) rfl Try.sizeOf22 rfl rfl rfl rfl) ?_
              rintro w392 ⟨hC, hF⟩
              replace hD := hD.besideG hUf321 hF
              clear hF
              refine ⟨hD, ?_⟩
              refine mixE.nil ?_
              clear hS hM
              clear hD
              refine hK361 _ _ ?_
              refine Wc.region (by decide +kernel) ?_
              obtain ⟨z140, h394, hb⟩ := bd hb
              refine lex.pure (v := .int .i64 z140) (pu_addc (a := v46_2) (b := 1) e46 rfl h394) ?_
              refine lex.pure (v := .int .i64 z140) (pu_move rfl) ?_
              refine lex.nil ?_
              obtain rfl := Option.some.inj hb
              exact hK353 m354' _ _ (Nat.lt_succ_self _) ⟨z140, (kf68_1_2 ++ y123), A387, (kf68_1_2 ++ y123).length, c388, e2, e3, e6, e44, e45, rfl, (chk_rng h394), hC.sel [2, 3, 4, 5] (by decide), lN hl2⟩
            · replace hb := (cF hq360).symm.trans hb
              refine Wc.exit rfl ?_
              obtain rfl := Option.some.inj hb
              obtain rfl := (lX hl2).symm
              exact hK352 _ _ ⟨v46_2, kf68_1_2, Akf321_1_2, kf68_1_2.length, ckf321_1_2, e2, e3, e6, hrv46_2, hC.sel [0, 1, 2] (by decide), hbK2⟩
          · clear hb hC hl2
            rintro E396 w395 ⟨v46_2, kf68_1_2, Akf321_1_2, mkf321_1_2, ckf321_1_2, e2, e3, e6, hrv46_2, hC, hb⟩
            obtain ⟨rfl, hlkf321_1_2, hckf321_1_2⟩ := (hC.ow (i := 2) rfl).sl_len
            refine hK349 _ _ ?_
            refine Wc.seq fun K397 hK397 => ?_
            refine Wc.seq fun K398 hK398 => ?_
            refine Wc.region (by decide +kernel) ?_
            refine lex.pure (v := .pointer (some ((⟨g319, 0, none⟩ : Addr).add 1))) (pu_field (sz := 1) Try.underlying24 rfl Try.sizeOf22 (by decide) rfl e6) ?_
            refine lex.val (v := .slice Akf321_1_2 kf68_1_2.length ckf321_1_2) (ld_fld (hC.bx (i := 1) rfl) Try.isAgg22 rfl rfl) ?_
            refine lex.pure (v := .int .i64 (kf68_1_2.length : Int)) (pu_len (A := Akf321_1_2) (n := kf68_1_2.length) (m := ckf321_1_2) Try.underlying22 rfl) ?_
            refine lex.pure (v := .bool (decide (200 < (kf68_1_2.length : Int)))) (pu_gtr (k := .i64) (a := (kf68_1_2.length : Int)) (b := 200) rfl rfl) ?_
            refine lex.nil ?_
            refine hK398 _ _ ?_
            refine Wc.cond (t := (decide (200 < (kf68_1_2.length : Int)))) (rfl) (fun hq399 => ?_) (fun hq399 => ?_)
            · replace hb := (cT hq399).symm.trans hb
              refine Wc.seq fun K400 hK400 => ?_
              refine Wc.region (by decide +kernel) ?_
              refine lex.pure (v := .agg #[.int .i64 0, .slice none 0 0]) (pu_builds (places := [(0, 1), (1, 1)]) (pv := []) Try.type24 Try.underlying24 rfl (mp_cons Try.type3 (mp_cons Try.type22 mp_nil rfl rfl) rfl rfl) rfl (by simp [Instr.fill, Value.cells])) ?_
              refine lex.sk (hC.seta (i := 0) (ds := [.int .i64 0, .slice none 0 0]) rfl Try.type24 rfl rfl rfl e2 rfl) ?_
              rintro w401 ⟨hC, hF⟩
              refine lex.pure (v := .int .i64 5) (pu_assign rfl) ?_
              refine lex.nil ?_
              refine hK400 _ _ ?_
              replace hC := hC.nil 3 (.int .i64)
              obtain rfl := Option.some.inj hb
              refine Wc.ret ?_
              refine hKR _ _ ?_
              refine ⟨_, res2 Try.results35 ⟨_, e2, loadVar_blk (hC.bx (i := 1) rfl) Try.isAgg24 Try.sizeOf24⟩ (show RV _ _ _ (.tmp _) (.int .i64 5) from rfl), _, rfl, none, 0, 0, rfl, (show I64 0 from by unfold I64; omega), (show I64 5 from by unfold I64; omega), hC.sel [0] (by decide)⟩
            · replace hb := (cF hq399).symm.trans hb
              refine Wc.skip ?_
              refine hK397 _ _ ?_
              refine Wc.seq fun K403 hK403 => ?_
              refine Wc.region (by decide +kernel) ?_
              refine lex.val (v := .agg #[.int .i64 nx_0_0, .slice Akf321_1_2 kf68_1_2.length ckf321_1_2]) (ld_blk (hC.bx (i := 1) rfl) Try.isAgg24 Try.sizeOf24 e6) ?_
              refine lex.sk (hC.seta (i := 0) (ds := [.int .i64 nx_0_0, .slice Akf321_1_2 kf68_1_2.length ckf321_1_2]) rfl Try.type24 rfl rfl rfl e2 rfl) ?_
              rintro w404 ⟨hC, hF⟩
              refine lex.pure (v := .int .i64 0) (pu_assign rfl) ?_
              refine lex.nil ?_
              refine hK403 _ _ ?_
              obtain rfl := Option.some.inj hb
              refine Wc.ret ?_
              refine hKR _ _ ?_
              refine ⟨_, res2 Try.results35 ⟨_, e2, loadVar_blk (hC.bx (i := 0) rfl) Try.isAgg24 Try.sizeOf24⟩ (show RV _ _ _ (.tmp _) (.int .i64 0) from rfl), _, rfl, Akf321_1_2, kf68_1_2.length, ckf321_1_2, rfl, hnx_0_0, (show I64 0 from by unfold I64; omega), hC.sel [2] (by decide)⟩
end Go.Proofs.Ytkeaonceaaafcaa
