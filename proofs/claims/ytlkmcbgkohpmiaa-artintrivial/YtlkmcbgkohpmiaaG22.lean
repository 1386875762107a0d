/- The walks: part 22. -/
import Derived.Test.YtlkmcbgkohpmiaaS
import Derived.Test.YtlkmcbgkohpmiaaG0
import Derived.Test.YtlkmcbgkohpmiaaG5
import Derived.Test.YtlkmcbgkohpmiaaG6
import Derived.Test.YtlkmcbgkohpmiaaG15
import Derived.Test.YtlkmcbgkohpmiaaG21
set_option linter.unusedVariables false
set_option linter.unusedSimpArgs false
namespace Go.Proofs.Ytlkmcbgkohpmiaa
open Ev
set_option maxRecDepth 100000 in
set_option maxHeartbeats 4000000 in
theorem law35_ArtinTrivial_ok (n : Nat) {w : World} {O0 : List Nat} (hO : ∀ k ∈ O0, k < w.heap.size) {b_0_0 : Int} (hb_0_0 : I64 b_0_0) {Ab_0_1 : Option Addr} {mb_0_1 cb_0_1 : Nat} {b_0_1 : List Int} (hb_0_1 : Rep O0 w (.sl (.int .i64)) [.slice Ab_0_1 mb_0_1 cb_0_1] b_0_1) {c_1_0 : Int} (hc_1_0 : I64 c_1_0) {Ac_1_1 : Option Addr} {mc_1_1 cc_1_1 : Nat} {c_1_1 : List Int} (hc_1_1 : Rep O0 w (.sl (.int .i64)) [.slice Ac_1_1 mc_1_1 cc_1_1] c_1_1) {r : Bool} (hb : F.law35_ArtinTrivial n b_0_0 b_0_1 c_1_0 c_1_1 = some r) :
    Calls Try.prog 7 #[.agg #[.int .i64 b_0_0, .slice Ab_0_1 mb_0_1 cb_0_1], .agg #[.int .i64 c_1_0, .slice Ac_1_1 mc_1_1 cc_1_1]] w fun e w' => ∃ v, e = .returned v ∧ v = .bool r ∧ Cx (fun _ => False) O0 w w' [] := by
  unfold F.law35_ArtinTrivial at hb
  have hC := Cx.start hO
  replace hC := hC.arg rfl hb_0_1
  replace hC := hC.arg rfl hc_1_1
  clear hO
  obtain ⟨rfl, hlb_0_1, hcb_0_1⟩ := hb_0_1.sl_len
  obtain ⟨rfl, hlc_1_1, hcc_1_1⟩ := hc_1_1.sl_len
  refine calls_of_Wc Try.func7 rfl (by rw [Try.ntmps7]; exact Nat.le_of_ble_eq_true rfl) fun KR hKR => ?_
  refine Wc.seq fun K3 hK3 => ?_
  refine Wc.region (by decide +kernel) ?_
  refine lex.op (hC.box (cs := [.int .i64 b_0_0, .slice Ab_0_1 b_0_1.length cb_0_1]) rfl rfl) ?_
  rintro _ w5 ⟨g4, rfl, hC, hF, hG⟩
  clear hG
  refine lex.op (hC.box (cs := [.int .i64 c_1_0, .slice Ac_1_1 c_1_1.length cc_1_1]) rfl rfl) ?_
  rintro _ w8 ⟨g7, rfl, hC, hF, hG⟩
  clear hG
  refine lex.pure (v := .bool false) (pu_assign rfl) ?_
  refine lex.nil ?_
  refine hK3 _ _ ?_
  refine Wc.seq fun K10 hK10 => ?_
  refine Wc.seq fun K11 hK11 => ?_
  refine Wc.region (by decide +kernel) ?_
  obtain ⟨y12, h13, hb⟩ := bd hb
  refine lex.cl (⟨_, _, op_call (vs := []) Try.call9 rfl rfl rfl, law35_awake_ok n hC.lt  h13⟩) ?_
  rintro _ w14 ⟨rfl, hK⟩
  replace hC := hC.merge hK
  clear hK
  refine lex.pure (v := .bool (!y12)) (pu_not (q := y12) rfl) ?_
  refine lex.nil ?_
  refine hK11 _ _ ?_
  refine Wc.cond (t := (!y12)) (rfl) (fun hq15 => ?_) (fun hq15 => ?_)
  · replace hb := (cT hq15).symm.trans hb
    refine Wc.seq fun K16 hK16 => ?_
    refine Wc.region (by decide +kernel) ?_
    refine lex.pure (v := .bool false) (pu_assign rfl) ?_
    refine lex.nil ?_
    refine hK16 _ _ ?_
    obtain rfl := Option.some.inj hb
    refine Wc.ret ?_
    refine hKR _ _ ?_
    refine ⟨_, res1 Try.results7 (show RV _ _ _ (.tmp _) (.bool false) from rfl), _, rfl, rfl, hC.sel [] (by decide)⟩
  · replace hb := (cF hq15).symm.trans hb
    refine Wc.skip ?_
    refine hK10 _ _ ?_
    refine Wc.seq fun K17 hK17 => ?_
    refine Wc.seq fun K18 hK18 => ?_
    refine Wc.region (by decide +kernel) ?_
    refine lex.val (v := .agg #[.int .i64 b_0_0, .slice Ab_0_1 b_0_1.length cb_0_1]) (ld_blk (hC.bx (i := 1) rfl) Try.isAgg24 Try.sizeOf24 rfl) ?_
    obtain ⟨y19, h20, hb⟩ := bd hb
    refine lex.cl (⟨_, _, op_call (vs := [.agg #[.int .i64 b_0_0, .slice Ab_0_1 b_0_1.length cb_0_1]]) Try.call10 rfl rfl rfl, law35_great_ok n hC.lt hb_0_0 (hC.rd (i := 3) rfl) h20⟩) ?_
    rintro _ w21 ⟨rfl, hK⟩
    replace hC := hC.merge hK
    clear hK
    refine lex.pure (v := .bool y19) (pu_move rfl) ?_
    rcases bS y19 with hq22 | hq22
    · replace hb := (cT hq22).symm.trans hb
      refine lex.gskip (want_f rfl rfl (show _ = Value.bool y19 from rfl) hq22) ?_
      refine lex.gskip (want_f rfl rfl (show _ = Value.bool y19 from rfl) hq22) ?_
      refine lex.pure (v := .bool true) (pu_pickT (q := y19) rfl hq22 rfl) ?_
      refine lex.nil ?_
      refine hK18 _ _ ?_
      refine Wc.cond_true (rfl) ?_
      refine Wc.seq fun K23 hK23 => ?_
      refine Wc.region (by decide +kernel) ?_
      refine lex.pure (v := .bool true) (pu_assign rfl) ?_
      refine lex.nil ?_
      refine hK23 _ _ ?_
      obtain rfl := Option.some.inj hb
      refine Wc.ret ?_
      refine hKR _ _ ?_
      refine ⟨_, res1 Try.results7 (show RV _ _ _ (.tmp _) (.bool true) from rfl), _, rfl, rfl, hC.sel [] (by decide)⟩
    · replace hb := (cF hq22).symm.trans hb
      refine lex.gval (want_t rfl rfl (show _ = Value.bool y19 from rfl) hq22) (v := .agg #[.int .i64 c_1_0, .slice Ac_1_1 c_1_1.length cc_1_1]) (ld_blk (hC.bx (i := 0) rfl) Try.isAgg24 Try.sizeOf24 rfl) ?_
      obtain ⟨y24, h25, hb⟩ := bd hb
      refine lex.gcl (want_t rfl rfl (show _ = Value.bool y19 from rfl) hq22) (⟨_, _, op_call (vs := [.agg #[.int .i64 c_1_0, .slice Ac_1_1 c_1_1.length cc_1_1]]) Try.call10 rfl rfl rfl, law35_great_ok n hC.lt hc_1_0 (hC.rd (i := 2) rfl) h25⟩) ?_
      rintro _ w26 ⟨rfl, hK⟩
      replace hC := hC.merge hK
      clear hK
      refine lex.pure (v := .bool y24) (pu_pickF (q := y19) rfl hq22 rfl) ?_
      refine lex.nil ?_
      refine hK18 _ _ ?_
      refine Wc.cond (t := y24) (rfl) (fun hq27 => ?_) (fun hq27 => ?_)
      · replace hb := (cT hq27).symm.trans hb
        refine Wc.seq fun K28 hK28 => ?_
        refine Wc.region (by decide +kernel) ?_
        refine lex.pure (v := .bool true) (pu_assign rfl) ?_
        refine lex.nil ?_
        refine hK28 _ _ ?_
        obtain rfl := Option.some.inj hb
        refine Wc.ret ?_
        refine hKR _ _ ?_
        refine ⟨_, res1 Try.results7 (show RV _ _ _ (.tmp _) (.bool true) from rfl), _, rfl, rfl, hC.sel [] (by decide)⟩
      · replace hb := (cF hq27).symm.trans hb
        refine Wc.skip ?_
        refine hK17 _ _ ?_
        refine Wc.fresh fun E29 hE => ?_
        have e2 : E29 2 = .pointer (some ⟨g4, 0, none⟩) := (congrFun hE 2).trans rfl
        have e3 : E29 3 = .pointer (some ⟨g7, 0, none⟩) := (congrFun hE 3).trans rfl
        have e4 : E29 4 = .bool false := (congrFun hE 4).trans rfl
        clear hE
        refine Wc.seq fun K30 hK30 => ?_
        refine Wc.seq fun K31 hK31 => ?_
        refine Wc.region (by decide +kernel) ?_
        refine lex.val (v := .agg #[.int .i64 b_0_0, .slice Ab_0_1 b_0_1.length cb_0_1]) (ld_blk (hC.bx (i := 1) rfl) Try.isAgg24 Try.sizeOf24 e2) ?_
        obtain ⟨y32, h33, hb⟩ := bd hb
        refine lex.cl (⟨_, _, op_call (vs := [.agg #[.int .i64 b_0_0, .slice Ab_0_1 b_0_1.length cb_0_1]]) Try.call16 rfl rfl rfl, braid_Valid_ok n hC.lt hb_0_0 (hC.rd (i := 3) rfl) h33⟩) ?_
        rintro _ w34 ⟨rfl, hK⟩
        replace hC := hC.merge hK
        clear hK
        refine lex.pure (v := .bool (!y32)) (pu_not (q := y32) rfl) ?_
        refine lex.nil ?_
        refine hK31 _ _ ?_
        refine Wc.cond (t := (!y32)) (rfl) (fun hq35 => ?_) (fun hq35 => ?_)
        · replace hb := (cT hq35).symm.trans hb
          refine Wc.seq fun K36 hK36 => ?_
          refine Wc.region (by decide +kernel) ?_
          refine lex.val (v := .agg #[.int .i64 b_0_0, .slice Ab_0_1 b_0_1.length cb_0_1]) (ld_blk (hC.bx (i := 1) rfl) Try.isAgg24 Try.sizeOf24 e2) ?_
          obtain ⟨y37, h38, hb⟩ := bd hb
          refine lex.cl (⟨_, _, op_call (vs := [.agg #[.int .i64 b_0_0, .slice Ab_0_1 b_0_1.length cb_0_1]]) Try.call22 rfl rfl rfl, artin_Trivial_ok n hC.lt hb_0_0 (hC.rd (i := 3) rfl) h38⟩) ?_
          rintro _ w39 ⟨rfl, hK⟩
          replace hC := hC.merge hK
          clear hK
          refine lex.pure (v := .bool (!y37)) (pu_not (q := y37) rfl) ?_
          refine lex.pure (v := .bool (!y37)) (pu_assign rfl) ?_
          refine lex.nil ?_
          refine hK36 _ _ ?_
          obtain rfl := Option.some.inj hb
          refine Wc.ret ?_
          refine hKR _ _ ?_
          refine ⟨_, res1 Try.results7 (show RV _ _ _ (.tmp _) (.bool (!y37)) from rfl), _, rfl, rfl, hC.sel [] (by decide)⟩
        · replace hb := (cF hq35).symm.trans hb
          refine Wc.skip ?_
          refine hK30 _ _ ?_
          refine Wc.seq fun K40 hK40 => ?_
          refine Wc.seq fun K41 hK41 => ?_
          refine Wc.regionMix [] (frm [] ([] : List Fact) ([] : List Fact)) (fun _ => rfl) mixed (by decide +kernel) (by decide +kernel) fun w43 hw42 => ?_
          replace hC := hC.step (Fr.of_drew hw42)
          have hM := Fr.refl (fun k => k ∈ blocks ([] : List Fact)) w43
          clear hw42
          have hS := hC
          refine mixE.load hM (v := .agg #[.int .i64 b_0_0, .slice Ab_0_1 b_0_1.length cb_0_1]) (fun _ hF => ld_blk (hS.bx2 (i := 1) rfl [] (by decide) hF) Try.isAgg24 Try.sizeOf24 e2) ?_
          obtain ⟨y44, h45, hb⟩ := bd hb
          refine mixE.cl hM (⟨_, _, op_call (vs := [.agg #[.int .i64 b_0_0, .slice Ab_0_1 b_0_1.length cb_0_1]]) Try.call22 rfl rfl rfl, artin_Trivial_ok n hC.lt hb_0_0 (hC.rd (i := 3) rfl) h45⟩) ?_
          rintro _ w46 ⟨rfl, hK⟩
          replace hM := hM.none hK.fr
          refine ⟨hM, ?_⟩
          replace hC := hC.merge hK
          clear hK
          refine mixE.load hM (v := .agg #[.int .i64 b_0_0, .slice Ab_0_1 b_0_1.length cb_0_1]) (fun _ hF => ld_blk (hS.bx2 (i := 1) rfl [] (by decide) hF) Try.isAgg24 Try.sizeOf24 e2) ?_
          refine mixE.pure (v := .pointer (some ((⟨g4, 0, none⟩ : Addr).add 0))) (pu_field (sz := 1) Try.underlying24 rfl Try.sizeOf3 (by decide) rfl e2) ?_
          refine mixE.load hM (v := .int .i64 b_0_0) (fun _ hF => ld_fld (hS.bx2 (i := 1) rfl [] (by decide) hF) Try.isAgg3 rfl rfl) ?_
          refine mixE.pure (v := .agg #[.int .i64 b_0_0, .slice none 0 0]) (pu_builds (places := [(0, 1), (1, 1)]) (pv := [(0, .int .i64 b_0_0)]) Try.type24 Try.underlying24 rfl (mp_cons Try.type3 (mp_cons Try.type22 mp_nil rfl rfl) rfl rfl) rfl (by simp [Instr.fill, Value.cells])) ?_
          obtain ⟨y47, h48, hb⟩ := bd hb
          refine mixE.cl hM (⟨_, _, op_call (vs := [.agg #[.int .i64 b_0_0, .slice Ab_0_1 b_0_1.length cb_0_1], .agg #[.int .i64 b_0_0, .slice none 0 0]]) Try.call26 rfl rfl rfl, garside_Same_ok n hC.lt hb_0_0 (hC.rd (i := 3) rfl) hb_0_0 ((show Rep _ _ (.sl (.int .i64)) [.slice none 0 0] ([] : List Int) from ⟨none, 0, rfl, Nat.le_refl _, by omega, fun h => absurd h (by simp)⟩)) h48⟩) ?_
          rintro _ w49 ⟨rfl, hK⟩
          replace hM := hM.none hK.fr
          refine ⟨hM, ?_⟩
          replace hC := hC.merge hK
          clear hK
          refine mixE.pure (v := .bool (!(y44 == y47))) (pu_neqb (p := y44) (q := y47) Try.underlying4 rfl rfl) ?_
          refine mixE.nil ?_
          clear hS hM
          refine hK41 _ _ ?_
          refine Wc.cond (t := (!(y44 == y47))) (rfl) (fun hq50 => ?_) (fun hq50 => ?_)
          · replace hb := (cT hq50).symm.trans hb
            refine Wc.seq fun K51 hK51 => ?_
            refine Wc.region (by decide +kernel) ?_
            refine lex.pure (v := .bool false) (pu_assign rfl) ?_
            refine lex.nil ?_
            refine hK51 _ _ ?_
            obtain rfl := Option.some.inj hb
            refine Wc.ret ?_
            refine hKR _ _ ?_
            refine ⟨_, res1 Try.results7 (show RV _ _ _ (.tmp _) (.bool false) from rfl), _, rfl, rfl, hC.sel [] (by decide)⟩
          · replace hb := (cF hq50).symm.trans hb
            refine Wc.skip ?_
            refine hK40 _ _ ?_
            refine Wc.fresh fun E52 hE => ?_
            have e2 : E52 2 = .pointer (some ⟨g4, 0, none⟩) := (congrFun hE 2).trans e2
            have e3 : E52 3 = .pointer (some ⟨g7, 0, none⟩) := (congrFun hE 3).trans e3
            have e4 : E52 4 = .bool false := (congrFun hE 4).trans e4
            clear hE
            refine Wc.seq fun K53 hK53 => ?_
            refine Wc.regionPlan [30, 31] (frm [30, 31] ([] : List Fact) ([] : List Fact)) (chainP [0, 1] (.alt (chainP [2] (.alt (chainP [3] (chainP [4, 5, 6, 7, 8, 9] .done)) (chainP [7] (chainP [3, 4, 5, 6, 8, 9] .done)))) (chainP [7] (chainP [2, 3, 4, 5, 6, 8, 9] .done)))) (fun _ => rfl) mixed (by decide +kernel) (by decide +kernel) fun w55 hw54 => ?_
            replace hC := hC.step (Fr.of_drew hw54)
            have hM := Fr.refl (fun k => k ∈ blocks ([] : List Fact)) w55
            clear hw54
            have hS := hC
            have hD : Fr (fun k => k ∈ blocks (([] : List Fact) ++ ([] : List Fact))) w55 w55 := hM.wide
            refine mixPE_chain ?_
            refine mixE.steady hD (v := .agg #[.int .i64 b_0_0, .slice Ab_0_1 b_0_1.length cb_0_1]) (fun _ hF => ld_blk (hS.bx2 (i := 1) rfl [] (by decide) hF) Try.isAgg24 Try.sizeOf24 e2) ?_
            refine mixE.steady hD (v := .agg #[.int .i64 c_1_0, .slice Ac_1_1 c_1_1.length cc_1_1]) (fun _ hF => ld_blk (hS.bx2 (i := 0) rfl [] (by decide) hF) Try.isAgg24 Try.sizeOf24 e3) ?_
            refine mixE.nil ?_
            refine mixPE_alt ?_ ?_
            ·
              skip
              refine mixPE_chain ?_
              obtain ⟨y56, h57, hb⟩ := bd hb
              refine mixE.cl hM (⟨_, _, op_call (vs := [.agg #[.int .i64 c_1_0, .slice Ac_1_1 c_1_1.length cc_1_1]]) Try.call28 rfl rfl rfl, braid_Inverse_ok n hC.lt hc_1_0 (hC.rd (i := 2) rfl) h57⟩) ?_
              rintro _ w63 ⟨A59, m60, c61, rfl, hr58, hK⟩
              have hBf62 := Beside.cl (i := 0) hM hK rfl
              have hUf62 := hBf62.wide (H := ([] : List Fact))
              replace hM := hM.none hK.fr
              replace hD := hM.wide (H := ([] : List Fact))
              refine ⟨hM, ?_⟩
              replace hC := hC.merge hK
              clear hK
              obtain ⟨rfl, hl64, hc65⟩ := (hC.ow (i := 0) rfl).sl_len
              refine mixE.nil ?_
              refine mixPE_alt ?_ ?_
              ·
                skip
                refine mixPE_chain ?_
                obtain ⟨y66, h67, hb⟩ := bd hb
                refine mixE.cl hM (⟨_, _, op_call (vs := [.agg #[.int .i64 b_0_0, .slice Ab_0_1 b_0_1.length cb_0_1], .agg #[.int .i64 y56.1, .slice A59 y56.2.length c61]]) Try.call27 rfl rfl rfl, braid_Mul_ok n (hC.lentLt [.slice A59 y56.2.length c61]) hb_0_0 ((hC.rd (i := 4) rfl).lent [.slice A59 y56.2.length c61]) hr58 ((hC.ow (i := 0) rfl).lend (vs := [.slice A59 y56.2.length c61]) (by simp)) h67⟩) ?_
                rintro _ w74 ⟨A69, m70, c71, rfl, hr68, hr73, hK⟩
                have hBf72 := Beside.cl (i := 0) hM hK rfl
                have hUf72 := hBf72.wide (H := ([] : List Fact))
                replace hM := hM.none hK.fr
                replace hD := hM.wide (H := ([] : List Fact))
                refine ⟨hM, ?_⟩
                replace hC := hC.mergeF hK rfl
                clear hK
                obtain ⟨rfl, hl75, hc76⟩ := (hC.ow (i := 0) rfl).sl_len
                refine mixE.nil ?_
                refine mixPE_chain ?_
                refine mixE.pure (v := .tuple #[.agg #[.int .i64 y66.1, .slice A69 y66.2.1.length c71], .int .i64 y66.2.2]) (pu_move rfl) ?_
                refine mixE.pure (v := .agg #[.int .i64 y66.1, .slice A69 y66.2.1.length c71]) (pu_extract rfl rfl) ?_
                refine mixE.pure (v := .int .i64 y66.2.2) (pu_extract rfl rfl) ?_
                refine mixE.op hM (hC.alloc (cs := [.int .i64 0, .slice none 0 0]) Try.zeroValue24 rfl) ?_
                rintro _ w78 ⟨g77, rfl, hC, hF, hG⟩
                have hUf79 : g77 < w55.heap.size → g77 ∈ blocks (([] : List Fact) ++ ([] : List Fact)) := fun h => absurd (Nat.lt_of_lt_of_le h (Nat.le_trans hM.size hG)) (Nat.lt_irrefl _)
                clear hG
                replace hM := hM.none hF
                replace hD := hM.wide (H := ([] : List Fact))
                refine ⟨hM, ?_⟩
                refine mixE.sk hD (hC.seta (i := 0) (ds := [.int .i64 y66.1, .slice A69 y66.2.1.length c71]) rfl Try.type24 rfl rfl rfl rfl rfl) ?_
                rintro w80 ⟨hC, hF⟩
                replace hD := hD.besideG hUf79 hF
                clear hF
                refine ⟨hD, ?_⟩
                refine mixE.pure (v := .int .i64 y66.2.2) (pu_assign rfl) ?_
                refine mixE.nil ?_
                clear hS hM
                clear hD
                refine hK53 _ _ ?_
                refine Wc.seq fun K81 hK81 => ?_
                refine Wc.regionMix [] (frm [] ([] : List Fact) ([] : List Fact)) (fun _ => rfl) mixed (by decide +kernel) (by decide +kernel) fun w83 hw82 => ?_
                replace hC := hC.step (Fr.of_drew hw82)
                have hM := Fr.refl (fun k => k ∈ blocks ([] : List Fact)) w83
                clear hw82
                have hS := hC
                refine mixE.pure (v := .int .i64 y66.2.2) (pu_move rfl) ?_
                refine mixE.pure (v := .bool (!(decide (y66.2.2 = 0)))) (pu_neq (k := .i64) (a := y66.2.2) (b := 0) rfl rfl) ?_
                refine mixE.pure (v := .bool (!(decide (y66.2.2 = 0)))) (pu_move rfl) ?_
                rcases bS (!(decide (y66.2.2 = 0))) with hq84 | hq84
                · replace hb := (cT hq84).symm.trans hb
                  refine mixE.gskip (want_f rfl rfl (show _ = Value.bool (!(decide (y66.2.2 = 0))) from rfl) hq84) ?_
                  refine mixE.gskip (want_f rfl rfl (show _ = Value.bool (!(decide (y66.2.2 = 0))) from rfl) hq84) ?_
                  refine mixE.gskip (want_f rfl rfl (show _ = Value.bool (!(decide (y66.2.2 = 0))) from rfl) hq84) ?_
                  refine mixE.gskip (want_f rfl rfl (show _ = Value.bool (!(decide (y66.2.2 = 0))) from rfl) hq84) ?_
                  refine mixE.pure (v := .bool true) (pu_pickT (q := (!(decide (y66.2.2 = 0)))) rfl hq84 rfl) ?_
                  refine mixE.pure (v := .bool true) (pu_move rfl) ?_
                  refine mixE.gskip (want_f rfl rfl (show _ = Value.bool true from rfl) rfl) ?_
                  refine mixE.gskip (want_f rfl rfl (show _ = Value.bool true from rfl) rfl) ?_
                  refine mixE.gskip (want_f rfl rfl (show _ = Value.bool true from rfl) rfl) ?_
                  refine mixE.gskip (want_f rfl rfl (show _ = Value.bool true from rfl) rfl) ?_
                  refine mixE.gskip (want_f rfl rfl (show _ = Value.bool true from rfl) rfl) ?_
                  refine mixE.gskip (want_f rfl rfl (show _ = Value.bool true from rfl) rfl) ?_
                  refine mixE.pure (v := .bool true) (pu_pickT (q := true) rfl rfl rfl) ?_
                  refine mixE.pure (v := .bool true) (pu_assign rfl) ?_
                  refine mixE.nil ?_
                  clear hS hM
                  refine hK81 _ _ ?_
                  obtain rfl := Option.some.inj hb
                  refine Wc.ret ?_
                  refine hKR _ _ ?_
                  refine ⟨_, res1 Try.results7 (show RV _ _ _ (.tmp _) (.bool true) from rfl), _, rfl, rfl, hC.sel [] (by decide)⟩
                · replace hb := (cF hq84).symm.trans hb
                  refine mixE.gpure rfl (want_t rfl rfl (show _ = Value.bool (!(decide (y66.2.2 = 0))) from rfl) hq84) (v := .pointer (some ((⟨g77, 0, none⟩ : Addr).add 1))) (pu_field (sz := 1) Try.underlying24 rfl Try.sizeOf22 (by decide) rfl rfl) ?_
                  refine mixE.gload rfl (want_t rfl rfl (show _ = Value.bool (!(decide (y66.2.2 = 0))) from rfl) hq84) hM (v := .slice A69 y66.2.1.length c71) (fun _ hF => ld_fld (hS.bx2 (i := 0) rfl [] (by decide) hF) Try.isAgg22 rfl rfl) ?_
                  refine mixE.gpure rfl (want_t rfl rfl (show _ = Value.bool (!(decide (y66.2.2 = 0))) from rfl) hq84) (v := .int .i64 (y66.2.1.length : Int)) (pu_len (A := A69) (n := y66.2.1.length) (m := c71) Try.underlying22 rfl) ?_
                  refine mixE.gpure rfl (want_t rfl rfl (show _ = Value.bool (!(decide (y66.2.2 = 0))) from rfl) hq84) (v := .bool (decide (20 < (y66.2.1.length : Int)))) (pu_gtr (k := .i64) (a := (y66.2.1.length : Int)) (b := 20) rfl rfl) ?_
                  refine mixE.pure (v := .bool (decide (20 < (y66.2.1.length : Int)))) (pu_pickF (q := (!(decide (y66.2.2 = 0)))) rfl hq84 rfl) ?_
                  refine mixE.pure (v := .bool (decide (20 < (y66.2.1.length : Int)))) (pu_move rfl) ?_
                  rcases bS (decide (20 < (y66.2.1.length : Int))) with hq85 | hq85
                  · replace hb := (cT hq85).symm.trans hb
                    refine mixE.gskip (want_f rfl rfl (show _ = Value.bool (decide (20 < (y66.2.1.length : Int))) from rfl) hq85) ?_
                    refine mixE.gskip (want_f rfl rfl (show _ = Value.bool (decide (20 < (y66.2.1.length : Int))) from rfl) hq85) ?_
                    refine mixE.gskip (want_f rfl rfl (show _ = Value.bool (decide (20 < (y66.2.1.length : Int))) from rfl) hq85) ?_
                    refine mixE.gskip (want_f rfl rfl (show _ = Value.bool (decide (20 < (y66.2.1.length : Int))) from rfl) hq85) ?_
                    refine mixE.gskip (want_f rfl rfl (show _ = Value.bool (decide (20 < (y66.2.1.length : Int))) from rfl) hq85) ?_
                    refine mixE.gskip (want_f rfl rfl (show _ = Value.bool (decide (20 < (y66.2.1.length : Int))) from rfl) hq85) ?_
                    refine mixE.pure (v := .bool true) (pu_pickT (q := (decide (20 < (y66.2.1.length : Int)))) rfl hq85 rfl) ?_
                    refine mixE.pure (v := .bool true) (pu_assign rfl) ?_
                    refine mixE.nil ?_
                    clear hS hM
                    refine hK81 _ _ ?_
                    obtain rfl := Option.some.inj hb
                    refine Wc.ret ?_
                    refine hKR _ _ ?_
                    refine ⟨_, res1 Try.results7 (show RV _ _ _ (.tmp _) (.bool true) from rfl), _, rfl, rfl, hC.sel [] (by decide)⟩
                  · replace hb := (cF hq85).symm.trans hb
                    refine mixE.gload rfl (want_t rfl rfl (show _ = Value.bool (decide (20 < (y66.2.1.length : Int))) from rfl) hq85) hM (v := .agg #[.int .i64 y66.1, .slice A69 y66.2.1.length c71]) (fun _ hF => ld_blk (hS.bx2 (i := 0) rfl [] (by decide) hF) Try.isAgg24 Try.sizeOf24 rfl) ?_
                    obtain ⟨y86, h87, hb⟩ := bd hb
                    refine mixE.gcl rfl (want_t rfl rfl (show _ = Value.bool (decide (20 < (y66.2.1.length : Int))) from rfl) hq85) hM (⟨_, _, op_call (vs := [.agg #[.int .i64 y66.1, .slice A69 y66.2.1.length c71]]) Try.call22 rfl rfl rfl, artin_Trivial_ok n (hC.lentLt [.slice A69 y66.2.1.length c71]) hr68 ((hC.ow (i := 1) rfl).lend (vs := [.slice A69 y66.2.1.length c71]) (by simp)) h87⟩) ?_
                    rintro _ w88 ⟨rfl, hK⟩
                    replace hM := hM.none hK.fr
                    refine ⟨hM, ?_⟩
                    replace hC := hC.mergeF hK rfl
                    clear hK
                    refine mixE.gload rfl (want_t rfl rfl (show _ = Value.bool (decide (20 < (y66.2.1.length : Int))) from rfl) hq85) hM (v := .agg #[.int .i64 b_0_0, .slice Ab_0_1 b_0_1.length cb_0_1]) (fun _ hF => ld_blk (hS.bx2 (i := 4) rfl [] (by decide) hF) Try.isAgg24 Try.sizeOf24 e2) ?_
                    refine mixE.gload rfl (want_t rfl rfl (show _ = Value.bool (decide (20 < (y66.2.1.length : Int))) from rfl) hq85) hM (v := .agg #[.int .i64 c_1_0, .slice Ac_1_1 c_1_1.length cc_1_1]) (fun _ hF => ld_blk (hS.bx2 (i := 3) rfl [] (by decide) hF) Try.isAgg24 Try.sizeOf24 e3) ?_
                    obtain ⟨y89, h90, hb⟩ := bd hb
                    refine mixE.gcl rfl (want_t rfl rfl (show _ = Value.bool (decide (20 < (y66.2.1.length : Int))) from rfl) hq85) hM (⟨_, _, op_call (vs := [.agg #[.int .i64 b_0_0, .slice Ab_0_1 b_0_1.length cb_0_1], .agg #[.int .i64 c_1_0, .slice Ac_1_1 c_1_1.length cc_1_1]]) Try.call26 rfl rfl rfl, garside_Same_ok n hC.lt hb_0_0 (hC.rd (i := 6) rfl) hc_1_0 (hC.rd (i := 5) rfl) h90⟩) ?_
                    rintro _ w91 ⟨rfl, hK⟩
                    replace hM := hM.none hK.fr
                    refine ⟨hM, ?_⟩
                    replace hC := hC.merge hK
                    clear hK
                    refine mixE.gpure rfl (want_t rfl rfl (show _ = Value.bool (decide (20 < (y66.2.1.length : Int))) from rfl) hq85) (v := .bool (y86 == y89)) (pu_eqlb (p := y86) (q := y89) Try.underlying4 rfl rfl) ?_
                    refine mixE.pure (v := .bool (y86 == y89)) (pu_pickF (q := (decide (20 < (y66.2.1.length : Int)))) rfl hq85 rfl) ?_
                    refine mixE.pure (v := .bool (y86 == y89)) (pu_assign rfl) ?_
                    refine mixE.nil ?_
                    clear hS hM
                    refine hK81 _ _ ?_
                    obtain rfl := Option.some.inj hb
                    refine Wc.ret ?_
                    refine hKR _ _ ?_
                    refine ⟨_, res1 Try.results7 (show RV _ _ _ (.tmp _) (.bool (y86 == y89)) from rfl), _, rfl, rfl, hC.sel [] (by decide)⟩
              ·
                skip
                refine mixPE_chain ?_
                refine mixE.op hM (hC.alloc (cs := [.int .i64 0, .slice none 0 0]) Try.zeroValue24 rfl) ?_
                rintro _ w93 ⟨g92, rfl, hC, hF, hG⟩
                have hUf94 : g92 < w55.heap.size → g92 ∈ blocks (([] : List Fact) ++ ([] : List Fact)) := fun h => absurd (Nat.lt_of_lt_of_le h (Nat.le_trans hM.size hG)) (Nat.lt_irrefl _)
                clear hG
                replace hM := hM.none hF
                replace hD := hM.wide (H := ([] : List Fact))
                refine ⟨hM, ?_⟩
                refine mixE.nil ?_
                refine mixPE_chain ?_
                obtain ⟨y66, h96, hb⟩ := bd hb
                refine mixE.cl hM (⟨_, _, op_call (vs := [.agg #[.int .i64 b_0_0, .slice Ab_0_1 b_0_1.length cb_0_1], .agg #[.int .i64 y56.1, .slice A59 y56.2.length c61]]) Try.call27 rfl rfl rfl, braid_Mul_ok n (hC.lentLt [.slice A59 y56.2.length c61]) hb_0_0 ((hC.rd (i := 5) rfl).lent [.slice A59 y56.2.length c61]) hr58 ((hC.ow (i := 1) rfl).lend (vs := [.slice A59 y56.2.length c61]) (by simp)) h96⟩) ?_
                rintro _ w103 ⟨A98, m99, c100, rfl, hr97, hr102, hK⟩
                have hBf101 := Beside.cl (i := 0) hM hK rfl
                have hUf101 := hBf101.wide (H := ([] : List Fact))
                replace hM := hM.none hK.fr
                replace hD := hM.wide (H := ([] : List Fact))
                refine ⟨hM, ?_⟩
                replace hC := hC.mergeF hK rfl
                clear hK
                obtain ⟨rfl, hl104, hc105⟩ := (hC.ow (i := 0) rfl).sl_len
                refine mixE.pure (v := .tuple #[.agg #[.int .i64 y66.1, .slice A98 y66.2.1.length c100], .int .i64 y66.2.2]) (pu_move rfl) ?_
                refine mixE.pure (v := .agg #[.int .i64 y66.1, .slice A98 y66.2.1.length c100]) (pu_extract rfl rfl) ?_
                refine mixE.pure (v := .int .i64 y66.2.2) (pu_extract rfl rfl) ?_
                refine mixE.sk hD (hC.seta (i := 1) (ds := [.int .i64 y66.1, .slice A98 y66.2.1.length c100]) rfl Try.type24 rfl rfl rfl rfl rfl) ?_
                rintro w106 ⟨hC, hF⟩
                replace hD := hD.besideG hUf94 hF
                clear hF
                refine ⟨hD, ?_⟩
                refine mixE.pure (v := .int .i64 y66.2.2) (pu_assign rfl) ?_
                refine mixE.nil ?_
                clear hS hM
                clear hD
                refine hK53 _ _ ?_
                refine Wc.seq fun K107 hK107 => ?_
                refine Wc.regionMix [] (frm [] ([] : List Fact) ([] : List Fact)) (fun _ => rfl) mixed (by decide +kernel) (by decide +kernel) fun w109 hw108 => ?_
                replace hC := hC.step (Fr.of_drew hw108)
                have hM := Fr.refl (fun k => k ∈ blocks ([] : List Fact)) w109
                clear hw108
                have hS := hC
                refine mixE.pure (v := .int .i64 y66.2.2) (pu_move rfl) ?_
                refine mixE.pure (v := .bool (!(decide (y66.2.2 = 0)))) (pu_neq (k := .i64) (a := y66.2.2) (b := 0) rfl rfl) ?_
                refine mixE.pure (v := .bool (!(decide (y66.2.2 = 0)))) (pu_move rfl) ?_
                rcases bS (!(decide (y66.2.2 = 0))) with hq110 | hq110
                · replace hb := (cT hq110).symm.trans hb
                  refine mixE.gskip (want_f rfl rfl (show _ = Value.bool (!(decide (y66.2.2 = 0))) from rfl) hq110) ?_
                  refine mixE.gskip (want_f rfl rfl (show _ = Value.bool (!(decide (y66.2.2 = 0))) from rfl) hq110) ?_
                  refine mixE.gskip (want_f rfl rfl (show _ = Value.bool (!(decide (y66.2.2 = 0))) from rfl) hq110) ?_
                  refine mixE.gskip (want_f rfl rfl (show _ = Value.bool (!(decide (y66.2.2 = 0))) from rfl) hq110) ?_
                  refine mixE.pure (v := .bool true) (pu_pickT (q := (!(decide (y66.2.2 = 0)))) rfl hq110 rfl) ?_
                  refine mixE.pure (v := .bool true) (pu_move rfl) ?_
                  refine mixE.gskip (want_f rfl rfl (show _ = Value.bool true from rfl) rfl) ?_
                  refine mixE.gskip (want_f rfl rfl (show _ = Value.bool true from rfl) rfl) ?_
                  refine mixE.gskip (want_f rfl rfl (show _ = Value.bool true from rfl) rfl) ?_
                  refine mixE.gskip (want_f rfl rfl (show _ = Value.bool true from rfl) rfl) ?_
                  refine mixE.gskip (want_f rfl rfl (show _ = Value.bool true from rfl) rfl) ?_
                  refine mixE.gskip (want_f rfl rfl (show _ = Value.bool true from rfl) rfl) ?_
                  refine mixE.pure (v := .bool true) (pu_pickT (q := true) rfl rfl rfl) ?_
                  refine mixE.pure (v := .bool true) (pu_assign rfl) ?_
                  refine mixE.nil ?_
                  clear hS hM
                  refine hK107 _ _ ?_
                  obtain rfl := Option.some.inj hb
                  refine Wc.ret ?_
                  refine hKR _ _ ?_
                  refine ⟨_, res1 Try.results7 (show RV _ _ _ (.tmp _) (.bool true) from rfl), _, rfl, rfl, hC.sel [] (by decide)⟩
                · replace hb := (cF hq110).symm.trans hb
                  refine mixE.gpure rfl (want_t rfl rfl (show _ = Value.bool (!(decide (y66.2.2 = 0))) from rfl) hq110) (v := .pointer (some ((⟨g92, 0, none⟩ : Addr).add 1))) (pu_field (sz := 1) Try.underlying24 rfl Try.sizeOf22 (by decide) rfl rfl) ?_
                  refine mixE.gload rfl (want_t rfl rfl (show _ = Value.bool (!(decide (y66.2.2 = 0))) from rfl) hq110) hM (v := .slice A98 y66.2.1.length c100) (fun _ hF => ld_fld (hS.bx2 (i := 1) rfl [] (by decide) hF) Try.isAgg22 rfl rfl) ?_
                  refine mixE.gpure rfl (want_t rfl rfl (show _ = Value.bool (!(decide (y66.2.2 = 0))) from rfl) hq110) (v := .int .i64 (y66.2.1.length : Int)) (pu_len (A := A98) (n := y66.2.1.length) (m := c100) Try.underlying22 rfl) ?_
                  refine mixE.gpure rfl (want_t rfl rfl (show _ = Value.bool (!(decide (y66.2.2 = 0))) from rfl) hq110) (v := .bool (decide (20 < (y66.2.1.length : Int)))) (pu_gtr (k := .i64) (a := (y66.2.1.length : Int)) (b := 20) rfl rfl) ?_
                  refine mixE.pure (v := .bool (decide (20 < (y66.2.1.length : Int)))) (pu_pickF (q := (!(decide (y66.2.2 = 0)))) rfl hq110 rfl) ?_
                  refine mixE.pure (v := .bool (decide (20 < (y66.2.1.length : Int)))) (pu_move rfl) ?_
                  rcases bS (decide (20 < (y66.2.1.length : Int))) with hq111 | hq111
                  · replace hb := (cT hq111).symm.trans hb
                    refine mixE.gskip (want_f rfl rfl (show _ = Value.bool (decide (20 < (y66.2.1.length : Int))) from rfl) hq111) ?_
                    refine mixE.gskip (want_f rfl rfl (show _ = Value.bool (decide (20 < (y66.2.1.length : Int))) from rfl) hq111) ?_
                    refine mixE.gskip (want_f rfl rfl (show _ = Value.bool (decide (20 < (y66.2.1.length : Int))) from rfl) hq111) ?_
                    refine mixE.gskip (want_f rfl rfl (show _ = Value.bool (decide (20 < (y66.2.1.length : Int))) from rfl) hq111) ?_
                    refine mixE.gskip (want_f rfl rfl (show _ = Value.bool (decide (20 < (y66.2.1.length : Int))) from rfl) hq111) ?_
                    refine mixE.gskip (want_f rfl rfl (show _ = Value.bool (decide (20 < (y66.2.1.length : Int))) from rfl) hq111) ?_
                    refine mixE.pure (v := .bool true) (pu_pickT (q := (decide (20 < (y66.2.1.length : Int)))) rfl hq111 rfl) ?_
                    refine mixE.pure (v := .bool true) (pu_assign rfl) ?_
                    refine mixE.nil ?_
                    clear hS hM
                    refine hK107 _ _ ?_
                    obtain rfl := Option.some.inj hb
                    refine Wc.ret ?_
                    refine hKR _ _ ?_
                    refine ⟨_, res1 Try.results7 (show RV _ _ _ (.tmp _) (.bool true) from rfl), _, rfl, rfl, hC.sel [] (by decide)⟩
                  · replace hb := (cF hq111).symm.trans hb
                    refine mixE.gload rfl (want_t rfl rfl (show _ = Value.bool (decide (20 < (y66.2.1.length : Int))) from rfl) hq111) hM (v := .agg #[.int .i64 y66.1, .slice A98 y66.2.1.length c100]) (fun _ hF => ld_blk (hS.bx2 (i := 1) rfl [] (by decide) hF) Try.isAgg24 Try.sizeOf24 rfl) ?_
                    obtain ⟨y86, h113, hb⟩ := bd hb
                    refine mixE.gcl rfl (want_t rfl rfl (show _ = Value.bool (decide (20 < (y66.2.1.length : Int))) from rfl) hq111) hM (⟨_, _, op_call (vs := [.agg #[.int .i64 y66.1, .slice A98 y66.2.1.length c100]]) Try.call22 rfl rfl rfl, artin_Trivial_ok n (hC.lentLt [.slice A98 y66.2.1.length c100]) hr97 ((hC.ow (i := 0) rfl).lend (vs := [.slice A98 y66.2.1.length c100]) (by simp)) h113⟩) ?_
                    rintro _ w114 ⟨rfl, hK⟩
                    replace hM := hM.none hK.fr
                    refine ⟨hM, ?_⟩
                    replace hC := hC.mergeF hK rfl
                    clear hK
                    refine mixE.gload rfl (want_t rfl rfl (show _ = Value.bool (decide (20 < (y66.2.1.length : Int))) from rfl) hq111) hM (v := .agg #[.int .i64 b_0_0, .slice Ab_0_1 b_0_1.length cb_0_1]) (fun _ hF => ld_blk (hS.bx2 (i := 4) rfl [] (by decide) hF) Try.isAgg24 Try.sizeOf24 e2) ?_
                    refine mixE.gload rfl (want_t rfl rfl (show _ = Value.bool (decide (20 < (y66.2.1.length : Int))) from rfl) hq111) hM (v := .agg #[.int .i64 c_1_0, .slice Ac_1_1 c_1_1.length cc_1_1]) (fun _ hF => ld_blk (hS.bx2 (i := 3) rfl [] (by decide) hF) Try.isAgg24 Try.sizeOf24 e3) ?_
                    obtain ⟨y89, h116, hb⟩ := bd hb
                    refine mixE.gcl rfl (want_t rfl rfl (show _ = Value.bool (decide (20 < (y66.2.1.length : Int))) from rfl) hq111) hM (⟨_, _, op_call (vs := [.agg #[.int .i64 b_0_0, .slice Ab_0_1 b_0_1.length cb_0_1], .agg #[.int .i64 c_1_0, .slice Ac_1_1 c_1_1.length cc_1_1]]) Try.call26 rfl rfl rfl, garside_Same_ok n hC.lt hb_0_0 (hC.rd (i := 6) rfl) hc_1_0 (hC.rd (i := 5) rfl) h116⟩) ?_
                    rintro _ w117 ⟨rfl, hK⟩
                    replace hM := hM.none hK.fr
                    refine ⟨hM, ?_⟩
                    replace hC := hC.merge hK
                    clear hK
                    refine mixE.gpure rfl (want_t rfl rfl (show _ = Value.bool (decide (20 < (y66.2.1.length : Int))) from rfl) hq111) (v := .bool (y86 == y89)) (pu_eqlb (p := y86) (q := y89) Try.underlying4 rfl rfl) ?_
                    refine mixE.pure (v := .bool (y86 == y89)) (pu_pickF (q := (decide (20 < (y66.2.1.length : Int)))) rfl hq111 rfl) ?_
                    refine mixE.pure (v := .bool (y86 == y89)) (pu_assign rfl) ?_
                    refine mixE.nil ?_
                    clear hS hM
                    refine hK107 _ _ ?_
                    obtain rfl := Option.some.inj hb
                    refine Wc.ret ?_
                    refine hKR _ _ ?_
                    refine ⟨_, res1 Try.results7 (show RV _ _ _ (.tmp _) (.bool (y86 == y89)) from rfl), _, rfl, rfl, hC.sel [] (by decide)⟩
            ·
              skip
              refine mixPE_chain ?_
              refine mixE.op hM (hC.alloc (cs := [.int .i64 0, .slice none 0 0]) Try.zeroValue24 rfl) ?_
              rintro _ w119 ⟨g118, rfl, hC, hF, hG⟩
              have hUf120 : g118 < w55.heap.size → g118 ∈ blocks (([] : List Fact) ++ ([] : List Fact)) := fun h => absurd (Nat.lt_of_lt_of_le h (Nat.le_trans hM.size hG)) (Nat.lt_irrefl _)
              clear hG
              replace hM := hM.none hF
              replace hD := hM.wide (H := ([] : List Fact))
              refine ⟨hM, ?_⟩
              refine mixE.nil ?_
              refine mixPE_chain ?_
              obtain ⟨y56, h122, hb⟩ := bd hb
              refine mixE.cl hM (⟨_, _, op_call (vs := [.agg #[.int .i64 c_1_0, .slice Ac_1_1 c_1_1.length cc_1_1]]) Try.call28 rfl rfl rfl, braid_Inverse_ok n hC.lt hc_1_0 (hC.rd (i := 3) rfl) h122⟩) ?_
              rintro _ w128 ⟨A124, m125, c126, rfl, hr123, hK⟩
              have hBf127 := Beside.cl (i := 0) hM hK rfl
              have hUf127 := hBf127.wide (H := ([] : List Fact))
              replace hM := hM.none hK.fr
              replace hD := hM.wide (H := ([] : List Fact))
              refine ⟨hM, ?_⟩
              replace hC := hC.merge hK
              clear hK
              obtain ⟨rfl, hl129, hc130⟩ := (hC.ow (i := 0) rfl).sl_len
              obtain ⟨y66, h132, hb⟩ := bd hb
              refine mixE.cl hM (⟨_, _, op_call (vs := [.agg #[.int .i64 b_0_0, .slice Ab_0_1 b_0_1.length cb_0_1], .agg #[.int .i64 y56.1, .slice A124 y56.2.length c126]]) Try.call27 rfl rfl rfl, braid_Mul_ok n (hC.lentLt [.slice A124 y56.2.length c126]) hb_0_0 ((hC.rd (i := 5) rfl).lent [.slice A124 y56.2.length c126]) hr123 ((hC.ow (i := 0) rfl).lend (vs := [.slice A124 y56.2.length c126]) (by simp)) h132⟩) ?_
              rintro _ w139 ⟨A134, m135, c136, rfl, hr133, hr138, hK⟩
              have hBf137 := Beside.cl (i := 0) hM hK rfl
              have hUf137 := hBf137.wide (H := ([] : List Fact))
              replace hM := hM.none hK.fr
              replace hD := hM.wide (H := ([] : List Fact))
              refine ⟨hM, ?_⟩
              replace hC := hC.mergeF hK rfl
              clear hK
              obtain ⟨rfl, hl140, hc141⟩ := (hC.ow (i := 0) rfl).sl_len
              refine mixE.pure (v := .tuple #[.agg #[.int .i64 y66.1, .slice A134 y66.2.1.length c136], .int .i64 y66.2.2]) (pu_move rfl) ?_
              refine mixE.pure (v := .agg #[.int .i64 y66.1, .slice A134 y66.2.1.length c136]) (pu_extract rfl rfl) ?_
              refine mixE.pure (v := .int .i64 y66.2.2) (pu_extract rfl rfl) ?_
              refine mixE.sk hD (hC.seta (i := 2) (ds := [.int .i64 y66.1, .slice A134 y66.2.1.length c136]) rfl Try.type24 rfl rfl rfl rfl rfl) ?_
              rintro w142 ⟨hC, hF⟩
              replace hD := hD.besideG hUf120 hF
              clear hF
              refine ⟨hD, ?_⟩
              refine mixE.pure (v := .int .i64 y66.2.2) (pu_assign rfl) ?_
              refine mixE.nil ?_
              clear hS hM
              clear hD
              refine hK53 _ _ ?_
              refine Wc.seq fun K143 hK143 => ?_
              refine Wc.regionMix [] (frm [] ([] : List Fact) ([] : List Fact)) (fun _ => rfl) mixed (by decide +kernel) (by decide +kernel) fun w145 hw144 => ?_
              replace hC := hC.step (Fr.of_drew hw144)
              have hM := Fr.refl (fun k => k ∈ blocks ([] : List Fact)) w145
              clear hw144
              have hS := hC
              refine mixE.pure (v := .int .i64 y66.2.2) (pu_move rfl) ?_
              refine mixE.pure (v := .bool (!(decide (y66.2.2 = 0)))) (pu_neq (k := .i64) (a := y66.2.2) (b := 0) rfl rfl) ?_
              refine mixE.pure (v := .bool (!(decide (y66.2.2 = 0)))) (pu_move rfl) ?_
              rcases bS (!(decide (y66.2.2 = 0))) with hq146 | hq146
              · replace hb := (cT hq146).symm.trans hb
                refine mixE.gskip (want_f rfl rfl (show _ = Value.bool (!(decide (y66.2.2 = 0))) from rfl) hq146) ?_
                refine mixE.gskip (want_f rfl rfl (show _ = Value.bool (!(decide (y66.2.2 = 0))) from rfl) hq146) ?_
                refine mixE.gskip (want_f rfl rfl (show _ = Value.bool (!(decide (y66.2.2 = 0))) from rfl) hq146) ?_
                refine mixE.gskip (want_f rfl rfl (show _ = Value.bool (!(decide (y66.2.2 = 0))) from rfl) hq146) ?_
                refine mixE.pure (v := .bool true) (pu_pickT (q := (!(decide (y66.2.2 = 0)))) rfl hq146 rfl) ?_
                refine mixE.pure (v := .bool true) (pu_move rfl) ?_
                refine mixE.gskip (want_f rfl rfl (show _ = Value.bool true from rfl) rfl) ?_
                refine mixE.gskip (want_f rfl rfl (show _ = Value.bool true from rfl) rfl) ?_
                refine mixE.gskip (want_f rfl rfl (show _ = Value.bool true from rfl) rfl) ?_
                refine mixE.gskip (want_f rfl rfl (show _ = Value.bool true from rfl) rfl) ?_
                refine mixE.gskip (want_f rfl rfl (show _ = Value.bool true from rfl) rfl) ?_
                refine mixE.gskip (want_f rfl rfl (show _ = Value.bool true from rfl) rfl) ?_
                refine mixE.pure (v := .bool true) (pu_pickT (q := true) rfl rfl rfl) ?_
                refine mixE.pure (v := .bool true) (pu_assign rfl) ?_
                refine mixE.nil ?_
                clear hS hM
                refine hK143 _ _ ?_
                obtain rfl := Option.some.inj hb
                refine Wc.ret ?_
                refine hKR _ _ ?_
                refine ⟨_, res1 Try.results7 (show RV _ _ _ (.tmp _) (.bool true) from rfl), _, rfl, rfl, hC.sel [] (by decide)⟩
              · replace hb := (cF hq146).symm.trans hb
                refine mixE.gpure rfl (want_t rfl rfl (show _ = Value.bool (!(decide (y66.2.2 = 0))) from rfl) hq146) (v := .pointer (some ((⟨g118, 0, none⟩ : Addr).add 1))) (pu_field (sz := 1) Try.underlying24 rfl Try.sizeOf22 (by decide) rfl rfl) ?_
                refine mixE.gload rfl (want_t rfl rfl (show _ = Value.bool (!(decide (y66.2.2 = 0))) from rfl) hq146) hM (v := .slice A134 y66.2.1.length c136) (fun _ hF => ld_fld (hS.bx2 (i := 2) rfl [] (by decide) hF) Try.isAgg22 rfl rfl) ?_
                refine mixE.gpure rfl (want_t rfl rfl (show _ = Value.bool (!(decide (y66.2.2 = 0))) from rfl) hq146) (v := .int .i64 (y66.2.1.length : Int)) (pu_len (A := A134) (n := y66.2.1.length) (m := c136) Try.underlying22 rfl) ?_
                refine mixE.gpure rfl (want_t rfl rfl (show _ = Value.bool (!(decide (y66.2.2 = 0))) from rfl) hq146) (v := .bool (decide (20 < (y66.2.1.length : Int)))) (pu_gtr (k := .i64) (a := (y66.2.1.length : Int)) (b := 20) rfl rfl) ?_
                refine mixE.pure (v := .bool (decide (20 < (y66.2.1.length : Int)))) (pu_pickF (q := (!(decide (y66.2.2 = 0)))) rfl hq146 rfl) ?_
                refine mixE.pure (v := .bool (decide (20 < (y66.2.1.length : Int)))) (pu_move rfl) ?_
                rcases bS (decide (20 < (y66.2.1.length : Int))) with hq147 | hq147
                · replace hb := (cT hq147).symm.trans hb
                  refine mixE.gskip (want_f rfl rfl (show _ = Value.bool (decide (20 < (y66.2.1.length : Int))) from rfl) hq147) ?_
                  refine mixE.gskip (want_f rfl rfl (show _ = Value.bool (decide (20 < (y66.2.1.length : Int))) from rfl) hq147) ?_
                  refine mixE.gskip (want_f rfl rfl (show _ = Value.bool (decide (20 < (y66.2.1.length : Int))) from rfl) hq147) ?_
                  refine mixE.gskip (want_f rfl rfl (show _ = Value.bool (decide (20 < (y66.2.1.length : Int))) from rfl) hq147) ?_
                  refine mixE.gskip (want_f rfl rfl (show _ = Value.bool (decide (20 < (y66.2.1.length : Int))) from rfl) hq147) ?_
                  refine mixE.gskip (want_f rfl rfl (show _ = Value.bool (decide (20 < (y66.2.1.length : Int))) from rfl) hq147) ?_
                  refine mixE.pure (v := .bool true) (pu_pickT (q := (decide (20 < (y66.2.1.length : Int)))) rfl hq147 rfl) ?_
                  refine mixE.pure (v := .bool true) (pu_assign rfl) ?_
                  refine mixE.nil ?_
                  clear hS hM
                  refine hK143 _ _ ?_
                  obtain rfl := Option.some.inj hb
                  refine Wc.ret ?_
                  refine hKR _ _ ?_
                  refine ⟨_, res1 Try.results7 (show RV _ _ _ (.tmp _) (.bool true) from rfl), _, rfl, rfl, hC.sel [] (by decide)⟩
                · replace hb := (cF hq147).symm.trans hb
                  refine mixE.gload rfl (want_t rfl rfl (show _ = Value.bool (decide (20 < (y66.2.1.length : Int))) from rfl) hq147) hM (v := .agg #[.int .i64 y66.1, .slice A134 y66.2.1.length c136]) (fun _ hF => ld_blk (hS.bx2 (i := 2) rfl [] (by decide) hF) Try.isAgg24 Try.sizeOf24 rfl) ?_
                  obtain ⟨y86, h149, hb⟩ := bd hb
                  refine mixE.gcl rfl (want_t rfl rfl (show _ = Value.bool (decide (20 < (y66.2.1.length : Int))) from rfl) hq147) hM (⟨_, _, op_call (vs := [.agg #[.int .i64 y66.1, .slice A134 y66.2.1.length c136]]) Try.call22 rfl rfl rfl, artin_Trivial_ok n (hC.lentLt [.slice A134 y66.2.1.length c136]) hr133 ((hC.ow (i := 0) rfl).lend (vs := [.slice A134 y66.2.1.length c136]) (by simp)) h149⟩) ?_
                  rintro _ w150 ⟨rfl, hK⟩
                  replace hM := hM.none hK.fr
                  refine ⟨hM, ?_⟩
                  replace hC := hC.mergeF hK rfl
                  clear hK
                  refine mixE.gload rfl (want_t rfl rfl (show _ = Value.bool (decide (20 < (y66.2.1.length : Int))) from rfl) hq147) hM (v := .agg #[.int .i64 b_0_0, .slice Ab_0_1 b_0_1.length cb_0_1]) (fun _ hF => ld_blk (hS.bx2 (i := 4) rfl [] (by decide) hF) Try.isAgg24 Try.sizeOf24 e2) ?_
                  refine mixE.gload rfl (want_t rfl rfl (show _ = Value.bool (decide (20 < (y66.2.1.length : Int))) from rfl) hq147) hM (v := .agg #[.int .i64 c_1_0, .slice Ac_1_1 c_1_1.length cc_1_1]) (fun _ hF => ld_blk (hS.bx2 (i := 3) rfl [] (by decide) hF) Try.isAgg24 Try.sizeOf24 e3) ?_
                  obtain ⟨y89, h152, hb⟩ := bd hb
                  refine mixE.gcl rfl (want_t rfl rfl (show _ = Value.bool (decide (20 < (y66.2.1.length : Int))) from rfl) hq147) hM (⟨_, _, op_call (vs := [.agg #[.int .i64 b_0_0, .slice Ab_0_1 b_0_1.length cb_0_1], .agg #[.int .i64 c_1_0, .slice Ac_1_1 c_1_1.length cc_1_1]]) Try.call26 rfl rfl rfl, garside_Same_ok n hC.lt hb_0_0 (hC.rd (i := 6) rfl) hc_1_0 (hC.rd (i := 5) rfl) h152⟩) ?_
                  rintro _ w153 ⟨rfl, hK⟩
                  replace hM := hM.none hK.fr
                  refine ⟨hM, ?_⟩
                  replace hC := hC.merge hK
                  clear hK
                  refine mixE.gpure rfl (want_t rfl rfl (show _ = Value.bool (decide (20 < (y66.2.1.length : Int))) from rfl) hq147) (v := .bool (y86 == y89)) (pu_eqlb (p := y86) (q := y89) Try.underlying4 rfl rfl) ?_
                  refine mixE.pure (v := .bool (y86 == y89)) (pu_pickF (q := (decide (20 < (y66.2.1.length : Int)))) rfl hq147 rfl) ?_
                  refine mixE.pure (v := .bool (y86 == y89)) (pu_assign rfl) ?_
                  refine mixE.nil ?_
                  clear hS hM
                  refine hK143 _ _ ?_
                  obtain rfl := Option.some.inj hb
                  refine Wc.ret ?_
                  refine hKR _ _ ?_
                  refine ⟨_, res1 Try.results7 (show RV _ _ _ (.tmp _) (.bool (y86 == y89)) from rfl), _, rfl, rfl, hC.sel [] (by decide)⟩
end Go.Proofs.Ytlkmcbgkohpmiaa
