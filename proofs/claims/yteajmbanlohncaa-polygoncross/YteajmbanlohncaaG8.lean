/- The walks: part 8. -/
import Derived.Test.YteajmbanlohncaaS
import Derived.Test.YteajmbanlohncaaG1
import Derived.Test.YteajmbanlohncaaG6
import Derived.Test.YteajmbanlohncaaG7
set_option linter.unusedVariables false
set_option linter.unusedSimpArgs false
namespace Go.Proofs.Yteajmbanlohncaa
open Ev
set_option maxRecDepth 100000 in
set_option maxHeartbeats 4000000 in
theorem law46_PolygonCross_ok (n : Nat) {w : World} {O0 : List Nat} (hO : ∀ k ∈ O0, k < w.heap.size) {a_0_0 : Int} (ha_0_0 : I64 a_0_0) {a_0_1 : Int} (ha_0_1 : I64 a_0_1) {a_0_2 : Int} (ha_0_2 : I64 a_0_2) {b_1_0 : Int} (hb_1_0 : I64 b_1_0) {b_1_1 : Int} (hb_1_1 : I64 b_1_1) {b_1_2 : Int} (hb_1_2 : I64 b_1_2) {c_2_0 : Int} (hc_2_0 : I64 c_2_0) {c_2_1 : Int} (hc_2_1 : I64 c_2_1) {c_2_2 : Int} (hc_2_2 : I64 c_2_2) {d_3_0 : Int} (hd_3_0 : I64 d_3_0) {d_3_1 : Int} (hd_3_1 : I64 d_3_1) {d_3_2 : Int} (hd_3_2 : I64 d_3_2) {r : Bool} (hb : F.law46_PolygonCross n a_0_0 a_0_1 a_0_2 b_1_0 b_1_1 b_1_2 c_2_0 c_2_1 c_2_2 d_3_0 d_3_1 d_3_2 = some r) :
    Calls Try.prog 3 #[.agg #[.int .i64 a_0_0, .int .i64 a_0_1, .int .i64 a_0_2], .agg #[.int .i64 b_1_0, .int .i64 b_1_1, .int .i64 b_1_2], .agg #[.int .i64 c_2_0, .int .i64 c_2_1, .int .i64 c_2_2], .agg #[.int .i64 d_3_0, .int .i64 d_3_1, .int .i64 d_3_2]] w fun e w' => ∃ v, e = .returned v ∧ v = .bool r ∧ Cx (fun _ => False) O0 w w' [] := by
  unfold F.law46_PolygonCross at hb
  have hC := Cx.start hO
  clear hO
  refine calls_of_Wc Try.func3 rfl (by rw [Try.ntmps3]; exact Nat.le_of_ble_eq_true rfl) fun KR hKR => ?_
  refine Wc.seq fun K1 hK1 => ?_
  refine Wc.region (by decide +kernel) ?_
  refine lex.op (hC.box (cs := [.int .i64 a_0_0, .int .i64 a_0_1, .int .i64 a_0_2]) rfl rfl) ?_
  rintro _ w3 ⟨g2, rfl, hC, hF, hG⟩
  clear hG
  refine lex.op (hC.box (cs := [.int .i64 b_1_0, .int .i64 b_1_1, .int .i64 b_1_2]) rfl rfl) ?_
  rintro _ w6 ⟨g5, rfl, hC, hF, hG⟩
  clear hG
  refine lex.op (hC.box (cs := [.int .i64 c_2_0, .int .i64 c_2_1, .int .i64 c_2_2]) rfl rfl) ?_
  rintro _ w9 ⟨g8, rfl, hC, hF, hG⟩
  clear hG
  refine lex.op (hC.box (cs := [.int .i64 d_3_0, .int .i64 d_3_1, .int .i64 d_3_2]) rfl rfl) ?_
  rintro _ w12 ⟨g11, rfl, hC, hF, hG⟩
  clear hG
  refine lex.pure (v := .bool false) (pu_assign rfl) ?_
  refine lex.nil ?_
  refine hK1 _ _ ?_
  refine Wc.seq fun K14 hK14 => ?_
  refine Wc.seq fun K15 hK15 => ?_
  refine Wc.region (by decide +kernel) ?_
  obtain ⟨y16, h17, hb⟩ := bd hb
  refine lex.cl (⟨_, _, op_call (vs := []) Try.call11 rfl rfl rfl, law46_awake_ok n hC.lt  h17⟩) ?_
  rintro _ w18 ⟨rfl, hK⟩
  replace hC := hC.merge hK
  clear hK
  refine lex.pure (v := .bool (!y16)) (pu_not (q := y16) rfl) ?_
  refine lex.nil ?_
  refine hK15 _ _ ?_
  refine Wc.cond (t := (!y16)) (rfl) (fun hq19 => ?_) (fun hq19 => ?_)
  · replace hb := (cT hq19).symm.trans hb
    refine Wc.seq fun K20 hK20 => ?_
    refine Wc.region (by decide +kernel) ?_
    refine lex.pure (v := .bool false) (pu_assign rfl) ?_
    refine lex.nil ?_
    refine hK20 _ _ ?_
    obtain rfl := Option.some.inj hb
    refine Wc.ret ?_
    refine hKR _ _ ?_
    refine ⟨_, res1 Try.results3 (show RV _ _ _ (.tmp _) (.bool false) from rfl), _, rfl, rfl, hC.sel [] (by decide)⟩
  · replace hb := (cF hq19).symm.trans hb
    refine Wc.skip ?_
    refine hK14 _ _ ?_
    refine Wc.seq fun K21 hK21 => ?_
    refine Wc.region (by decide +kernel) ?_
    refine lex.val (v := .agg #[.int .i64 a_0_0, .int .i64 a_0_1, .int .i64 a_0_2]) (ld_blk (hC.bx (i := 3) rfl) Try.isAgg23 Try.sizeOf23 rfl) ?_
    refine lex.val (v := .agg #[.int .i64 b_1_0, .int .i64 b_1_1, .int .i64 b_1_2]) (ld_blk (hC.bx (i := 2) rfl) Try.isAgg23 Try.sizeOf23 rfl) ?_
    refine lex.val (v := .agg #[.int .i64 c_2_0, .int .i64 c_2_1, .int .i64 c_2_2]) (ld_blk (hC.bx (i := 1) rfl) Try.isAgg23 Try.sizeOf23 rfl) ?_
    refine lex.val (v := .agg #[.int .i64 d_3_0, .int .i64 d_3_1, .int .i64 d_3_2]) (ld_blk (hC.bx (i := 0) rfl) Try.isAgg23 Try.sizeOf23 rfl) ?_
    obtain ⟨y22, h23, hb⟩ := bd hb
    refine lex.cl (⟨_, _, op_call (vs := [.agg #[.int .i64 a_0_0, .int .i64 a_0_1, .int .i64 a_0_2], .agg #[.int .i64 b_1_0, .int .i64 b_1_1, .int .i64 b_1_2], .agg #[.int .i64 c_2_0, .int .i64 c_2_1, .int .i64 c_2_2], .agg #[.int .i64 d_3_0, .int .i64 d_3_1, .int .i64 d_3_2]]) Try.call12 rfl rfl rfl, polygon_Cross_ok n hC.lt ha_0_0 ha_0_1 ha_0_2 hb_1_0 hb_1_1 hb_1_2 hc_2_0 hc_2_1 hc_2_2 hd_3_0 hd_3_1 hd_3_2 h23⟩) ?_
    rintro _ w25 ⟨rfl, hr24, hK⟩
    replace hC := hC.merge hK
    clear hK
    refine lex.pure (v := .tuple #[.int .i64 y22.1, .bool y22.2]) (pu_move rfl) ?_
    refine lex.pure (v := .int .i64 y22.1) (pu_extract rfl rfl) ?_
    refine lex.pure (v := .bool y22.2) (pu_extract rfl rfl) ?_
    refine lex.pure (v := .int .i64 y22.1) (pu_assign rfl) ?_
    refine lex.pure (v := .bool y22.2) (pu_assign rfl) ?_
    refine lex.nil ?_
    refine hK21 _ _ ?_
    refine Wc.fresh fun E26 hE => ?_
    have e4 : E26 4 = .pointer (some ⟨g2, 0, none⟩) := (congrFun hE 4).trans rfl
    have e5 : E26 5 = .pointer (some ⟨g5, 0, none⟩) := (congrFun hE 5).trans rfl
    have e6 : E26 6 = .pointer (some ⟨g8, 0, none⟩) := (congrFun hE 6).trans rfl
    have e7 : E26 7 = .pointer (some ⟨g11, 0, none⟩) := (congrFun hE 7).trans rfl
    have e8 : E26 8 = .bool false := (congrFun hE 8).trans rfl
    have e9 : E26 9 = .int .i64 y22.1 := (congrFun hE 9).trans rfl
    have e10 : E26 10 = .bool y22.2 := (congrFun hE 10).trans rfl
    clear hE
    refine Wc.seq fun K27 hK27 => ?_
    refine Wc.region (by decide +kernel) ?_
    refine lex.val (v := .agg #[.int .i64 a_0_0, .int .i64 a_0_1, .int .i64 a_0_2]) (ld_blk (hC.bx (i := 3) rfl) Try.isAgg23 Try.sizeOf23 e4) ?_
    refine lex.val (v := .agg #[.int .i64 b_1_0, .int .i64 b_1_1, .int .i64 b_1_2]) (ld_blk (hC.bx (i := 2) rfl) Try.isAgg23 Try.sizeOf23 e5) ?_
    refine lex.val (v := .agg #[.int .i64 c_2_0, .int .i64 c_2_1, .int .i64 c_2_2]) (ld_blk (hC.bx (i := 1) rfl) Try.isAgg23 Try.sizeOf23 e6) ?_
    refine lex.val (v := .agg #[.int .i64 d_3_0, .int .i64 d_3_1, .int .i64 d_3_2]) (ld_blk (hC.bx (i := 0) rfl) Try.isAgg23 Try.sizeOf23 e7) ?_
    obtain ⟨y28, h29, hb⟩ := bd hb
    refine lex.cl (⟨_, _, op_call (vs := [.agg #[.int .i64 a_0_0, .int .i64 a_0_1, .int .i64 a_0_2], .agg #[.int .i64 b_1_0, .int .i64 b_1_1, .int .i64 b_1_2], .agg #[.int .i64 c_2_0, .int .i64 c_2_1, .int .i64 c_2_2], .agg #[.int .i64 d_3_0, .int .i64 d_3_1, .int .i64 d_3_2]]) Try.call13 rfl rfl rfl, ref46_Cross_ok n hC.lt ha_0_0 ha_0_1 ha_0_2 hb_1_0 hb_1_1 hb_1_2 hc_2_0 hc_2_1 hc_2_2 hd_3_0 hd_3_1 hd_3_2 h29⟩) ?_
    rintro _ w31 ⟨rfl, hr30, hK⟩
    replace hC := hC.merge hK
    clear hK
    refine lex.pure (v := .tuple #[.int .i64 y28.1, .bool y28.2]) (pu_move rfl) ?_
    refine lex.pure (v := .int .i64 y28.1) (pu_extract rfl rfl) ?_
    refine lex.pure (v := .bool y28.2) (pu_extract rfl rfl) ?_
    refine lex.pure (v := .int .i64 y28.1) (pu_assign rfl) ?_
    refine lex.pure (v := .bool y28.2) (pu_assign rfl) ?_
    refine lex.nil ?_
    refine hK27 _ _ ?_
    refine Wc.fresh fun E32 hE => ?_
    have e4 : E32 4 = .pointer (some ⟨g2, 0, none⟩) := (congrFun hE 4).trans e4
    have e5 : E32 5 = .pointer (some ⟨g5, 0, none⟩) := (congrFun hE 5).trans e5
    have e6 : E32 6 = .pointer (some ⟨g8, 0, none⟩) := (congrFun hE 6).trans e6
    have e7 : E32 7 = .pointer (some ⟨g11, 0, none⟩) := (congrFun hE 7).trans e7
    have e8 : E32 8 = .bool false := (congrFun hE 8).trans e8
    have e9 : E32 9 = .int .i64 y22.1 := (congrFun hE 9).trans e9
    have e10 : E32 10 = .bool y22.2 := (congrFun hE 10).trans e10
    have e11 : E32 11 = .int .i64 y28.1 := (congrFun hE 11).trans rfl
    have e12 : E32 12 = .bool y28.2 := (congrFun hE 12).trans rfl
    clear hE
    refine Wc.seq fun K33 hK33 => ?_
    refine Wc.region (by decide +kernel) ?_
    refine lex.val (v := .agg #[.int .i64 c_2_0, .int .i64 c_2_1, .int .i64 c_2_2]) (ld_blk (hC.bx (i := 1) rfl) Try.isAgg23 Try.sizeOf23 e6) ?_
    refine lex.val (v := .agg #[.int .i64 d_3_0, .int .i64 d_3_1, .int .i64 d_3_2]) (ld_blk (hC.bx (i := 0) rfl) Try.isAgg23 Try.sizeOf23 e7) ?_
    refine lex.val (v := .agg #[.int .i64 a_0_0, .int .i64 a_0_1, .int .i64 a_0_2]) (ld_blk (hC.bx (i := 3) rfl) Try.isAgg23 Try.sizeOf23 e4) ?_
    refine lex.val (v := .agg #[.int .i64 b_1_0, .int .i64 b_1_1, .int .i64 b_1_2]) (ld_blk (hC.bx (i := 2) rfl) Try.isAgg23 Try.sizeOf23 e5) ?_
    obtain ⟨y34, h35, hb⟩ := bd hb
    refine lex.cl (⟨_, _, op_call (vs := [.agg #[.int .i64 c_2_0, .int .i64 c_2_1, .int .i64 c_2_2], .agg #[.int .i64 d_3_0, .int .i64 d_3_1, .int .i64 d_3_2], .agg #[.int .i64 a_0_0, .int .i64 a_0_1, .int .i64 a_0_2], .agg #[.int .i64 b_1_0, .int .i64 b_1_1, .int .i64 b_1_2]]) Try.call12 rfl rfl rfl, polygon_Cross_ok n hC.lt hc_2_0 hc_2_1 hc_2_2 hd_3_0 hd_3_1 hd_3_2 ha_0_0 ha_0_1 ha_0_2 hb_1_0 hb_1_1 hb_1_2 h35⟩) ?_
    rintro _ w37 ⟨rfl, hr36, hK⟩
    replace hC := hC.merge hK
    clear hK
    refine lex.pure (v := .tuple #[.int .i64 y34.1, .bool y34.2]) (pu_move rfl) ?_
    refine lex.pure (v := .int .i64 y34.1) (pu_extract rfl rfl) ?_
    refine lex.pure (v := .bool y34.2) (pu_extract rfl rfl) ?_
    refine lex.pure (v := .int .i64 y34.1) (pu_assign rfl) ?_
    refine lex.pure (v := .bool y34.2) (pu_assign rfl) ?_
    refine lex.nil ?_
    refine hK33 _ _ ?_
    refine Wc.fresh fun E38 hE => ?_
    have e4 : E38 4 = .pointer (some ⟨g2, 0, none⟩) := (congrFun hE 4).trans e4
    have e5 : E38 5 = .pointer (some ⟨g5, 0, none⟩) := (congrFun hE 5).trans e5
    have e6 : E38 6 = .pointer (some ⟨g8, 0, none⟩) := (congrFun hE 6).trans e6
    have e7 : E38 7 = .pointer (some ⟨g11, 0, none⟩) := (congrFun hE 7).trans e7
    have e8 : E38 8 = .bool false := (congrFun hE 8).trans e8
    have e9 : E38 9 = .int .i64 y22.1 := (congrFun hE 9).trans e9
    have e10 : E38 10 = .bool y22.2 := (congrFun hE 10).trans e10
    have e11 : E38 11 = .int .i64 y28.1 := (congrFun hE 11).trans e11
    have e12 : E38 12 = .bool y28.2 := (congrFun hE 12).trans e12
    have e13 : E38 13 = .int .i64 y34.1 := (congrFun hE 13).trans rfl
    have e14 : E38 14 = .bool y34.2 := (congrFun hE 14).trans rfl
    clear hE
    refine Wc.seq fun K39 hK39 => ?_
    refine Wc.region (by decide +kernel) ?_
    refine lex.val (v := .agg #[.int .i64 b_1_0, .int .i64 b_1_1, .int .i64 b_1_2]) (ld_blk (hC.bx (i := 2) rfl) Try.isAgg23 Try.sizeOf23 e5) ?_
    refine lex.val (v := .agg #[.int .i64 a_0_0, .int .i64 a_0_1, .int .i64 a_0_2]) (ld_blk (hC.bx (i := 3) rfl) Try.isAgg23 Try.sizeOf23 e4) ?_
    refine lex.val (v := .agg #[.int .i64 c_2_0, .int .i64 c_2_1, .int .i64 c_2_2]) (ld_blk (hC.bx (i := 1) rfl) Try.isAgg23 Try.sizeOf23 e6) ?_
    refine lex.val (v := .agg #[.int .i64 d_3_0, .int .i64 d_3_1, .int .i64 d_3_2]) (ld_blk (hC.bx (i := 0) rfl) Try.isAgg23 Try.sizeOf23 e7) ?_
    obtain ⟨y40, h41, hb⟩ := bd hb
    refine lex.cl (⟨_, _, op_call (vs := [.agg #[.int .i64 b_1_0, .int .i64 b_1_1, .int .i64 b_1_2], .agg #[.int .i64 a_0_0, .int .i64 a_0_1, .int .i64 a_0_2], .agg #[.int .i64 c_2_0, .int .i64 c_2_1, .int .i64 c_2_2], .agg #[.int .i64 d_3_0, .int .i64 d_3_1, .int .i64 d_3_2]]) Try.call12 rfl rfl rfl, polygon_Cross_ok n hC.lt hb_1_0 hb_1_1 hb_1_2 ha_0_0 ha_0_1 ha_0_2 hc_2_0 hc_2_1 hc_2_2 hd_3_0 hd_3_1 hd_3_2 h41⟩) ?_
    rintro _ w43 ⟨rfl, hr42, hK⟩
    replace hC := hC.merge hK
    clear hK
    refine lex.pure (v := .tuple #[.int .i64 y40.1, .bool y40.2]) (pu_move rfl) ?_
    refine lex.pure (v := .int .i64 y40.1) (pu_extract rfl rfl) ?_
    refine lex.pure (v := .bool y40.2) (pu_extract rfl rfl) ?_
    refine lex.pure (v := .int .i64 y40.1) (pu_assign rfl) ?_
    refine lex.pure (v := .bool y40.2) (pu_assign rfl) ?_
    refine lex.nil ?_
    refine hK39 _ _ ?_
    refine Wc.fresh fun E44 hE => ?_
    have e8 : E44 8 = .bool false := (congrFun hE 8).trans e8
    have e9 : E44 9 = .int .i64 y22.1 := (congrFun hE 9).trans e9
    have e10 : E44 10 = .bool y22.2 := (congrFun hE 10).trans e10
    have e11 : E44 11 = .int .i64 y28.1 := (congrFun hE 11).trans e11
    have e12 : E44 12 = .bool y28.2 := (congrFun hE 12).trans e12
    have e13 : E44 13 = .int .i64 y34.1 := (congrFun hE 13).trans e13
    have e14 : E44 14 = .bool y34.2 := (congrFun hE 14).trans e14
    have e15 : E44 15 = .int .i64 y40.1 := (congrFun hE 15).trans rfl
    have e16 : E44 16 = .bool y40.2 := (congrFun hE 16).trans rfl
    clear hE
    refine Wc.seq fun K45 hK45 => ?_
    refine Wc.region (by decide +kernel) ?_
    refine lex.pure (v := .int .i64 y22.1) (pu_move e9) ?_
    refine lex.pure (v := .int .i64 y28.1) (pu_move e11) ?_
    refine lex.pure (v := .bool (decide (y22.1 = y28.1))) (pu_eql (k := .i64) (a := y22.1) (b := y28.1) rfl rfl) ?_
    refine lex.pure (v := .bool (decide (y22.1 = y28.1))) (pu_move rfl) ?_
    rcases bS (decide (y22.1 = y28.1)) with hq46 | hq46
    · replace hb := (cT hq46).symm.trans hb
      refine lex.gpure (want_t rfl rfl (show _ = Value.bool (decide (y22.1 = y28.1)) from rfl) hq46) (v := .bool y22.2) (pu_move e10) ?_
      refine lex.gpure (want_t rfl rfl (show _ = Value.bool (decide (y22.1 = y28.1)) from rfl) hq46) (v := .bool y28.2) (pu_move e12) ?_
      refine lex.gpure (want_t rfl rfl (show _ = Value.bool (decide (y22.1 = y28.1)) from rfl) hq46) (v := .bool (y22.2 == y28.2)) (pu_eqlb (p := y22.2) (q := y28.2) Try.underlying4 rfl rfl) ?_
      refine lex.pure (v := .bool (y22.2 == y28.2)) (pu_pickT (q := (decide (y22.1 = y28.1))) rfl hq46 rfl) ?_
      refine lex.pure (v := .bool (y22.2 == y28.2)) (pu_move rfl) ?_
      rcases bS (y22.2 == y28.2) with hq47 | hq47
      · replace hb := (cT hq47).symm.trans hb
        refine lex.gpure (want_t rfl rfl (show _ = Value.bool (y22.2 == y28.2) from rfl) hq47) (v := .int .i64 y34.1) (pu_move e13) ?_
        refine lex.gpure (want_t rfl rfl (show _ = Value.bool (y22.2 == y28.2) from rfl) hq47) (v := .int .i64 y22.1) (pu_move e9) ?_
        refine lex.gpure (want_t rfl rfl (show _ = Value.bool (y22.2 == y28.2) from rfl) hq47) (v := .bool (decide (y34.1 = y22.1))) (pu_eql (k := .i64) (a := y34.1) (b := y22.1) rfl rfl) ?_
        refine lex.pure (v := .bool (decide (y34.1 = y22.1))) (pu_pickT (q := (y22.2 == y28.2)) rfl hq47 rfl) ?_
        refine lex.pure (v := .bool (decide (y34.1 = y22.1))) (pu_move rfl) ?_
        rcases bS (decide (y34.1 = y22.1)) with hq48 | hq48
        · replace hb := (cT hq48).symm.trans hb
          refine lex.gpure (want_t rfl rfl (show _ = Value.bool (decide (y34.1 = y22.1)) from rfl) hq48) (v := .int .i64 y40.1) (pu_move e15) ?_
          refine lex.gpure (want_t rfl rfl (show _ = Value.bool (decide (y34.1 = y22.1)) from rfl) hq48) (v := .int .i64 y22.1) (pu_move e9) ?_
          refine lex.gpure (want_t rfl rfl (show _ = Value.bool (decide (y34.1 = y22.1)) from rfl) hq48) (v := .bool (decide (y40.1 = y22.1))) (pu_eql (k := .i64) (a := y40.1) (b := y22.1) rfl rfl) ?_
          refine lex.pure (v := .bool (decide (y40.1 = y22.1))) (pu_pickT (q := (decide (y34.1 = y22.1))) rfl hq48 rfl) ?_
          refine lex.pure (v := .bool (decide (y40.1 = y22.1))) (pu_move rfl) ?_
          rcases bS (decide (y40.1 = y22.1)) with hq49 | hq49
          · replace hb := (cT hq49).symm.trans hb
            refine lex.gpure (want_t rfl rfl (show _ = Value.bool (decide (y40.1 = y22.1)) from rfl) hq49) (v := .bool y40.2) (pu_move e16) ?_
            refine lex.gpure (want_t rfl rfl (show _ = Value.bool (decide (y40.1 = y22.1)) from rfl) hq49) (v := .bool y22.2) (pu_move e10) ?_
            refine lex.gpure (want_t rfl rfl (show _ = Value.bool (decide (y40.1 = y22.1)) from rfl) hq49) (v := .bool (y40.2 == y22.2)) (pu_eqlb (p := y40.2) (q := y22.2) Try.underlying4 rfl rfl) ?_
            refine lex.pure (v := .bool (y40.2 == y22.2)) (pu_pickT (q := (decide (y40.1 = y22.1))) rfl hq49 rfl) ?_
            refine lex.pure (v := .bool (y40.2 == y22.2)) (pu_move rfl) ?_
            rcases bS (y40.2 == y22.2) with hq50 | hq50
            · replace hb := (cT hq50).symm.trans hb
              refine lex.gpure (want_t rfl rfl (show _ = Value.bool (y40.2 == y22.2) from rfl) hq50) (v := .int .i64 y22.1) (pu_move e9) ?_
              refine lex.gpure (want_t rfl rfl (show _ = Value.bool (y40.2 == y22.2) from rfl) hq50) (v := .bool (!(decide (y22.1 = 1)))) (pu_neq (k := .i64) (a := y22.1) (b := 1) rfl rfl) ?_
              refine lex.gpure (want_t rfl rfl (show _ = Value.bool (y40.2 == y22.2) from rfl) hq50) (v := .bool (!(decide (y22.1 = 1)))) (pu_move rfl) ?_
              rcases bS (!(decide (y22.1 = 1))) with hq51 | hq51
              · replace hb := (cT hq51).symm.trans hb
                refine lex.gskip (want_f rfl rfl (show _ = Value.bool (!(decide (y22.1 = 1))) from rfl) hq51) ?_
                refine lex.gskip (want_f rfl rfl (show _ = Value.bool (!(decide (y22.1 = 1))) from rfl) hq51) ?_
                refine lex.gskip (want_f rfl rfl (show _ = Value.bool (!(decide (y22.1 = 1))) from rfl) hq51) ?_
                refine lex.gskip (want_f rfl rfl (show _ = Value.bool (!(decide (y22.1 = 1))) from rfl) hq51) ?_
                refine lex.gpure (want_t rfl rfl (show _ = Value.bool (y40.2 == y22.2) from rfl) hq50) (v := .bool true) (pu_pickT (q := (!(decide (y22.1 = 1)))) rfl hq51 rfl) ?_
                refine lex.pure (v := .bool true) (pu_pickT (q := (y40.2 == y22.2)) rfl hq50 rfl) ?_
                refine lex.pure (v := .bool true) (pu_move rfl) ?_
                refine lex.gpure (want_t rfl rfl (show _ = Value.bool true from rfl) rfl) (v := .int .i64 y22.1) (pu_move e9) ?_
                refine lex.gpure (want_t rfl rfl (show _ = Value.bool true from rfl) rfl) (v := .bool (decide (y22.1 = 1))) (pu_eql (k := .i64) (a := y22.1) (b := 1) rfl rfl) ?_
                refine lex.gpure (want_t rfl rfl (show _ = Value.bool true from rfl) rfl) (v := .bool (decide (y22.1 = 1))) (pu_move rfl) ?_
                refine lex.gpure (want_t rfl rfl (show _ = Value.bool (decide (y22.1 = 1)) from rfl) (nT hq51)) (v := .bool y22.2) (pu_move e10) ?_
                refine lex.gpure (want_t rfl rfl (show _ = Value.bool (decide (y22.1 = 1)) from rfl) (nT hq51)) (v := .bool (!y22.2)) (pu_not (q := y22.2) rfl) ?_
                refine lex.gpure (want_t rfl rfl (show _ = Value.bool (decide (y22.1 = 1)) from rfl) (nT hq51)) (v := .bool (!y22.2)) (pu_move rfl) ?_
                rcases bS (!y22.2) with hq52 | hq52
                · replace hb := (cT hq52).symm.trans hb
                  refine lex.gpure (want_t rfl rfl (show _ = Value.bool (!y22.2) from rfl) hq52) (v := .bool y34.2) (pu_move e14) ?_
                  refine lex.gpure (want_t rfl rfl (show _ = Value.bool (!y22.2) from rfl) hq52) (v := .bool (!y34.2)) (pu_not (q := y34.2) rfl) ?_
                  refine lex.gpure (want_t rfl rfl (show _ = Value.bool (decide (y22.1 = 1)) from rfl) (nT hq51)) (v := .bool (!y34.2)) (pu_pickT (q := (!y22.2)) rfl hq52 rfl) ?_
                  refine lex.gpure (want_t rfl rfl (show _ = Value.bool true from rfl) rfl) (v := .bool (!y34.2)) (pu_pickF (q := (decide (y22.1 = 1))) rfl (nT hq51) rfl) ?_
                  refine lex.pure (v := .bool (!y34.2)) (pu_pickT (q := true) rfl rfl rfl) ?_
                  refine lex.pure (v := .bool (!y34.2)) (pu_assign rfl) ?_
                  refine lex.nil ?_
                  refine hK45 _ _ ?_
                  obtain rfl := Option.some.inj hb
                  refine Wc.ret ?_
                  refine hKR _ _ ?_
                  refine ⟨_, res1 Try.results3 (show RV _ _ _ (.tmp _) (.bool (!y34.2)) from rfl), _, rfl, rfl, hC.sel [] (by decide)⟩
                · replace hb := (cF hq52).symm.trans hb
                  refine lex.gskip (want_f rfl rfl (show _ = Value.bool (!y22.2) from rfl) hq52) ?_
                  refine lex.gskip (want_f rfl rfl (show _ = Value.bool (!y22.2) from rfl) hq52) ?_
                  refine lex.gpure (want_t rfl rfl (show _ = Value.bool (decide (y22.1 = 1)) from rfl) (nT hq51)) (v := .bool false) (pu_pickF (q := (!y22.2)) rfl hq52 rfl) ?_
                  refine lex.gpure (want_t rfl rfl (show _ = Value.bool true from rfl) rfl) (v := .bool false) (pu_pickF (q := (decide (y22.1 = 1))) rfl (nT hq51) rfl) ?_
                  refine lex.pure (v := .bool false) (pu_pickT (q := true) rfl rfl rfl) ?_
                  refine lex.pure (v := .bool false) (pu_assign rfl) ?_
                  refine lex.nil ?_
                  refine hK45 _ _ ?_
                  obtain rfl := Option.some.inj hb
                  refine Wc.ret ?_
                  refine hKR _ _ ?_
                  refine ⟨_, res1 Try.results3 (show RV _ _ _ (.tmp _) (.bool false) from rfl), _, rfl, rfl, hC.sel [] (by decide)⟩
              · replace hb := (cF hq51).symm.trans hb
                refine lex.gpure (want_t rfl rfl (show _ = Value.bool (!(decide (y22.1 = 1))) from rfl) hq51) (v := .bool y34.2) (pu_move e14) ?_
                refine lex.gpure (want_t rfl rfl (show _ = Value.bool (!(decide (y22.1 = 1))) from rfl) hq51) (v := .bool y22.2) (pu_move e10) ?_
                refine lex.gpure (want_t rfl rfl (show _ = Value.bool (!(decide (y22.1 = 1))) from rfl) hq51) (v := .bool (!y22.2)) (pu_not (q := y22.2) rfl) ?_
                refine lex.gpure (want_t rfl rfl (show _ = Value.bool (!(decide (y22.1 = 1))) from rfl) hq51) (v := .bool (y34.2 == (!y22.2))) (pu_eqlb (p := y34.2) (q := (!y22.2)) Try.underlying4 rfl rfl) ?_
                refine lex.gpure (want_t rfl rfl (show _ = Value.bool (y40.2 == y22.2) from rfl) hq50) (v := .bool (y34.2 == (!y22.2))) (pu_pickF (q := (!(decide (y22.1 = 1)))) rfl hq51 rfl) ?_
                refine lex.pure (v := .bool (y34.2 == (!y22.2))) (pu_pickT (q := (y40.2 == y22.2)) rfl hq50 rfl) ?_
                refine lex.pure (v := .bool (y34.2 == (!y22.2))) (pu_move rfl) ?_
                rcases bS (y34.2 == (!y22.2)) with hq53 | hq53
                · replace hb := (cT hq53).symm.trans hb
                  refine lex.gpure (want_t rfl rfl (show _ = Value.bool (y34.2 == (!y22.2)) from rfl) hq53) (v := .int .i64 y22.1) (pu_move e9) ?_
                  refine lex.gpure (want_t rfl rfl (show _ = Value.bool (y34.2 == (!y22.2)) from rfl) hq53) (v := .bool (decide (y22.1 = 1))) (pu_eql (k := .i64) (a := y22.1) (b := 1) rfl rfl) ?_
                  refine lex.gpure (want_t rfl rfl (show _ = Value.bool (y34.2 == (!y22.2)) from rfl) hq53) (v := .bool (decide (y22.1 = 1))) (pu_move rfl) ?_
                  refine lex.gskip (want_f rfl rfl (show _ = Value.bool (decide (y22.1 = 1)) from rfl) (nF hq51)) ?_
                  refine lex.gskip (want_f rfl rfl (show _ = Value.bool (decide (y22.1 = 1)) from rfl) (nF hq51)) ?_
                  refine lex.gskip (want_f rfl rfl (show _ = Value.bool (decide (y22.1 = 1)) from rfl) (nF hq51)) ?_
                  refine lex.gskip (want_n rfl rfl rfl) ?_
                  refine lex.gskip (want_n rfl rfl rfl) ?_
                  refine lex.gskip (want_f rfl rfl (show _ = Value.bool (decide (y22.1 = 1)) from rfl) (nF hq51)) ?_
                  refine lex.gpure (want_t rfl rfl (show _ = Value.bool (y34.2 == (!y22.2)) from rfl) hq53) (v := .bool true) (pu_pickT (q := (decide (y22.1 = 1))) rfl (nF hq51) rfl) ?_
                  refine lex.pure (v := .bool true) (pu_pickT (q := (y34.2 == (!y22.2))) rfl hq53 rfl) ?_
                  refine lex.pure (v := .bool true) (pu_assign rfl) ?_
                  refine lex.nil ?_
                  refine hK45 _ _ ?_
                  obtain rfl := Option.some.inj hb
                  refine Wc.ret ?_
                  refine hKR _ _ ?_
                  refine ⟨_, res1 Try.results3 (show RV _ _ _ (.tmp _) (.bool true) from rfl), _, rfl, rfl, hC.sel [] (by decide)⟩
                · replace hb := (cF hq53).symm.trans hb
                  refine lex.gskip (want_f rfl rfl (show _ = Value.bool (y34.2 == (!y22.2)) from rfl) hq53) ?_
                  refine lex.gskip (want_f rfl rfl (show _ = Value.bool (y34.2 == (!y22.2)) from rfl) hq53) ?_
                  refine lex.gskip (want_f rfl rfl (show _ = Value.bool (y34.2 == (!y22.2)) from rfl) hq53) ?_
                  refine lex.gskip (want_n rfl rfl rfl) ?_
                  refine lex.gskip (want_n rfl rfl rfl) ?_
                  refine lex.gskip (want_n rfl rfl rfl) ?_
                  refine lex.gskip (want_n rfl rfl rfl) ?_
                  refine lex.gskip (want_n rfl rfl rfl) ?_
                  refine lex.gskip (want_n rfl rfl rfl) ?_
                  refine lex.gskip (want_f rfl rfl (show _ = Value.bool (y34.2 == (!y22.2)) from rfl) hq53) ?_
                  refine lex.pure (v := .bool false) (pu_pickF (q := (y34.2 == (!y22.2))) rfl hq53 rfl) ?_
                  refine lex.pure (v := .bool false) (pu_assign rfl) ?_
                  refine lex.nil ?_
                  refine hK45 _ _ ?_
                  obtain rfl := Option.some.inj hb
                  refine Wc.ret ?_
                  refine hKR _ _ ?_
                  refine ⟨_, res1 Try.results3 (show RV _ _ _ (.tmp _) (.bool false) from rfl), _, rfl, rfl, hC.sel [] (by decide)⟩
            · replace hb := (cF hq50).symm.trans hb
              refine lex.gskip (want_f rfl rfl (show _ = Value.bool (y40.2 == y22.2) from rfl) hq50) ?_
              refine lex.gskip (want_f rfl rfl (show _ = Value.bool (y40.2 == y22.2) from rfl) hq50) ?_
              refine lex.gskip (want_f rfl rfl (show _ = Value.bool (y40.2 == y22.2) from rfl) hq50) ?_
              refine lex.gskip (want_n rfl rfl rfl) ?_
              refine lex.gskip (want_n rfl rfl rfl) ?_
              refine lex.gskip (want_n rfl rfl rfl) ?_
              refine lex.gskip (want_n rfl rfl rfl) ?_
              refine lex.gskip (want_f rfl rfl (show _ = Value.bool (y40.2 == y22.2) from rfl) hq50) ?_
              refine lex.pure (v := .bool false) (pu_pickF (q := (y40.2 == y22.2)) rfl hq50 rfl) ?_
              refine lex.pure (v := .bool false) (pu_move rfl) ?_
              refine lex.gskip (want_f rfl rfl (show _ = Value.bool false from rfl) rfl) ?_
              refine lex.gskip (want_f rfl rfl (show _ = Value.bool false from rfl) rfl) ?_
              refine lex.gskip (want_f rfl rfl (show _ = Value.bool false from rfl) rfl) ?_
              refine lex.gskip (want_n rfl rfl rfl) ?_
              refine lex.gskip (want_n rfl rfl rfl) ?_
              refine lex.gskip (want_n rfl rfl rfl) ?_
              refine lex.gskip (want_n rfl rfl rfl) ?_
              refine lex.gskip (want_n rfl rfl rfl) ?_
              refine lex.gskip (want_n rfl rfl rfl) ?_
              refine lex.gskip (want_f rfl rfl (show _ = Value.bool false from rfl) rfl) ?_
              refine lex.pure (v := .bool false) (pu_pickF (q := false) rfl rfl rfl) ?_
              refine lex.pure (v := .bool false) (pu_assign rfl) ?_
              refine lex.nil ?_
              refine hK45 _ _ ?_
              obtain rfl := Option.some.inj hb
              refine Wc.ret ?_
              refine hKR _ _ ?_
              refine ⟨_, res1 Try.results3 (show RV _ _ _ (.tmp _) (.bool false) from rfl), _, rfl, rfl, hC.sel [] (by decide)⟩
          · replace hb := (cF hq49).symm.trans hb
            refine lex.gskip (want_f rfl rfl (show _ = Value.bool (decide (y40.1 = y22.1)) from rfl) hq49) ?_
            refine lex.gskip (want_f rfl rfl (show _ = Value.bool (decide (y40.1 = y22.1)) from rfl) hq49) ?_
            refine lex.gskip (want_f rfl rfl (show _ = Value.bool (decide (y40.1 = y22.1)) from rfl) hq49) ?_
            refine lex.pure (v := .bool false) (pu_pickF (q := (decide (y40.1 = y22.1))) rfl hq49 rfl) ?_
            refine lex.pure (v := .bool false) (pu_move rfl) ?_
            refine lex.gskip (want_f rfl rfl (show _ = Value.bool false from rfl) rfl) ?_
            refine lex.gskip (want_f rfl rfl (show _ = Value.bool false from rfl) rfl) ?_
            refine lex.gskip (want_f rfl rfl (show _ = Value.bool false from rfl) rfl) ?_
            refine lex.gskip (want_n rfl rfl rfl) ?_
            refine lex.gskip (want_n rfl rfl rfl) ?_
            refine lex.gskip (want_n rfl rfl rfl) ?_
            refine lex.gskip (want_n rfl rfl rfl) ?_
            refine lex.gskip (want_f rfl rfl (show _ = Value.bool false from rfl) rfl) ?_
            refine lex.pure (v := .bool false) (pu_pickF (q := false) rfl rfl rfl) ?_
            refine lex.pure (v := .bool false) (pu_move rfl) ?_
            refine lex.gskip (want_f rfl rfl (show _ = Value.bool false from rfl) rfl) ?_
            refine lex.gskip (want_f rfl rfl (show _ = Value.bool false from rfl) rfl) ?_
            refine lex.gskip (want_f rfl rfl (show _ = Value.bool false from rfl) rfl) ?_
            refine lex.gskip (want_n rfl rfl rfl) ?_
            refine lex.gskip (want_n rfl rfl rfl) ?_
            refine lex.gskip (want_n rfl rfl rfl) ?_
            refine lex.gskip (want_n rfl rfl rfl) ?_
            refine lex.gskip (want_n rfl rfl rfl) ?_
            refine lex.gskip (want_n rfl rfl rfl) ?_
            refine lex.gskip (want_f rfl rfl (show _ = Value.bool false from rfl) rfl) ?_
            refine lex.pure (v := .bool false) (pu_pickF (q := false) rfl rfl rfl) ?_
            refine lex.pure (v := .bool false) (pu_assign rfl) ?_
            refine lex.nil ?_
            refine hK45 _ _ ?_
            obtain rfl := Option.some.inj hb
            refine Wc.ret ?_
            refine hKR _ _ ?_
            refine ⟨_, res1 Try.results3 (show RV _ _ _ (.tmp _) (.bool false) from rfl), _, rfl, rfl, hC.sel [] (by decide)⟩
        · replace hb := (cF hq48).symm.trans hb
          refine lex.gskip (want_f rfl rfl (show _ = Value.bool (decide (y34.1 = y22.1)) from rfl) hq48) ?_
          refine lex.gskip (want_f rfl rfl (show _ = Value.bool (decide (y34.1 = y22.1)) from rfl) hq48) ?_
          refine lex.gskip (want_f rfl rfl (show _ = Value.bool (decide (y34.1 = y22.1)) from rfl) hq48) ?_
          refine lex.pure (v := .bool false) (pu_pickF (q := (decide (y34.1 = y22.1))) rfl hq48 rfl) ?_
          refine lex.pure (v := .bool false) (pu_move rfl) ?_
          refine lex.gskip (want_f rfl rfl (show _ = Value.bool false from rfl) rfl) ?_
          refine lex.gskip (want_f rfl rfl (show _ = Value.bool false from rfl) rfl) ?_
          refine lex.gskip (want_f rfl rfl (show _ = Value.bool false from rfl) rfl) ?_
          refine lex.pure (v := .bool false) (pu_pickF (q := false) rfl rfl rfl) ?_
          refine lex.pure (v := .bool false) (pu_move rfl) ?_
          refine lex.gskip (want_f rfl rfl (show _ = Value.bool false from rfl) rfl) ?_
          refine lex.gskip (want_f rfl rfl (show _ = Value.bool false from rfl) rfl) ?_
          refine lex.gskip (want_f rfl rfl (show _ = Value.bool false from rfl) rfl) ?_
          refine lex.gskip (want_n rfl rfl rfl) ?_
          refine lex.gskip (want_n rfl rfl rfl) ?_
          refine lex.gskip (want_n rfl rfl rfl) ?_
          refine lex.gskip (want_n rfl rfl rfl) ?_
          refine lex.gskip (want_f rfl rfl (show _ = Value.bool false from rfl) rfl) ?_
          refine lex.pure (v := .bool false) (pu_pickF (q := false) rfl rfl rfl) ?_
          refine lex.pure (v := .bool false) (pu_move rfl) ?_
          refine lex.gskip (want_f rfl rfl (show _ = Value.bool false from rfl) rfl) ?_
          refine lex.gskip (want_f rfl rfl (show _ = Value.bool false from rfl) rfl) ?_
          refine lex.gskip (want_f rfl rfl (show _ = Value.bool false from rfl) rfl) ?_
          refine lex.gskip (want_n rfl rfl rfl) ?_
          refine lex.gskip (want_n rfl rfl rfl) ?_
          refine lex.gskip (want_n rfl rfl rfl) ?_
          refine lex.gskip (want_n rfl rfl rfl) ?_
          refine lex.gskip (want_n rfl rfl rfl) ?_
          refine lex.gskip (want_n rfl rfl rfl) ?_
          refine lex.gskip (want_f rfl rfl (show _ = Value.bool false from rfl) rfl) ?_
          refine lex.pure (v := .bool false) (pu_pickF (q := false) rfl rfl rfl) ?_
          refine lex.pure (v := .bool false) (pu_assign rfl) ?_
          refine lex.nil ?_
          refine hK45 _ _ ?_
          obtain rfl := Option.some.inj hb
          refine Wc.ret ?_
          refine hKR _ _ ?_
          refine ⟨_, res1 Try.results3 (show RV _ _ _ (.tmp _) (.bool false) from rfl), _, rfl, rfl, hC.sel [] (by decide)⟩
      · replace hb := (cF hq47).symm.trans hb
        refine lex.gskip (want_f rfl rfl (show _ = Value.bool (y22.2 == y28.2) from rfl) hq47) ?_
        refine lex.gskip (want_f rfl rfl (show _ = Value.bool (y22.2 == y28.2) from rfl) hq47) ?_
        refine lex.gskip (want_f rfl rfl (show _ = Value.bool (y22.2 == y28.2) from rfl) hq47) ?_
        refine lex.pure (v := .bool false) (pu_pickF (q := (y22.2 == y28.2)) rfl hq47 rfl) ?_
        refine lex.pure (v := .bool false) (pu_move rfl) ?_
        refine lex.gskip (want_f rfl rfl (show _ = Value.bool false from rfl) rfl) ?_
        refine lex.gskip (want_f rfl rfl (show _ = Value.bool false from rfl) rfl) ?_
        refine lex.gskip (want_f rfl rfl (show _ = Value.bool false from rfl) rfl) ?_
        refine lex.pure (v := .bool false) (pu_pickF (q := false) rfl rfl rfl) ?_
        refine lex.pure (v := .bool false) (pu_move rfl) ?_
        refine lex.gskip (want_f rfl rfl (show _ = Value.bool false from rfl) rfl) ?_
        refine lex.gskip (want_f rfl rfl (show _ = Value.bool false from rfl) rfl) ?_
        refine lex.gskip (want_f rfl rfl (show _ = Value.bool false from rfl) rfl) ?_
        refine lex.pure (v := .bool false) (pu_pickF (q := false) rfl rfl rfl) ?_
        refine lex.pure (v := .bool false) (pu_move rfl) ?_
        refine lex.gskip (want_f rfl rfl (show _ = Value.bool false from rfl) rfl) ?_
        refine lex.gskip (want_f rfl rfl (show _ = Value.bool false from rfl) rfl) ?_
        refine lex.gskip (want_f rfl rfl (show _ = Value.bool false from rfl) rfl) ?_
        refine lex.gskip (want_n rfl rfl rfl) ?_
        refine lex.gskip (want_n rfl rfl rfl) ?_
        refine lex.gskip (want_n rfl rfl rfl) ?_
        refine lex.gskip (want_n rfl rfl rfl) ?_
        refine lex.gskip (want_f rfl rfl (show _ = Value.bool false from rfl) rfl) ?_
        refine lex.pure (v := .bool false) (pu_pickF (q := false) rfl rfl rfl) ?_
        refine lex.pure (v := .bool false) (pu_move rfl) ?_
        refine lex.gskip (want_f rfl rfl (show _ = Value.bool false from rfl) rfl) ?_
        refine lex.gskip (want_f rfl rfl (show _ = Value.bool false from rfl) rfl) ?_
        refine lex.gskip (want_f rfl rfl (show _ = Value.bool false from rfl) rfl) ?_
        refine lex.gskip (want_n rfl rfl rfl) ?_
        refine lex.gskip (want_n rfl rfl rfl) ?_
        refine lex.gskip (want_n rfl rfl rfl) ?_
        refine lex.gskip (want_n rfl rfl rfl) ?_
        refine lex.gskip (want_n rfl rfl rfl) ?_
        refine lex.gskip (want_n rfl rfl rfl) ?_
        refine lex.gskip (want_f rfl rfl (show _ = Value.bool false from rfl) rfl) ?_
        refine lex.pure (v := .bool false) (pu_pickF (q := false) rfl rfl rfl) ?_
        refine lex.pure (v := .bool false) (pu_assign rfl) ?_
        refine lex.nil ?_
        refine hK45 _ _ ?_
        obtain rfl := Option.some.inj hb
        refine Wc.ret ?_
        refine hKR _ _ ?_
        refine ⟨_, res1 Try.results3 (show RV _ _ _ (.tmp _) (.bool false) from rfl), _, rfl, rfl, hC.sel [] (by decide)⟩
    · replace hb := (cF hq46).symm.trans hb
      refine lex.gskip (want_f rfl rfl (show _ = Value.bool (decide (y22.1 = y28.1)) from rfl) hq46) ?_
      refine lex.gskip (want_f rfl rfl (show _ = Value.bool (decide (y22.1 = y28.1)) from rfl) hq46) ?_
      refine lex.gskip (want_f rfl rfl (show _ = Value.bool (decide (y22.1 = y28.1)) from rfl) hq46) ?_
      refine lex.pure (v := .bool false) (pu_pickF (q := (decide (y22.1 = y28.1))) rfl hq46 rfl) ?_
      refine lex.pure (v := .bool false) (pu_move rfl) ?_
      refine lex.gskip (want_f rfl rfl (show _ = Value.bool false from rfl) rfl) ?_
      refine lex.gskip (want_f rfl rfl (show _ = Value.bool false from rfl) rfl) ?_
      refine lex.gskip (want_f rfl rfl (show _ = Value.bool false from rfl) rfl) ?_
      refine lex.pure (v := .bool false) (pu_pickF (q := false) rfl rfl rfl) ?_
      refine lex.pure (v := .bool false) (pu_move rfl) ?_
      refine lex.gskip (want_f rfl rfl (show _ = Value.bool false from rfl) rfl) ?_
      refine lex.gskip (want_f rfl rfl (show _ = Value.bool false from rfl) rfl) ?_
      refine lex.gskip (want_f rfl rfl (show _ = Value.bool false from rfl) rfl) ?_
      refine lex.pure (v := .bool false) (pu_pickF (q := false) rfl rfl rfl) ?_
      refine lex.pure (v := .bool false) (pu_move rfl) ?_
      refine lex.gskip (want_f rfl rfl (show _ = Value.bool false from rfl) rfl) ?_
      refine lex.gskip (want_f rfl rfl (show _ = Value.bool false from rfl) rfl) ?_
      refine lex.gskip (want_f rfl rfl (show _ = Value.bool false from rfl) rfl) ?_
      refine lex.pure (v := .bool false) (pu_pickF (q := false) rfl rfl rfl) ?_
      refine lex.pure (v := .bool false) (pu_move rfl) ?_
      refine lex.gskip (want_f rfl rfl (show _ = Value.bool false from rfl) rfl) ?_
      refine lex.gskip (want_f rfl rfl (show _ = Value.bool false from rfl) rfl) ?_
      refine lex.gskip (want_f rfl rfl (show _ = Value.bool false from rfl) rfl) ?_
      refine lex.gskip (want_n rfl rfl rfl) ?_
      refine lex.gskip (want_n rfl rfl rfl) ?_
      refine lex.gskip (want_n rfl rfl rfl) ?_
      refine lex.gskip (want_n rfl rfl rfl) ?_
      refine lex.gskip (want_f rfl rfl (show _ = Value.bool false from rfl) rfl) ?_
      refine lex.pure (v := .bool false) (pu_pickF (q := false) rfl rfl rfl) ?_
      refine lex.pure (v := .bool false) (pu_move rfl) ?_
      refine lex.gskip (want_f rfl rfl (show _ = Value.bool false from rfl) rfl) ?_
      refine lex.gskip (want_f rfl rfl (show _ = Value.bool false from rfl) rfl) ?_
      refine lex.gskip (want_f rfl rfl (show _ = Value.bool false from rfl) rfl) ?_
      refine lex.gskip (want_n rfl rfl rfl) ?_
      refine lex.gskip (want_n rfl rfl rfl) ?_
      refine lex.gskip (want_n rfl rfl rfl) ?_
      refine lex.gskip (want_n rfl rfl rfl) ?_
      refine lex.gskip (want_n rfl rfl rfl) ?_
      refine lex.gskip (want_n rfl rfl rfl) ?_
      refine lex.gskip (want_f rfl rfl (show _ = Value.bool false from rfl) rfl) ?_
      refine lex.pure (v := .bool false) (pu_pickF (q := false) rfl rfl rfl) ?_
      refine lex.pure (v := .bool false) (pu_assign rfl) ?_
      refine lex.nil ?_
      refine hK45 _ _ ?_
      obtain rfl := Option.some.inj hb
      refine Wc.ret ?_
      refine hKR _ _ ?_
      refine ⟨_, res1 Try.results3 (show RV _ _ _ (.tmp _) (.bool false) from rfl), _, rfl, rfl, hC.sel [] (by decide)⟩
end Go.Proofs.Yteajmbanlohncaa
