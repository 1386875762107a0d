/- The walks: part 9. -/
import Derived.Test.YteajmbanlohncaaS
import Derived.Test.YteajmbanlohncaaG6
set_option linter.unusedVariables false
set_option linter.unusedSimpArgs false
namespace Go.Proofs.Yteajmbanlohncaa
open Ev
set_option maxRecDepth 100000 in
set_option maxHeartbeats 4000000 in
theorem law46_zero_ok (n : Nat) {w : World} {O0 : List Nat} (hO : ∀ k ∈ O0, k < w.heap.size) {Ad_0_0 : Option Addr} {md_0_0 cd_0_0 : Nat} {d_0_0 : List Int} (hd_0_0 : Rep O0 w (.sl (.int .i64)) [.slice Ad_0_0 md_0_0 cd_0_0] d_0_0) {Ad_0_1 : Option Addr} {md_0_1 cd_0_1 : Nat} {d_0_1 : List Int} (hd_0_1 : Rep O0 w (.sl (.int .i64)) [.slice Ad_0_1 md_0_1 cd_0_1] d_0_1) {d_0_2 : Int} (hd_0_2 : I64 d_0_2) {r : Bool} (hb : F.law46_zero n d_0_0 d_0_1 d_0_2 = some r) :
    Calls Try.prog 17 #[.agg #[.slice Ad_0_0 md_0_0 cd_0_0, .slice Ad_0_1 md_0_1 cd_0_1, .int .i64 d_0_2]] w fun e w' => ∃ v, e = .returned v ∧ v = .bool r ∧ Cx (fun _ => False) O0 w w' [] := by
  unfold F.law46_zero at hb
  have hC := Cx.start hO
  replace hC := hC.arg rfl hd_0_0
  replace hC := hC.arg rfl hd_0_1
  clear hO
  obtain ⟨rfl, hld_0_0, hcd_0_0⟩ := hd_0_0.sl_len
  obtain ⟨rfl, hld_0_1, hcd_0_1⟩ := hd_0_1.sl_len
  refine calls_of_Wc Try.func17 rfl (by rw [Try.ntmps17]; exact Nat.le_of_ble_eq_true rfl) fun KR hKR => ?_
  refine Wc.seq fun K3 hK3 => ?_
  refine Wc.region (by decide +kernel) ?_
  refine lex.op (hC.box (cs := [.slice Ad_0_0 d_0_0.length cd_0_0, .slice Ad_0_1 d_0_1.length cd_0_1, .int .i64 d_0_2]) rfl rfl) ?_
  rintro _ w5 ⟨g4, rfl, hC, hF, hG⟩
  clear hG
  refine lex.pure (v := .bool false) (pu_assign rfl) ?_
  refine lex.nil ?_
  refine hK3 _ _ ?_
  refine Wc.seq fun K7 hK7 => ?_
  refine Wc.region (by decide +kernel) ?_
  refine lex.pure (v := .pointer (some ((⟨g4, 0, none⟩ : Addr).add 0))) (pu_field (sz := 1) Try.underlying32 rfl Try.sizeOf30 (by decide) rfl rfl) ?_
  refine lex.val (v := .slice Ad_0_0 d_0_0.length cd_0_0) (ld_fld (hC.bx (i := 0) rfl) Try.isAgg30 rfl rfl) ?_
  refine lex.pure (v := .int .i64 (d_0_0.length : Int)) (pu_len (A := Ad_0_0) (n := d_0_0.length) (m := cd_0_0) Try.underlying30 rfl) ?_
  refine lex.pure (v := .bool (decide ((d_0_0.length : Int) = 0))) (pu_eql (k := .i64) (a := (d_0_0.length : Int)) (b := 0) rfl rfl) ?_
  refine lex.pure (v := .bool (decide ((d_0_0.length : Int) = 0))) (pu_move rfl) ?_
  rcases bS (decide ((d_0_0.length : Int) = 0)) with hq8 | hq8
  · replace hb := (cT hq8).symm.trans hb
    refine lex.gpure (want_t rfl rfl (show _ = Value.bool (decide ((d_0_0.length : Int) = 0)) from rfl) hq8) (v := .pointer (some ((⟨g4, 0, none⟩ : Addr).add 1))) (pu_field (sz := 1) Try.underlying32 rfl Try.sizeOf30 (by decide) rfl rfl) ?_
    refine lex.gval (want_t rfl rfl (show _ = Value.bool (decide ((d_0_0.length : Int) = 0)) from rfl) hq8) (v := .slice Ad_0_1 d_0_1.length cd_0_1) (ld_fld (hC.bx (i := 0) rfl) Try.isAgg30 rfl rfl) ?_
    refine lex.gpure (want_t rfl rfl (show _ = Value.bool (decide ((d_0_0.length : Int) = 0)) from rfl) hq8) (v := .int .i64 (d_0_1.length : Int)) (pu_len (A := Ad_0_1) (n := d_0_1.length) (m := cd_0_1) Try.underlying30 rfl) ?_
    refine lex.gpure (want_t rfl rfl (show _ = Value.bool (decide ((d_0_0.length : Int) = 0)) from rfl) hq8) (v := .bool (decide ((d_0_1.length : Int) = 0))) (pu_eql (k := .i64) (a := (d_0_1.length : Int)) (b := 0) rfl rfl) ?_
    refine lex.pure (v := .bool (decide ((d_0_1.length : Int) = 0))) (pu_pickT (q := (decide ((d_0_0.length : Int) = 0))) rfl hq8 rfl) ?_
    refine lex.pure (v := .bool (decide ((d_0_1.length : Int) = 0))) (pu_move rfl) ?_
    rcases bS (decide ((d_0_1.length : Int) = 0)) with hq9 | hq9
    · replace hb := (cT hq9).symm.trans hb
      refine lex.gpure (want_t rfl rfl (show _ = Value.bool (decide ((d_0_1.length : Int) = 0)) from rfl) hq9) (v := .pointer (some ((⟨g4, 0, none⟩ : Addr).add 2))) (pu_field (sz := 1) Try.underlying32 rfl Try.sizeOf3 (by decide) rfl rfl) ?_
      refine lex.gval (want_t rfl rfl (show _ = Value.bool (decide ((d_0_1.length : Int) = 0)) from rfl) hq9) (v := .int .i64 d_0_2) (ld_fld (hC.bx (i := 0) rfl) Try.isAgg3 rfl rfl) ?_
      refine lex.gpure (want_t rfl rfl (show _ = Value.bool (decide ((d_0_1.length : Int) = 0)) from rfl) hq9) (v := .bool (decide (d_0_2 = 0))) (pu_eql (k := .i64) (a := d_0_2) (b := 0) rfl rfl) ?_
      refine lex.pure (v := .bool (decide (d_0_2 = 0))) (pu_pickT (q := (decide ((d_0_1.length : Int) = 0))) rfl hq9 rfl) ?_
      refine lex.pure (v := .bool (decide (d_0_2 = 0))) (pu_assign rfl) ?_
      refine lex.nil ?_
      refine hK7 _ _ ?_
      obtain rfl := Option.some.inj hb
      refine Wc.ret ?_
      refine hKR _ _ ?_
      refine ⟨_, res1 Try.results17 (show RV _ _ _ (.tmp _) (.bool (decide (d_0_2 = 0))) from rfl), _, rfl, rfl, hC.sel [] (by decide)⟩
    · replace hb := (cF hq9).symm.trans hb
      refine lex.gskip (want_f rfl rfl (show _ = Value.bool (decide ((d_0_1.length : Int) = 0)) from rfl) hq9) ?_
      refine lex.gskip (want_f rfl rfl (show _ = Value.bool (decide ((d_0_1.length : Int) = 0)) from rfl) hq9) ?_
      refine lex.gskip (want_f rfl rfl (show _ = Value.bool (decide ((d_0_1.length : Int) = 0)) from rfl) hq9) ?_
      refine lex.pure (v := .bool false) (pu_pickF (q := (decide ((d_0_1.length : Int) = 0))) rfl hq9 rfl) ?_
      refine lex.pure (v := .bool false) (pu_assign rfl) ?_
      refine lex.nil ?_
      refine hK7 _ _ ?_
      obtain rfl := Option.some.inj hb
      refine Wc.ret ?_
      refine hKR _ _ ?_
      refine ⟨_, res1 Try.results17 (show RV _ _ _ (.tmp _) (.bool false) from rfl), _, rfl, rfl, hC.sel [] (by decide)⟩
  · replace hb := (cF hq8).symm.trans hb
    refine lex.gskip (want_f rfl rfl (show _ = Value.bool (decide ((d_0_0.length : Int) = 0)) from rfl) hq8) ?_
    refine lex.gskip (want_f rfl rfl (show _ = Value.bool (decide ((d_0_0.length : Int) = 0)) from rfl) hq8) ?_
    refine lex.gskip (want_f rfl rfl (show _ = Value.bool (decide ((d_0_0.length : Int) = 0)) from rfl) hq8) ?_
    refine lex.gskip (want_f rfl rfl (show _ = Value.bool (decide ((d_0_0.length : Int) = 0)) from rfl) hq8) ?_
    refine lex.pure (v := .bool false) (pu_pickF (q := (decide ((d_0_0.length : Int) = 0))) rfl hq8 rfl) ?_
    refine lex.pure (v := .bool false) (pu_move rfl) ?_
    refine lex.gskip (want_f rfl rfl (show _ = Value.bool false from rfl) rfl) ?_
    refine lex.gskip (want_f rfl rfl (show _ = Value.bool false from rfl) rfl) ?_
    refine lex.gskip (want_f rfl rfl (show _ = Value.bool false from rfl) rfl) ?_
    refine lex.pure (v := .bool false) (pu_pickF (q := false) rfl rfl rfl) ?_
    refine lex.pure (v := .bool false) (pu_assign rfl) ?_
    refine lex.nil ?_
    refine hK7 _ _ ?_
    obtain rfl := Option.some.inj hb
    refine Wc.ret ?_
    refine hKR _ _ ?_
    refine ⟨_, res1 Try.results17 (show RV _ _ _ (.tmp _) (.bool false) from rfl), _, rfl, rfl, hC.sel [] (by decide)⟩

set_option maxRecDepth 100000 in
set_option maxHeartbeats 4000000 in
theorem law46_PolygonTriangles_ok (n : Nat) {w : World} {O0 : List Nat} (hO : ∀ k ∈ O0, k < w.heap.size) {a_0_0 : Int} (ha_0_0 : I64 a_0_0) {a_0_1 : Int} (ha_0_1 : I64 a_0_1) {a_0_2 : Int} (ha_0_2 : I64 a_0_2) {b_1_0 : Int} (hb_1_0 : I64 b_1_0) {b_1_1 : Int} (hb_1_1 : I64 b_1_1) {b_1_2 : Int} (hb_1_2 : I64 b_1_2) {c_2_0 : Int} (hc_2_0 : I64 c_2_0) {c_2_1 : Int} (hc_2_1 : I64 c_2_1) {c_2_2 : Int} (hc_2_2 : I64 c_2_2) {r : Bool} (hb : F.law46_PolygonTriangles n a_0_0 a_0_1 a_0_2 b_1_0 b_1_1 b_1_2 c_2_0 c_2_1 c_2_2 = some r) :
    Calls Try.prog 5 #[.agg #[.int .i64 a_0_0, .int .i64 a_0_1, .int .i64 a_0_2], .agg #[.int .i64 b_1_0, .int .i64 b_1_1, .int .i64 b_1_2], .agg #[.int .i64 c_2_0, .int .i64 c_2_1, .int .i64 c_2_2]] w fun e w' => ∃ v, e = .returned v ∧ v = .bool r ∧ Cx (fun _ => False) O0 w w' [] := by
  unfold F.law46_PolygonTriangles at hb
  have hC := Cx.start hO
  clear hO
  refine calls_of_Wc Try.func5 rfl (by rw [Try.ntmps5]; exact Nat.le_of_ble_eq_true rfl) fun KR hKR => ?_
  refine Wc.seq fun K1 hK1 => ?_
  refine Wc.region (by decide +kernel) ?_
  refine lex.op (hC.box (cs := [.int .i64 a_0_0, .int .i64 a_0_1, .int .i64 a_0_2]) rfl rfl) ?_
  rintro _ w3 ⟨g2, rfl, hC, hF, hG⟩
  clear hG
  refine lex.op (hC.box (cs := [.int .i64 b_1_0, .int .i64 b_1_1, .int .i64 b_1_2]) rfl rfl) ?_
  rintro _ w6 ⟨g5, rfl, hC, hF, hG⟩
  clear hG
  refine lex.op (hC.box (cs := [.int .i64 c_2_0, .int .i64 c_2_1, .int .i64 c_2_2]) rfl rfl) ?_
  rintro _ w9 ⟨g8, rfl, hC, hF, hG⟩
  clear hG
  refine lex.pure (v := .bool false) (pu_assign rfl) ?_
  refine lex.nil ?_
  refine hK1 _ _ ?_
  refine Wc.seq fun K11 hK11 => ?_
  refine Wc.seq fun K12 hK12 => ?_
  refine Wc.region (by decide +kernel) ?_
  obtain ⟨y13, h14, hb⟩ := bd hb
  refine lex.cl (⟨_, _, op_call (vs := []) Try.call11 rfl rfl rfl, law46_awake_ok n hC.lt  h14⟩) ?_
  rintro _ w15 ⟨rfl, hK⟩
  replace hC := hC.merge hK
  clear hK
  refine lex.pure (v := .bool (!y13)) (pu_not (q := y13) rfl) ?_
  refine lex.nil ?_
  refine hK12 _ _ ?_
  refine Wc.cond (t := (!y13)) (rfl) (fun hq16 => ?_) (fun hq16 => ?_)
  · replace hb := (cT hq16).symm.trans hb
    refine Wc.seq fun K17 hK17 => ?_
    refine Wc.region (by decide +kernel) ?_
    refine lex.pure (v := .bool false) (pu_assign rfl) ?_
    refine lex.nil ?_
    refine hK17 _ _ ?_
    obtain rfl := Option.some.inj hb
    refine Wc.ret ?_
    refine hKR _ _ ?_
    refine ⟨_, res1 Try.results5 (show RV _ _ _ (.tmp _) (.bool false) from rfl), _, rfl, rfl, hC.sel [] (by decide)⟩
  · replace hb := (cF hq16).symm.trans hb
    refine Wc.skip ?_
    refine hK11 _ _ ?_
    refine Wc.seq fun K18 hK18 => ?_
    refine Wc.region (by decide +kernel) ?_
    refine lex.val (v := .agg #[.int .i64 a_0_0, .int .i64 a_0_1, .int .i64 a_0_2]) (ld_blk (hC.bx (i := 2) rfl) Try.isAgg23 Try.sizeOf23 rfl) ?_
    refine lex.val (v := .agg #[.int .i64 b_1_0, .int .i64 b_1_1, .int .i64 b_1_2]) (ld_blk (hC.bx (i := 1) rfl) Try.isAgg23 Try.sizeOf23 rfl) ?_
    refine lex.val (v := .agg #[.int .i64 c_2_0, .int .i64 c_2_1, .int .i64 c_2_2]) (ld_blk (hC.bx (i := 0) rfl) Try.isAgg23 Try.sizeOf23 rfl) ?_
    refine lex.op (hC.lit (s := (.pr (.int .i64) (.pr (.int .i64) (.int .i64)))) (vs := [.agg #[.int .i64 a_0_0, .int .i64 a_0_1, .int .i64 a_0_2], .agg #[.int .i64 b_1_0, .int .i64 b_1_1, .int .i64 b_1_2], .agg #[.int .i64 c_2_0, .int .i64 c_2_1, .int .i64 c_2_2]]) (xs := [(a_0_0, (a_0_1, a_0_2)), (b_1_0, (b_1_1, b_1_2)), (c_2_0, (c_2_1, c_2_2))]) Try.underlying43 Try.type23 rfl rfl (Nat.le_of_ble_eq_true rfl) rfl rfl (by simp [Value.cells, Sh.n]) rfl (show Elems _ _ (.pr (.int .i64) (.pr (.int .i64) (.int .i64))) ([.int .i64 a_0_0, .int .i64 a_0_1, .int .i64 a_0_2] ++ ([.int .i64 b_1_0, .int .i64 b_1_1, .int .i64 b_1_2] ++ ([.int .i64 c_2_0, .int .i64 c_2_1, .int .i64 c_2_2] ++ ([])))) ([(a_0_0, (a_0_1, a_0_2)), (b_1_0, (b_1_1, b_1_2)), (c_2_0, (c_2_1, c_2_2))] : List (Int × (Int × Int))) from Elems.cons (⟨[.int .i64 a_0_0], [.int .i64 a_0_1, .int .i64 a_0_2], rfl, ⟨rfl, I64.wr ha_0_0⟩, ⟨[.int .i64 a_0_1], [.int .i64 a_0_2], rfl, ⟨rfl, I64.wr ha_0_1⟩, ⟨rfl, I64.wr ha_0_2⟩⟩⟩) (Elems.cons (⟨[.int .i64 b_1_0], [.int .i64 b_1_1, .int .i64 b_1_2], rfl, ⟨rfl, I64.wr hb_1_0⟩, ⟨[.int .i64 b_1_1], [.int .i64 b_1_2], rfl, ⟨rfl, I64.wr hb_1_1⟩, ⟨rfl, I64.wr hb_1_2⟩⟩⟩) (Elems.cons (⟨[.int .i64 c_2_0], [.int .i64 c_2_1, .int .i64 c_2_2], rfl, ⟨rfl, I64.wr hc_2_0⟩, ⟨[.int .i64 c_2_1], [.int .i64 c_2_2], rfl, ⟨rfl, I64.wr hc_2_1⟩, ⟨rfl, I64.wr hc_2_2⟩⟩⟩) (Elems.nil _ _ _))))) ?_
    rintro _ w23 ⟨A19, c20, rfl, hl21, hc22, hC, hF, hN⟩
    clear hF hN
    replace hC := hC.freeze (i := 0) rfl (hC.own_new (i := 0) rfl)
    refine lex.op (hC.lit (s := (.sl (.pr (.int .i64) (.pr (.int .i64) (.int .i64))))) (vs := [.slice A19 ((([(a_0_0, (a_0_1, a_0_2)), (b_1_0, (b_1_1, b_1_2)), (c_2_0, (c_2_1, c_2_2))] : List (Int × (Int × Int)))).length) c20]) (xs := [([(a_0_0, (a_0_1, a_0_2)), (b_1_0, (b_1_1, b_1_2)), (c_2_0, (c_2_1, c_2_2))] : List (Int × (Int × Int)))]) Try.underlying28 Try.type43 rfl rfl (Nat.le_of_ble_eq_true rfl) rfl rfl (by simp [Value.cells, Sh.n]) rfl (show Elems _ _ (.sl (.pr (.int .i64) (.pr (.int .i64) (.int .i64)))) ([.slice A19 ((([(a_0_0, (a_0_1, a_0_2)), (b_1_0, (b_1_1, b_1_2)), (c_2_0, (c_2_1, c_2_2))] : List (Int × (Int × Int)))).length) c20] ++ ([])) ([([(a_0_0, (a_0_1, a_0_2)), (b_1_0, (b_1_1, b_1_2)), (c_2_0, (c_2_1, c_2_2))] : List (Int × (Int × Int)))] : List (List (Int × (Int × Int)))) from Elems.cons (hC.rd (i := 0) rfl) (Elems.nil _ _ _))) ?_
    rintro _ w29 ⟨A25, c26, rfl, hl27, hc28, hC, hF, hN⟩
    clear hF hN
    refine lex.pure (v := .slice A25 ((([([(a_0_0, (a_0_1, a_0_2)), (b_1_0, (b_1_1, b_1_2)), (c_2_0, (c_2_1, c_2_2))] : List (Int × (Int × Int)))] : List (List (Int × (Int × Int))))).length) c26) (pu_assign rfl) ?_
    refine lex.nil ?_
    refine hK18 _ _ ?_
    refine Wc.fresh fun E31 hE => ?_
    have e3 : E31 3 = .pointer (some ⟨g2, 0, none⟩) := (congrFun hE 3).trans rfl
    have e4 : E31 4 = .pointer (some ⟨g5, 0, none⟩) := (congrFun hE 4).trans rfl
    have e5 : E31 5 = .pointer (some ⟨g8, 0, none⟩) := (congrFun hE 5).trans rfl
    have e6 : E31 6 = .bool false := (congrFun hE 6).trans rfl
    have e7 : E31 7 = .slice A25 ((([([(a_0_0, (a_0_1, a_0_2)), (b_1_0, (b_1_1, b_1_2)), (c_2_0, (c_2_1, c_2_2))] : List (Int × (Int × Int)))] : List (List (Int × (Int × Int))))).length) c26 := (congrFun hE 7).trans rfl
    clear hE
    refine Wc.seq fun K32 hK32 => ?_
    refine Wc.region (by decide +kernel) ?_
    refine lex.pure (v := .slice A25 ((([([(a_0_0, (a_0_1, a_0_2)), (b_1_0, (b_1_1, b_1_2)), (c_2_0, (c_2_1, c_2_2))] : List (Int × (Int × Int)))] : List (List (Int × (Int × Int))))).length) c26) (pu_move e7) ?_
    obtain ⟨y33, h34, hb⟩ := bd hb
    refine lex.cl (⟨_, _, op_call (vs := [.slice A25 ((([([(a_0_0, (a_0_1, a_0_2)), (b_1_0, (b_1_1, b_1_2)), (c_2_0, (c_2_1, c_2_2))] : List (Int × (Int × Int)))] : List (List (Int × (Int × Int))))).length) c26]) Try.call15 rfl rfl rfl, polygon_Project_ok n (hC.lentLt [.slice A25 ((([([(a_0_0, (a_0_1, a_0_2)), (b_1_0, (b_1_1, b_1_2)), (c_2_0, (c_2_1, c_2_2))] : List (Int × (Int × Int)))] : List (List (Int × (Int × Int))))).length) c26]) ((hC.ow (i := 0) rfl).lend (vs := [.slice A25 ((([([(a_0_0, (a_0_1, a_0_2)), (b_1_0, (b_1_1, b_1_2)), (c_2_0, (c_2_1, c_2_2))] : List (Int × (Int × Int)))] : List (List (Int × (Int × Int))))).length) c26]) (by simp)) h34⟩) ?_
    rintro _ w45 ⟨A35, m36, c37, A39, m40, c41, rfl, hr43, hr44, hK⟩
    replace hC := hC.mergeF hK rfl
    clear hK
    obtain ⟨rfl, hl46, hc47⟩ := (hC.ow (i := 0) rfl).sl_len
    obtain ⟨rfl, hl48, hc49⟩ := (hC.ow (i := 1) rfl).sl_len
    refine lex.pure (v := .tuple #[.agg #[.slice A35 y33.1.length c37, .slice A39 y33.2.1.length c41, .int .i64 y33.2.2.1], .int .i64 y33.2.2.2]) (pu_move rfl) ?_
    refine lex.pure (v := .agg #[.slice A35 y33.1.length c37, .slice A39 y33.2.1.length c41, .int .i64 y33.2.2.1]) (pu_extract rfl rfl) ?_
    refine lex.pure (v := .int .i64 y33.2.2.2) (pu_extract rfl rfl) ?_
    refine lex.op (hC.alloc (cs := [.slice none 0 0, .slice none 0 0, .int .i64 0]) Try.zeroValue32 rfl) ?_
    rintro _ w51 ⟨g50, rfl, hC, hF, hG⟩
    clear hG
    refine lex.sk (hC.seta (i := 0) (ds := [.slice A35 y33.1.length c37, .slice A39 y33.2.1.length c41, .int .i64 y33.2.2.1]) rfl Try.type32 rfl rfl rfl rfl rfl) ?_
    rintro w53 ⟨hC, hF⟩
    refine lex.pure (v := .int .i64 y33.2.2.2) (pu_assign rfl) ?_
    refine lex.nil ?_
    refine hK32 _ _ ?_
    refine Wc.seq fun K54 hK54 => ?_
    refine Wc.seq fun K55 hK55 => ?_
    refine Wc.region (by decide +kernel) ?_
    refine lex.pure (v := .slice A25 ((([([(a_0_0, (a_0_1, a_0_2)), (b_1_0, (b_1_1, b_1_2)), (c_2_0, (c_2_1, c_2_2))] : List (Int × (Int × Int)))] : List (List (Int × (Int × Int))))).length) c26) (pu_move e7) ?_
    obtain ⟨x56, h57, hb⟩ := bd hb
    obtain ⟨ad58, cs59, hA, hc60, hr61⟩ := hC.elo (i := 3) rfl (get_some h57).2
    subst hA
    refine lex.pure (v := .pointer (some (ad58.add ((0 : Int).toNat * 1)))) (pu_index (a := 0) Try.underlying28 Try.sizeOf43 rfl rfl (get_some h57).1) ?_
    have hR := hr61
    obtain ⟨A62, c63, rfl, hl64, hc65, _⟩ := hr61
    replace hC := hC.ro hR
    clear hR
    refine lex.val (v := .slice A62 x56.length c63) (ld_one Try.isAgg43 rfl (hc60 0 _ rfl)) ?_
    refine lex.pure (v := .int .i64 (x56.length : Int)) (pu_len (A := A62) (n := x56.length) (m := c63) Try.underlying43 rfl) ?_
    refine lex.pure (v := .int .i64 0) (pu_move rfl) ?_
    refine lex.nil ?_
    refine hK55 _ _ ?_
    refine Wc.fresh fun E67 hE => ?_
    have e3 : E67 3 = .pointer (some ⟨g2, 0, none⟩) := (congrFun hE 3).trans e3
    have e4 : E67 4 = .pointer (some ⟨g5, 0, none⟩) := (congrFun hE 4).trans e4
    have e5 : E67 5 = .pointer (some ⟨g8, 0, none⟩) := (congrFun hE 5).trans e5
    have e6 : E67 6 = .bool false := (congrFun hE 6).trans e6
    have e7 : E67 7 = .slice (some ad58) ((([([(a_0_0, (a_0_1, a_0_2)), (b_1_0, (b_1_1, b_1_2)), (c_2_0, (c_2_1, c_2_2))] : List (Int × (Int × Int)))] : List (List (Int × (Int × Int))))).length) c26 := (congrFun hE 7).trans e7
    have e8 : E67 8 = .pointer (some ⟨g50, 0, none⟩) := (congrFun hE 8).trans rfl
    have e9 : E67 9 = .int .i64 y33.2.2.2 := (congrFun hE 9).trans rfl
    have e26 : E67 26 = .slice A62 x56.length c63 := (congrFun hE 26).trans rfl
    have e27 : E67 27 = .int .i64 (x56.length : Int) := (congrFun hE 27).trans rfl
    have e28 : E67 28 = .int .i64 0 := (congrFun hE 28).trans rfl
    clear hE
    obtain ⟨o68, hl0, hb⟩ := bd hb
    refine Wc.cut (fun E wv => ∃ (v28_0 : Int), E 3 = .pointer (some ⟨g2, 0, none⟩) ∧ E 4 = .pointer (some ⟨g5, 0, none⟩) ∧ E 5 = .pointer (some ⟨g8, 0, none⟩) ∧ E 6 = .bool false ∧ E 7 = .slice (some ad58) ((([([(a_0_0, (a_0_1, a_0_2)), (b_1_0, (b_1_1, b_1_2)), (c_2_0, (c_2_1, c_2_2))] : List (Int × (Int × Int)))] : List (List (Int × (Int × Int))))).length) c26 ∧ E 8 = .pointer (some ⟨g50, 0, none⟩) ∧ E 9 = .int .i64 y33.2.2.2 ∧ I64 v28_0 ∧ Cx (fun _ => False) O0 w wv [.box g2 23 [.int .i64 a_0_0, .int .i64 a_0_1, .int .i64 a_0_2], .box g5 23 [.int .i64 b_1_0, .int .i64 b_1_1, .int .i64 b_1_2], .box g8 23 [.int .i64 c_2_0, .int .i64 c_2_1, .int .i64 c_2_2], .own 43 (.sl (.pr (.int .i64) (.pr (.int .i64) (.int .i64)))) (.slice (some ad58) ((([([(a_0_0, (a_0_1, a_0_2)), (b_1_0, (b_1_1, b_1_2)), (c_2_0, (c_2_1, c_2_2))] : List (Int × (Int × Int)))] : List (List (Int × (Int × Int))))).length) c26) ([([(a_0_0, (a_0_1, a_0_2)), (b_1_0, (b_1_1, b_1_2)), (c_2_0, (c_2_1, c_2_2))] : List (Int × (Int × Int)))] : List (List (Int × (Int × Int)))), .box g50 32 [.slice A35 y33.1.length c37, .slice A39 y33.2.1.length c41, .int .i64 y33.2.2.1], .own 3 (.int .i64) (.slice A35 y33.1.length c37) y33.1, .own 3 (.int .i64) (.slice A39 y33.2.1.length c41) y33.2.1] ∧ ((chk (b_1_0 - a_0_0)).bind fun z119 => (chk (c_2_1 - a_0_1)).bind fun z121 => (chk (z119 * z121)).bind fun z123 => (chk (b_1_1 - a_0_1)).bind fun z125 => (chk (c_2_0 - a_0_0)).bind fun z127 => (chk (z125 * z127)).bind fun z129 => cond (decide (z123 = z129)) (cond (decide (y33.2.2.2 = 15)) ((F.law46_zero n y33.1 y33.2.1 y33.2.2.1).bind fun y135 => cond y135 ((F.polygon_Generic n ([([(a_0_0, (a_0_1, a_0_2)), (b_1_0, (b_1_1, b_1_2)), (c_2_0, (c_2_1, c_2_2))] : List (Int × (Int × Int)))] : List (List (Int × (Int × Int))))).bind fun y139 => some (!y139)) (some false)) (some false)) (cond (decide (y33.2.2.2 = 0)) (cond (decide (y33.2.2.1 = 1)) (cond (decide ((y33.1.length : Int) = 0)) ((F.polygon_Generic n ([([(a_0_0, (a_0_1, a_0_2)), (b_1_0, (b_1_1, b_1_2)), (c_2_0, (c_2_1, c_2_2))] : List (Int × (Int × Int)))] : List (List (Int × (Int × Int))))).bind fun y146 => some y146) (some false)) (some false)) (some false)) : Option (Bool)) = some r) (fun K69 hK69 => ?_) ?_
    · refine Wc.block ?_
      refine Wc.loop (fun m E wv => ∃ (v28_0 : Int), E 3 = .pointer (some ⟨g2, 0, none⟩) ∧ E 4 = .pointer (some ⟨g5, 0, none⟩) ∧ E 5 = .pointer (some ⟨g8, 0, none⟩) ∧ E 6 = .bool false ∧ E 7 = .slice (some ad58) ((([([(a_0_0, (a_0_1, a_0_2)), (b_1_0, (b_1_1, b_1_2)), (c_2_0, (c_2_1, c_2_2))] : List (Int × (Int × Int)))] : List (List (Int × (Int × Int))))).length) c26 ∧ E 8 = .pointer (some ⟨g50, 0, none⟩) ∧ E 9 = .int .i64 y33.2.2.2 ∧ E 26 = .slice A62 x56.length c63 ∧ E 27 = .int .i64 (x56.length : Int) ∧ E 28 = .int .i64 v28_0 ∧ I64 v28_0 ∧ Cx (fun _ => False) O0 w wv [.box g2 23 [.int .i64 a_0_0, .int .i64 a_0_1, .int .i64 a_0_2], .box g5 23 [.int .i64 b_1_0, .int .i64 b_1_1, .int .i64 b_1_2], .box g8 23 [.int .i64 c_2_0, .int .i64 c_2_1, .int .i64 c_2_2], .own 43 (.sl (.pr (.int .i64) (.pr (.int .i64) (.int .i64)))) (.slice (some ad58) ((([([(a_0_0, (a_0_1, a_0_2)), (b_1_0, (b_1_1, b_1_2)), (c_2_0, (c_2_1, c_2_2))] : List (Int × (Int × Int)))] : List (List (Int × (Int × Int))))).length) c26) ([([(a_0_0, (a_0_1, a_0_2)), (b_1_0, (b_1_1, b_1_2)), (c_2_0, (c_2_1, c_2_2))] : List (Int × (Int × Int)))] : List (List (Int × (Int × Int)))), .box g50 32 [.slice A35 y33.1.length c37, .slice A39 y33.2.1.length c41, .int .i64 y33.2.2.1], .own 3 (.int .i64) (.slice A35 y33.1.length c37) y33.1, .own 3 (.int .i64) (.slice A39 y33.2.1.length c41) y33.2.1, .ro (.sl (.pr (.int .i64) (.pr (.int .i64) (.int .i64)))) [.slice A62 x56.length c63] x56] ∧ loopN m (F.law46_PolygonTriangles_b0 n y33 x56) v28_0 = some o68) n ⟨0, e3, e4, e5, e6, e7, e8, e9, e26, e27, e28, (show I64 0 from by unfold I64; omega), hC.sel [8, 7, 6, 4, 1, 2, 3, 0] (by decide), hl0⟩ ?_
      have hbK0 := hb
      clear hb hC hl0
      rintro m71 E73 w72 ⟨v28_0, e3, e4, e5, e6, e7, e8, e9, e26, e27, e28, hrv28_0, hC, hl0⟩ K70 hK70
      obtain ⟨m71', o74, rfl, hb, hl0⟩ := loopN_some hl0
      unfold F.law46_PolygonTriangles_b0 at hb
      refine Wc.seq fun K75 hK75 => ?_
      refine Wc.region (by decide +kernel) ?_
      refine lex.pure (v := .bool (decide (v28_0 < (x56.length : Int)))) (pu_lss (k := .i64) (a := v28_0) (b := (x56.length : Int)) e28 e27) ?_
      refine lex.nil ?_
      refine hK75 _ _ ?_
      refine Wc.seq fun K76 hK76 => ?_
      refine Wc.cond (t := (decide (v28_0 < (x56.length : Int)))) (rfl) (fun hq77 => ?_) (fun hq77 => ?_)
      · replace hb := (cT hq77).symm.trans hb
        refine Wc.skip ?_
        refine hK76 _ _ ?_
        refine Wc.seq fun K78 hK78 => ?_
        refine Wc.block ?_
        refine Wc.seq fun K79 hK79 => ?_
        refine Wc.region (by decide +kernel) ?_
        obtain ⟨x80, h81, hb⟩ := bd hb
        obtain ⟨ad82, cs83, hA, hc84, hr85⟩ := hC.elr (i := 7) rfl (get_some h81).2
        subst hA
        refine lex.pure (v := .pointer (some (ad82.add (v28_0.toNat * 3)))) (pu_index (a := v28_0) Try.underlying43 Try.sizeOf23 e26 e28 (get_some h81).1) ?_
        obtain ⟨k86, k87, rfl, hr88, hr89⟩ := hr85
        obtain ⟨rfl, hr88⟩ := hr88
        obtain ⟨k90, k91, rfl, hr92, hr93⟩ := hr89
        obtain ⟨rfl, hr92⟩ := hr92
        obtain ⟨rfl, hr93⟩ := hr93
        refine lex.val (v := .agg #[.int .i64 x80.1, .int .i64 x80.2.1, .int .i64 x80.2.2]) (ld_agg Try.isAgg23 Try.sizeOf23 rfl rfl hc84) ?_
        refine lex.op (hC.alloc (cs := [.int .i64 0, .int .i64 0, .int .i64 0]) Try.zeroValue23 rfl) ?_
        rintro _ w95 ⟨g94, rfl, hC, hF, hG⟩
        clear hG
        refine lex.sk (hC.seta (i := 0) (ds := [.int .i64 x80.1, .int .i64 x80.2.1, .int .i64 x80.2.2]) rfl Try.type23 rfl rfl rfl rfl rfl) ?_
        rintro w97 ⟨hC, hF⟩
        refine lex.nil ?_
        refine hK79 _ _ ?_
        refine Wc.seq fun K98 hK98 => ?_
        refine Wc.region (by decide +kernel) ?_
        refine lex.pure (v := .pointer (some ((⟨g94, 0, none⟩ : Addr).add 0))) (pu_field (sz := 1) Try.underlying23 rfl Try.sizeOf3 (by decide) rfl rfl) ?_
        refine lex.val (v := .int .i64 x80.1) (ld_fld (hC.bx (i := 0) rfl) Try.isAgg3 rfl rfl) ?_
        refine lex.pure (v := .pointer (some ((⟨g94, 0, none⟩ : Addr).add 1))) (pu_field (sz := 1) Try.underlying23 rfl Try.sizeOf3 (by decide) rfl rfl) ?_
        refine lex.val (v := .int .i64 x80.2.1) (ld_fld (hC.bx (i := 0) rfl) Try.isAgg3 rfl rfl) ?_
        refine lex.pure (v := .pointer (some ((⟨g94, 0, none⟩ : Addr).add 2))) (pu_field (sz := 1) Try.underlying23 rfl Try.sizeOf3 (by decide) rfl rfl) ?_
        refine lex.val (v := .int .i64 x80.2.2) (ld_fld (hC.bx (i := 0) rfl) Try.isAgg3 rfl rfl) ?_
        refine lex.pure (v := .int .i64 (max (max x80.1 x80.2.1) x80.2.2)) (pu_max3 (a := x80.1) (b := x80.2.1) (c := x80.2.2) rfl rfl rfl) ?_
        refine lex.pure (v := .bool (decide (1000 < (max (max x80.1 x80.2.1) x80.2.2)))) (pu_gtr (k := .i64) (a := (max (max x80.1 x80.2.1) x80.2.2)) (b := 1000) rfl rfl) ?_
        refine lex.pure (v := .bool (decide (1000 < (max (max x80.1 x80.2.1) x80.2.2)))) (pu_move rfl) ?_
        rcases bS (decide (1000 < (max (max x80.1 x80.2.1) x80.2.2))) with hq99 | hq99
        · replace hb := (cT hq99).symm.trans hb
          refine lex.gskip (want_f rfl rfl (show _ = Value.bool (decide (1000 < (max (max x80.1 x80.2.1) x80.2.2))) from rfl) hq99) ?_
          refine lex.gskip (want_f rfl rfl (show _ = Value.bool (decide (1000 < (max (max x80.1 x80.2.1) x80.2.2))) from rfl) hq99) ?_
          refine lex.gskip (want_f rfl rfl (show _ = Value.bool (decide (1000 < (max (max x80.1 x80.2.1) x80.2.2))) from rfl) hq99) ?_
          refine lex.gskip (want_f rfl rfl (show _ = Value.bool (decide (1000 < (max (max x80.1 x80.2.1) x80.2.2))) from rfl) hq99) ?_
          refine lex.gskip (want_f rfl rfl (show _ = Value.bool (decide (1000 < (max (max x80.1 x80.2.1) x80.2.2))) from rfl) hq99) ?_
          refine lex.gskip (want_f rfl rfl (show _ = Value.bool (decide (1000 < (max (max x80.1 x80.2.1) x80.2.2))) from rfl) hq99) ?_
          refine lex.gskip (want_f rfl rfl (show _ = Value.bool (decide (1000 < (max (max x80.1 x80.2.1) x80.2.2))) from rfl) hq99) ?_
          refine lex.gskip (want_f rfl rfl (show _ = Value.bool (decide (1000 < (max (max x80.1 x80.2.1) x80.2.2))) from rfl) hq99) ?_
          refine lex.pure (v := .bool true) (pu_pickT (q := (decide (1000 < (max (max x80.1 x80.2.1) x80.2.2)))) rfl hq99 rfl) ?_
          refine lex.nil ?_
          refine hK98 _ _ ?_
          refine Wc.fresh fun E100 hE => ?_
          have e3 : E100 3 = .pointer (some ⟨g2, 0, none⟩) := (congrFun hE 3).trans e3
          have e4 : E100 4 = .pointer (some ⟨g5, 0, none⟩) := (congrFun hE 4).trans e4
          have e5 : E100 5 = .pointer (some ⟨g8, 0, none⟩) := (congrFun hE 5).trans e5
          have e6 : E100 6 = .bool false := (congrFun hE 6).trans e6
          have e7 : E100 7 = .slice (some ad58) ((([([(a_0_0, (a_0_1, a_0_2)), (b_1_0, (b_1_1, b_1_2)), (c_2_0, (c_2_1, c_2_2))] : List (Int × (Int × Int)))] : List (List (Int × (Int × Int))))).length) c26 := (congrFun hE 7).trans e7
          have e8 : E100 8 = .pointer (some ⟨g50, 0, none⟩) := (congrFun hE 8).trans e8
          have e9 : E100 9 = .int .i64 y33.2.2.2 := (congrFun hE 9).trans e9
          have e11 : E100 11 = .pointer (some ⟨g94, 0, none⟩) := (congrFun hE 11).trans rfl
          have e26 : E100 26 = .slice (some ad82) x56.length c63 := (congrFun hE 26).trans e26
          have e27 : E100 27 = .int .i64 (x56.length : Int) := (congrFun hE 27).trans e27
          have e28 : E100 28 = .int .i64 v28_0 := (congrFun hE 28).trans e28
          have e29 : E100 29 = .bool (decide (v28_0 < (x56.length : Int))) := (congrFun hE 29).trans rfl
          have e49 : E100 49 = .bool true := (congrFun hE 49).trans rfl
          clear hE
          refine Wc.cond_true (e49) ?_
          refine Wc.seq fun K101 hK101 => ?_
          refine Wc.region (by decide +kernel) ?_
          refine lex.pure (v := .int .i64 y33.2.2.2) (pu_move e9) ?_
          refine lex.pure (v := .bool (decide (y33.2.2.2 = 1))) (pu_eql (k := .i64) (a := y33.2.2.2) (b := 1) rfl rfl) ?_
          refine lex.pure (v := .bool (decide (y33.2.2.2 = 1))) (pu_move rfl) ?_
          rcases bS (decide (y33.2.2.2 = 1)) with hq102 | hq102
          · replace hb := (cT hq102).symm.trans hb
            refine lex.gval (want_t rfl rfl (show _ = Value.bool (decide (y33.2.2.2 = 1)) from rfl) hq102) (v := .agg #[.slice A35 y33.1.length c37, .slice A39 y33.2.1.length c41, .int .i64 y33.2.2.1]) (ld_blk (hC.bx (i := 5) rfl) Try.isAgg32 Try.sizeOf32 e8) ?_
            obtain ⟨y103, h104, hb⟩ := bd hb
            refine lex.gcl (want_t rfl rfl (show _ = Value.bool (decide (y33.2.2.2 = 1)) from rfl) hq102) (⟨_, _, op_call (vs := [.agg #[.slice A35 y33.1.length c37, .slice A39 y33.2.1.length c41, .int .i64 y33.2.2.1]]) Try.call17 rfl rfl rfl, law46_zero_ok n (hC.lentLt [.slice A35 y33.1.length c37, .slice A39 y33.2.1.length c41]) ((hC.ow (i := 6) rfl).lend (vs := [.slice A35 y33.1.length c37, .slice A39 y33.2.1.length c41]) (by simp)) ((hC.ow (i := 7) rfl).lend (vs := [.slice A35 y33.1.length c37, .slice A39 y33.2.1.length c41]) (by simp)) hr43 h104⟩) ?_
            rintro _ w105 ⟨rfl, hK⟩
            replace hC := hC.mergeF hK rfl
            clear hK
            refine lex.pure (v := .bool y103) (pu_pickT (q := (decide (y33.2.2.2 = 1))) rfl hq102 rfl) ?_
            refine lex.pure (v := .bool y103) (pu_assign rfl) ?_
            refine lex.nil ?_
            refine hK101 _ _ ?_
            obtain rfl := Option.some.inj hb
            obtain rfl := (lX hl0).symm
            replace hb := hbK0
            obtain rfl := Option.some.inj hb
            refine Wc.ret ?_
            refine hKR _ _ ?_
            refine ⟨_, res1 Try.results5 (show RV _ _ _ (.tmp _) (.bool y103) from rfl), _, rfl, rfl, hC.sel [] (by decide)⟩
          · replace hb := (cF hq102).symm.trans hb
            refine lex.gskip (want_f rfl rfl (show _ = Value.bool (decide (y33.2.2.2 = 1)) from rfl) hq102) ?_
            refine lex.gskip (want_f rfl rfl (show _ = Value.bool (decide (y33.2.2.2 = 1)) from rfl) hq102) ?_
            refine lex.pure (v := .bool false) (pu_pickF (q := (decide (y33.2.2.2 = 1))) rfl hq102 rfl) ?_
            refine lex.pure (v := .bool false) (pu_assign rfl) ?_
            refine lex.nil ?_
            refine hK101 _ _ ?_
            obtain rfl := Option.some.inj hb
            obtain rfl := (lX hl0).symm
            replace hb := hbK0
            obtain rfl := Option.some.inj hb
            refine Wc.ret ?_
            refine hKR _ _ ?_
            refine ⟨_, res1 Try.results5 (show RV _ _ _ (.tmp _) (.bool false) from rfl), _, rfl, rfl, hC.sel [] (by decide)⟩
        · replace hb := (cF hq99).symm.trans hb
          refine lex.gpure (want_t rfl rfl (show _ = Value.bool (decide (1000 < (max (max x80.1 x80.2.1) x80.2.2))) from rfl) hq99) (v := .pointer (some ((⟨g94, 0, none⟩ : Addr).add 0))) (pu_field (sz := 1) Try.underlying23 rfl Try.sizeOf3 (by decide) rfl rfl) ?_
          refine lex.gval (want_t rfl rfl (show _ = Value.bool (decide (1000 < (max (max x80.1 x80.2.1) x80.2.2))) from rfl) hq99) (v := .int .i64 x80.1) (ld_fld (hC.bx (i := 0) rfl) Try.isAgg3 rfl rfl) ?_
          refine lex.gpure (want_t rfl rfl (show _ = Value.bool (decide (1000 < (max (max x80.1 x80.2.1) x80.2.2))) from rfl) hq99) (v := .pointer (some ((⟨g94, 0, none⟩ : Addr).add 1))) (pu_field (sz := 1) Try.underlying23 rfl Try.sizeOf3 (by decide) rfl rfl) ?_
          refine lex.gval (want_t rfl rfl (show _ = Value.bool (decide (1000 < (max (max x80.1 x80.2.1) x80.2.2))) from rfl) hq99) (v := .int .i64 x80.2.1) (ld_fld (hC.bx (i := 0) rfl) Try.isAgg3 rfl rfl) ?_
          refine lex.gpure (want_t rfl rfl (show _ = Value.bool (decide (1000 < (max (max x80.1 x80.2.1) x80.2.2))) from rfl) hq99) (v := .pointer (some ((⟨g94, 0, none⟩ : Addr).add 2))) (pu_field (sz := 1) Try.underlying23 rfl Try.sizeOf3 (by decide) rfl rfl) ?_
          refine lex.gval (want_t rfl rfl (show _ = Value.bool (decide (1000 < (max (max x80.1 x80.2.1) x80.2.2))) from rfl) hq99) (v := .int .i64 x80.2.2) (ld_fld (hC.bx (i := 0) rfl) Try.isAgg3 rfl rfl) ?_
          refine lex.gpure (want_t rfl rfl (show _ = Value.bool (decide (1000 < (max (max x80.1 x80.2.1) x80.2.2))) from rfl) hq99) (v := .int .i64 (min (min x80.1 x80.2.1) x80.2.2)) (pu_min3 (a := x80.1) (b := x80.2.1) (c := x80.2.2) rfl rfl rfl) ?_
          refine lex.gpure (want_t rfl rfl (show _ = Value.bool (decide (1000 < (max (max x80.1 x80.2.1) x80.2.2))) from rfl) hq99) (v := .bool (decide ((min (min x80.1 x80.2.1) x80.2.2) < (-1000)))) (pu_lss (k := .i64) (a := (min (min x80.1 x80.2.1) x80.2.2)) (b := (-1000)) rfl rfl) ?_
          refine lex.pure (v := .bool (decide ((min (min x80.1 x80.2.1) x80.2.2) < (-1000)))) (pu_pickF (q := (decide (1000 < (max (max x80.1 x80.2.1) x80.2.2)))) rfl hq99 rfl) ?_
          refine lex.nil ?_
          refine hK98 _ _ ?_
          refine Wc.fresh fun E106 hE => ?_
          have e3 : E106 3 = .pointer (some ⟨g2, 0, none⟩) := (congrFun hE 3).trans e3
          have e4 : E106 4 = .pointer (some ⟨g5, 0, none⟩) := (congrFun hE 4).trans e4
          have e5 : E106 5 = .pointer (some ⟨g8, 0, none⟩) := (congrFun hE 5).trans e5
          have e6 : E106 6 = .bool false := (congrFun hE 6).trans e6
          have e7 : E106 7 = .slice (some ad58) ((([([(a_0_0, (a_0_1, a_0_2)), (b_1_0, (b_1_1, b_1_2)), (c_2_0, (c_2_1, c_2_2))] : List (Int × (Int × Int)))] : List (List (Int × (Int × Int))))).length) c26 := (congrFun hE 7).trans e7
          have e8 : E106 8 = .pointer (some ⟨g50, 0, none⟩) := (congrFun hE 8).trans e8
          have e9 : E106 9 = .int .i64 y33.2.2.2 := (congrFun hE 9).trans e9
          have e11 : E106 11 = .pointer (some ⟨g94, 0, none⟩) := (congrFun hE 11).trans rfl
          have e26 : E106 26 = .slice (some ad82) x56.length c63 := (congrFun hE 26).trans e26
          have e27 : E106 27 = .int .i64 (x56.length : Int) := (congrFun hE 27).trans e27
          have e28 : E106 28 = .int .i64 v28_0 := (congrFun hE 28).trans e28
          have e29 : E106 29 = .bool (decide (v28_0 < (x56.length : Int))) := (congrFun hE 29).trans rfl
          have e49 : E106 49 = .bool (decide ((min (min x80.1 x80.2.1) x80.2.2) < (-1000))) := (congrFun hE 49).trans rfl
          clear hE
          refine Wc.cond (t := (decide ((min (min x80.1 x80.2.1) x80.2.2) < (-1000)))) (e49) (fun hq107 => ?_) (fun hq107 => ?_)
          · replace hb := (cT hq107).symm.trans hb
            refine Wc.seq fun K108 hK108 => ?_
            refine Wc.region (by decide +kernel) ?_
            refine lex.pure (v := .int .i64 y33.2.2.2) (pu_move e9) ?_
            refine lex.pure (v := .bool (decide (y33.2.2.2 = 1))) (pu_eql (k := .i64) (a := y33.2.2.2) (b := 1) rfl rfl) ?_
            refine lex.pure (v := .bool (decide (y33.2.2.2 = 1))) (pu_move rfl) ?_
            rcases bS (decide (y33.2.2.2 = 1)) with hq109 | hq109
            · replace hb := (cT hq109).symm.trans hb
              refine lex.gval (want_t rfl rfl (show _ = Value.bool (decide (y33.2.2.2 = 1)) from rfl) hq109) (v := .agg #[.slice A35 y33.1.length c37, .slice A39 y33.2.1.length c41, .int .i64 y33.2.2.1]) (ld_blk (hC.bx (i := 5) rfl) Try.isAgg32 Try.sizeOf32 e8) ?_
              obtain ⟨y110, h111, hb⟩ := bd hb
              refine lex.gcl (want_t rfl rfl (show _ = Value.bool (decide (y33.2.2.2 = 1)) from rfl) hq109) (⟨_, _, op_call (vs := [.agg #[.slice A35 y33.1.length c37, .slice A39 y33.2.1.length c41, .int .i64 y33.2.2.1]]) Try.call17 rfl rfl rfl, law46_zero_ok n (hC.lentLt [.slice A35 y33.1.length c37, .slice A39 y33.2.1.length c41]) ((hC.ow (i := 6) rfl).lend (vs := [.slice A35 y33.1.length c37, .slice A39 y33.2.1.length c41]) (by simp)) ((hC.ow (i := 7) rfl).lend (vs := [.slice A35 y33.1.length c37, .slice A39 y33.2.1.length c41]) (by simp)) hr43 h111⟩) ?_
              rintro _ w112 ⟨rfl, hK⟩
              replace hC := hC.mergeF hK rfl
              clear hK
              refine lex.pure (v := .bool y110) (pu_pickT (q := (decide (y33.2.2.2 = 1))) rfl hq109 rfl) ?_
              refine lex.pure (v := .bool y110) (pu_assign rfl) ?_
              refine lex.nil ?_
              refine hK108 _ _ ?_
              obtain rfl := Option.some.inj hb
              obtain rfl := (lX hl0).symm
              replace hb := hbK0
              obtain rfl := Option.some.inj hb
              refine Wc.ret ?_
              refine hKR _ _ ?_
              refine ⟨_, res1 Try.results5 (show RV _ _ _ (.tmp _) (.bool y110) from rfl), _, rfl, rfl, hC.sel [] (by decide)⟩
            · replace hb := (cF hq109).symm.trans hb
              refine lex.gskip (want_f rfl rfl (show _ = Value.bool (decide (y33.2.2.2 = 1)) from rfl) hq109) ?_
              refine lex.gskip (want_f rfl rfl (show _ = Value.bool (decide (y33.2.2.2 = 1)) from rfl) hq109) ?_
              refine lex.pure (v := .bool false) (pu_pickF (q := (decide (y33.2.2.2 = 1))) rfl hq109 rfl) ?_
              refine lex.pure (v := .bool false) (pu_assign rfl) ?_
              refine lex.nil ?_
              refine hK108 _ _ ?_
              obtain rfl := Option.some.inj hb
              obtain rfl := (lX hl0).symm
              replace hb := hbK0
              obtain rfl := Option.some.inj hb
              refine Wc.ret ?_
              refine hKR _ _ ?_
              refine ⟨_, res1 Try.results5 (show RV _ _ _ (.tmp _) (.bool false) from rfl), _, rfl, rfl, hC.sel [] (by decide)⟩
          · replace hb := (cF hq107).symm.trans hb
            refine Wc.skip ?_
            refine hK78 _ _ ?_
            refine Wc.region (by decide +kernel) ?_
            obtain ⟨z113, h114, hb⟩ := bd hb
            refine lex.pure (v := .int .i64 z113) (pu_addc (a := v28_0) (b := 1) e28 rfl h114) ?_
            refine lex.pure (v := .int .i64 z113) (pu_move rfl) ?_
            refine lex.nil ?_
            obtain rfl := Option.some.inj hb
            exact hK70 m71' _ _ (Nat.lt_succ_self _) ⟨z113, e3, e4, e5, e6, e7, e8, e9, e26, e27, rfl, (chk_rng h114), hC.sel [1, 2, 3, 4, 5, 6, 7, 8] (by decide), lN hl0⟩
      · replace hb := (cF hq77).symm.trans hb
        refine Wc.exit rfl ?_
        obtain rfl := Option.some.inj hb
        obtain rfl := (lX hl0).symm
        exact hK69 _ _ ⟨v28_0, e3, e4, e5, e6, e7, e8, e9, hrv28_0, hC.sel [0, 1, 2, 3, 4, 5, 6] (by decide), hbK0⟩
    · clear hb hC hl0
      rintro E116 w115 ⟨v28_0, e3, e4, e5, e6, e7, e8, e9, hrv28_0, hC, hb⟩
      refine hK54 _ _ ?_
      refine Wc.seq fun K117 hK117 => ?_
      refine Wc.seq fun K118 hK118 => ?_
      refine Wc.region (by decide +kernel) ?_
      refine lex.pure (v := .pointer (some ((⟨g5, 0, none⟩ : Addr).add 0))) (pu_field (sz := 1) Try.underlying23 rfl Try.sizeOf3 (by decide) rfl e4) ?_
      refine lex.val (v := .int .i64 b_1_0) (ld_fld (hC.bx (i := 1) rfl) Try.isAgg3 rfl rfl) ?_
      refine lex.pure (v := .pointer (some ((⟨g2, 0, none⟩ : Addr).add 0))) (pu_field (sz := 1) Try.underlying23 rfl Try.sizeOf3 (by decide) rfl e3) ?_
      refine lex.val (v := .int .i64 a_0_0) (ld_fld (hC.bx (i := 0) rfl) Try.isAgg3 rfl rfl) ?_
      obtain ⟨z119, h120, hb⟩ := bd hb
      refine lex.pure (v := .int .i64 z119) (pu_subc (a := b_1_0) (b := a_0_0) rfl rfl h120) ?_
      refine lex.pure (v := .pointer (some ((⟨g8, 0, none⟩ : Addr).add 1))) (pu_field (sz := 1) Try.underlying23 rfl Try.sizeOf3 (by decide) rfl e5) ?_
      refine lex.val (v := .int .i64 c_2_1) (ld_fld (hC.bx (i := 2) rfl) Try.isAgg3 rfl rfl) ?_
      refine lex.pure (v := .pointer (some ((⟨g2, 0, none⟩ : Addr).add 1))) (pu_field (sz := 1) Try.underlying23 rfl Try.sizeOf3 (by decide) rfl e3) ?_
      refine lex.val (v := .int .i64 a_0_1) (ld_fld (hC.bx (i := 0) rfl) Try.isAgg3 rfl rfl) ?_
      obtain ⟨z121, h122, hb⟩ := bd hb
      refine lex.pure (v := .int .i64 z121) (pu_subc (a := c_2_1) (b := a_0_1) rfl rfl h122) ?_
      obtain ⟨z123, h124, hb⟩ := bd hb
      refine lex.pure (v := .int .i64 z123) (pu_mulc (a := z119) (b := z121) rfl rfl h124) ?_
      refine lex.pure (v := .pointer (some ((⟨g5, 0, none⟩ : Addr).add 1))) (pu_field (sz := 1) Try.underlying23 rfl Try.sizeOf3 (by decide) rfl e4) ?_
      refine lex.val (v := .int .i64 b_1_1) (ld_fld (hC.bx (i := 1) rfl) Try.isAgg3 rfl rfl) ?_
      refine lex.pure (v := .pointer (some ((⟨g2, 0, none⟩ : Addr).add 1))) (pu_field (sz := 1) Try.underlying23 rfl Try.sizeOf3 (by decide) rfl e3) ?_
      refine lex.val (v := .int .i64 a_0_1) (ld_fld (hC.bx (i := 0) rfl) Try.isAgg3 rfl rfl) ?_
      obtain ⟨z125, h126, hb⟩ := bd hb
      refine lex.pure (v := .int .i64 z125) (pu_subc (a := b_1_1) (b := a_0_1) rfl rfl h126) ?_
      refine lex.pure (v := .pointer (some ((⟨g8, 0, none⟩ : Addr).add 0))) (pu_field (sz := 1) Try.underlying23 rfl Try.sizeOf3 (by decide) rfl e5) ?_
      refine lex.val (v := .int .i64 c_2_0) (ld_fld (hC.bx (i := 2) rfl) Try.isAgg3 rfl rfl) ?_
      refine lex.pure (v := .pointer (some ((⟨g2, 0, none⟩ : Addr).add 0))) (pu_field (sz := 1) Try.underlying23 rfl Try.sizeOf3 (by decide) rfl e3) ?_
      refine lex.val (v := .int .i64 a_0_0) (ld_fld (hC.bx (i := 0) rfl) Try.isAgg3 rfl rfl) ?_
      obtain ⟨z127, h128, hb⟩ := bd hb
      refine lex.pure (v := .int .i64 z127) (pu_subc (a := c_2_0) (b := a_0_0) rfl rfl h128) ?_
      obtain ⟨z129, h130, hb⟩ := bd hb
      refine lex.pure (v := .int .i64 z129) (pu_mulc (a := z125) (b := z127) rfl rfl h130) ?_
      refine lex.pure (v := .bool (decide (z123 = z129))) (pu_eql (k := .i64) (a := z123) (b := z129) rfl rfl) ?_
      refine lex.nil ?_
      refine hK118 _ _ ?_
      refine Wc.fresh fun E131 hE => ?_
      have e6 : E131 6 = .bool false := (congrFun hE 6).trans e6
      have e7 : E131 7 = .slice (some ad58) ((([([(a_0_0, (a_0_1, a_0_2)), (b_1_0, (b_1_1, b_1_2)), (c_2_0, (c_2_1, c_2_2))] : List (Int × (Int × Int)))] : List (List (Int × (Int × Int))))).length) c26 := (congrFun hE 7).trans e7
      have e8 : E131 8 = .pointer (some ⟨g50, 0, none⟩) := (congrFun hE 8).trans e8
      have e9 : E131 9 = .int .i64 y33.2.2.2 := (congrFun hE 9).trans e9
      have e79 : E131 79 = .bool (decide (z123 = z129)) := (congrFun hE 79).trans rfl
      clear hE
      refine Wc.cond (t := (decide (z123 = z129))) (e79) (fun hq132 => ?_) (fun hq132 => ?_)
      · replace hb := (cT hq132).symm.trans hb
        refine Wc.seq fun K133 hK133 => ?_
        refine Wc.region (by decide +kernel) ?_
        refine lex.pure (v := .int .i64 y33.2.2.2) (pu_move e9) ?_
        refine lex.pure (v := .bool (decide (y33.2.2.2 = 15))) (pu_eql (k := .i64) (a := y33.2.2.2) (b := 15) rfl rfl) ?_
        refine lex.pure (v := .bool (decide (y33.2.2.2 = 15))) (pu_move rfl) ?_
        rcases bS (decide (y33.2.2.2 = 15)) with hq134 | hq134
        · replace hb := (cT hq134).symm.trans hb
          refine lex.gval (want_t rfl rfl (show _ = Value.bool (decide (y33.2.2.2 = 15)) from rfl) hq134) (v := .agg #[.slice A35 y33.1.length c37, .slice A39 y33.2.1.length c41, .int .i64 y33.2.2.1]) (ld_blk (hC.bx (i := 4) rfl) Try.isAgg32 Try.sizeOf32 e8) ?_
          obtain ⟨y135, h136, hb⟩ := bd hb
          refine lex.gcl (want_t rfl rfl (show _ = Value.bool (decide (y33.2.2.2 = 15)) from rfl) hq134) (⟨_, _, op_call (vs := [.agg #[.slice A35 y33.1.length c37, .slice A39 y33.2.1.length c41, .int .i64 y33.2.2.1]]) Try.call17 rfl rfl rfl, law46_zero_ok n (hC.lentLt [.slice A35 y33.1.length c37, .slice A39 y33.2.1.length c41]) ((hC.ow (i := 5) rfl).lend (vs := [.slice A35 y33.1.length c37, .slice A39 y33.2.1.length c41]) (by simp)) ((hC.ow (i := 6) rfl).lend (vs := [.slice A35 y33.1.length c37, .slice A39 y33.2.1.length c41]) (by simp)) hr43 h136⟩) ?_
          rintro _ w137 ⟨rfl, hK⟩
          replace hC := hC.mergeF hK rfl
          clear hK
          refine lex.pure (v := .bool y135) (pu_pickT (q := (decide (y33.2.2.2 = 15))) rfl hq134 rfl) ?_
          refine lex.pure (v := .bool y135) (pu_move rfl) ?_
          rcases bS y135 with hq138 | hq138
          · replace hb := (cT hq138).symm.trans hb
            refine lex.gpure (want_t rfl rfl (show _ = Value.bool y135 from rfl) hq138) (v := .slice (some ad58) ((([([(a_0_0, (a_0_1, a_0_2)), (b_1_0, (b_1_1, b_1_2)), (c_2_0, (c_2_1, c_2_2))] : List (Int × (Int × Int)))] : List (List (Int × (Int × Int))))).length) c26) (pu_move e7) ?_
            obtain ⟨y139, h140, hb⟩ := bd hb
            refine lex.gcl (want_t rfl rfl (show _ = Value.bool y135 from rfl) hq138) (⟨_, _, op_call (vs := [.slice (some ad58) ((([([(a_0_0, (a_0_1, a_0_2)), (b_1_0, (b_1_1, b_1_2)), (c_2_0, (c_2_1, c_2_2))] : List (Int × (Int × Int)))] : List (List (Int × (Int × Int))))).length) c26]) Try.call18 rfl rfl rfl, polygon_Generic_ok n (hC.lentLt [.slice (some ad58) ((([([(a_0_0, (a_0_1, a_0_2)), (b_1_0, (b_1_1, b_1_2)), (c_2_0, (c_2_1, c_2_2))] : List (Int × (Int × Int)))] : List (List (Int × (Int × Int))))).length) c26]) ((hC.ow (i := 3) rfl).lend (vs := [.slice (some ad58) ((([([(a_0_0, (a_0_1, a_0_2)), (b_1_0, (b_1_1, b_1_2)), (c_2_0, (c_2_1, c_2_2))] : List (Int × (Int × Int)))] : List (List (Int × (Int × Int))))).length) c26]) (by simp)) h140⟩) ?_
            rintro _ w141 ⟨rfl, hK⟩
            replace hC := hC.mergeF hK rfl
            clear hK
            refine lex.gpure (want_t rfl rfl (show _ = Value.bool y135 from rfl) hq138) (v := .bool (!y139)) (pu_not (q := y139) rfl) ?_
            refine lex.pure (v := .bool (!y139)) (pu_pickT (q := y135) rfl hq138 rfl) ?_
            refine lex.pure (v := .bool (!y139)) (pu_assign rfl) ?_
            refine lex.nil ?_
            refine hK133 _ _ ?_
            obtain rfl := Option.some.inj hb
            refine Wc.ret ?_
            refine hKR _ _ ?_
            refine ⟨_, res1 Try.results5 (show RV _ _ _ (.tmp _) (.bool (!y139)) from rfl), _, rfl, rfl, hC.sel [] (by decide)⟩
          · replace hb := (cF hq138).symm.trans hb
            refine lex.gskip (want_f rfl rfl (show _ = Value.bool y135 from rfl) hq138) ?_
            refine lex.gskip (want_f rfl rfl (show _ = Value.bool y135 from rfl) hq138) ?_
            refine lex.gskip (want_f rfl rfl (show _ = Value.bool y135 from rfl) hq138) ?_
            refine lex.pure (v := .bool false) (pu_pickF (q := y135) rfl hq138 rfl) ?_
            refine lex.pure (v := .bool false) (pu_assign rfl) ?_
            refine lex.nil ?_
            refine hK133 _ _ ?_
            obtain rfl := Option.some.inj hb
            refine Wc.ret ?_
            refine hKR _ _ ?_
            refine ⟨_, res1 Try.results5 (show RV _ _ _ (.tmp _) (.bool false) from rfl), _, rfl, rfl, hC.sel [] (by decide)⟩
        · replace hb := (cF hq134).symm.trans hb
          refine lex.gskip (want_f rfl rfl (show _ = Value.bool (decide (y33.2.2.2 = 15)) from rfl) hq134) ?_
          refine lex.gskip (want_f rfl rfl (show _ = Value.bool (decide (y33.2.2.2 = 15)) from rfl) hq134) ?_
          refine lex.pure (v := .bool false) (pu_pickF (q := (decide (y33.2.2.2 = 15))) rfl hq134 rfl) ?_
          refine lex.pure (v := .bool false) (pu_move rfl) ?_
          refine lex.gskip (want_f rfl rfl (show _ = Value.bool false from rfl) rfl) ?_
          refine lex.gskip (want_f rfl rfl (show _ = Value.bool false from rfl) rfl) ?_
          refine lex.gskip (want_f rfl rfl (show _ = Value.bool false from rfl) rfl) ?_
          refine lex.pure (v := .bool false) (pu_pickF (q := false) rfl rfl rfl) ?_
          refine lex.pure (v := .bool false) (pu_assign rfl) ?_
          refine lex.nil ?_
          refine hK133 _ _ ?_
          obtain rfl := Option.some.inj hb
          refine Wc.ret ?_
          refine hKR _ _ ?_
          refine ⟨_, res1 Try.results5 (show RV _ _ _ (.tmp _) (.bool false) from rfl), _, rfl, rfl, hC.sel [] (by decide)⟩
      · replace hb := (cF hq132).symm.trans hb
        refine Wc.skip ?_
        refine hK117 _ _ ?_
        refine Wc.seq fun K142 hK142 => ?_
        refine Wc.region (by decide +kernel) ?_
        refine lex.pure (v := .int .i64 y33.2.2.2) (pu_move e9) ?_
        refine lex.pure (v := .bool (decide (y33.2.2.2 = 0))) (pu_eql (k := .i64) (a := y33.2.2.2) (b := 0) rfl rfl) ?_
        refine lex.pure (v := .bool (decide (y33.2.2.2 = 0))) (pu_move rfl) ?_
        rcases bS (decide (y33.2.2.2 = 0)) with hq143 | hq143
        · replace hb := (cT hq143).symm.trans hb
          refine lex.gpure (want_t rfl rfl (show _ = Value.bool (decide (y33.2.2.2 = 0)) from rfl) hq143) (v := .pointer (some ((⟨g50, 0, none⟩ : Addr).add 2))) (pu_field (sz := 1) Try.underlying32 rfl Try.sizeOf3 (by decide) rfl e8) ?_
          refine lex.gval (want_t rfl rfl (show _ = Value.bool (decide (y33.2.2.2 = 0)) from rfl) hq143) (v := .int .i64 y33.2.2.1) (ld_fld (hC.bx (i := 4) rfl) Try.isAgg3 rfl rfl) ?_
          refine lex.gpure (want_t rfl rfl (show _ = Value.bool (decide (y33.2.2.2 = 0)) from rfl) hq143) (v := .bool (decide (y33.2.2.1 = 1))) (pu_eql (k := .i64) (a := y33.2.2.1) (b := 1) rfl rfl) ?_
          refine lex.pure (v := .bool (decide (y33.2.2.1 = 1))) (pu_pickT (q := (decide (y33.2.2.2 = 0))) rfl hq143 rfl) ?_
          refine lex.pure (v := .bool (decide (y33.2.2.1 = 1))) (pu_move rfl) ?_
          rcases bS (decide (y33.2.2.1 = 1)) with hq144 | hq144
          · replace hb := (cT hq144).symm.trans hb
            refine lex.gpure (want_t rfl rfl (show _ = Value.bool (decide (y33.2.2.1 = 1)) from rfl) hq144) (v := .pointer (some ((⟨g50, 0, none⟩ : Addr).add 0))) (pu_field (sz := 1) Try.underlying32 rfl Try.sizeOf30 (by decide) rfl e8) ?_
            refine lex.gval (want_t rfl rfl (show _ = Value.bool (decide (y33.2.2.1 = 1)) from rfl) hq144) (v := .slice A35 y33.1.length c37) (ld_fld (hC.bx (i := 4) rfl) Try.isAgg30 rfl rfl) ?_
            refine lex.gpure (want_t rfl rfl (show _ = Value.bool (decide (y33.2.2.1 = 1)) from rfl) hq144) (v := .int .i64 (y33.1.length : Int)) (pu_len (A := A35) (n := y33.1.length) (m := c37) Try.underlying30 rfl) ?_
            refine lex.gpure (want_t rfl rfl (show _ = Value.bool (decide (y33.2.2.1 = 1)) from rfl) hq144) (v := .bool (decide ((y33.1.length : Int) = 0))) (pu_eql (k := .i64) (a := (y33.1.length : Int)) (b := 0) rfl rfl) ?_
            refine lex.pure (v := .bool (decide ((y33.1.length : Int) = 0))) (pu_pickT (q := (decide (y33.2.2.1 = 1))) rfl hq144 rfl) ?_
            refine lex.pure (v := .bool (decide ((y33.1.length : Int) = 0))) (pu_move rfl) ?_
            rcases bS (decide ((y33.1.length : Int) = 0)) with hq145 | hq145
            · replace hb := (cT hq145).symm.trans hb
              refine lex.gpure (want_t rfl rfl (show _ = Value.bool (decide ((y33.1.length : Int) = 0)) from rfl) hq145) (v := .slice (some ad58) ((([([(a_0_0, (a_0_1, a_0_2)), (b_1_0, (b_1_1, b_1_2)), (c_2_0, (c_2_1, c_2_2))] : List (Int × (Int × Int)))] : List (List (Int × (Int × Int))))).length) c26) (pu_move e7) ?_
              obtain ⟨y146, h147, hb⟩ := bd hb
              refine lex.gcl (want_t rfl rfl (show _ = Value.bool (decide ((y33.1.length : Int) = 0)) from rfl) hq145) (⟨_, _, op_call (vs := [.slice (some ad58) ((([([(a_0_0, (a_0_1, a_0_2)), (b_1_0, (b_1_1, b_1_2)), (c_2_0, (c_2_1, c_2_2))] : List (Int × (Int × Int)))] : List (List (Int × (Int × Int))))).length) c26]) Try.call18 rfl rfl rfl, polygon_Generic_ok n (hC.lentLt [.slice (some ad58) ((([([(a_0_0, (a_0_1, a_0_2)), (b_1_0, (b_1_1, b_1_2)), (c_2_0, (c_2_1, c_2_2))] : List (Int × (Int × Int)))] : List (List (Int × (Int × Int))))).length) c26]) ((hC.ow (i := 3) rfl).lend (vs := [.slice (some ad58) ((([([(a_0_0, (a_0_1, a_0_2)), (b_1_0, (b_1_1, b_1_2)), (c_2_0, (c_2_1, c_2_2))] : List (Int × (Int × Int)))] : List (List (Int × (Int × Int))))).length) c26]) (by simp)) h147⟩) ?_
              rintro _ w148 ⟨rfl, hK⟩
              replace hC := hC.mergeF hK rfl
              clear hK
              refine lex.pure (v := .bool y146) (pu_pickT (q := (decide ((y33.1.length : Int) = 0))) rfl hq145 rfl) ?_
              refine lex.pure (v := .bool y146) (pu_assign rfl) ?_
              refine lex.nil ?_
              refine hK142 _ _ ?_
              obtain rfl := Option.some.inj hb
              refine Wc.ret ?_
              refine hKR _ _ ?_
              refine ⟨_, res1 Try.results5 (show RV _ _ _ (.tmp _) (.bool y146) from rfl), _, rfl, rfl, hC.sel [] (by decide)⟩
            · replace hb := (cF hq145).symm.trans hb
              refine lex.gskip (want_f rfl rfl (show _ = Value.bool (decide ((y33.1.length : Int) = 0)) from rfl) hq145) ?_
              refine lex.gskip (want_f rfl rfl (show _ = Value.bool (decide ((y33.1.length : Int) = 0)) from rfl) hq145) ?_
              refine lex.pure (v := .bool false) (pu_pickF (q := (decide ((y33.1.length : Int) = 0))) rfl hq145 rfl) ?_
              refine lex.pure (v := .bool false) (pu_assign rfl) ?_
              refine lex.nil ?_
              refine hK142 _ _ ?_
              obtain rfl := Option.some.inj hb
              refine Wc.ret ?_
              refine hKR _ _ ?_
              refine ⟨_, res1 Try.results5 (show RV _ _ _ (.tmp _) (.bool false) from rfl), _, rfl, rfl, hC.sel [] (by decide)⟩
          · replace hb := (cF hq144).symm.trans hb
            refine lex.gskip (want_f rfl rfl (show _ = Value.bool (decide (y33.2.2.1 = 1)) from rfl) hq144) ?_
            refine lex.gskip (want_f rfl rfl (show _ = Value.bool (decide (y33.2.2.1 = 1)) from rfl) hq144) ?_
            refine lex.gskip (want_f rfl rfl (show _ = Value.bool (decide (y33.2.2.1 = 1)) from rfl) hq144) ?_
            refine lex.gskip (want_f rfl rfl (show _ = Value.bool (decide (y33.2.2.1 = 1)) from rfl) hq144) ?_
            refine lex.pure (v := .bool false) (pu_pickF (q := (decide (y33.2.2.1 = 1))) rfl hq144 rfl) ?_
            refine lex.pure (v := .bool false) (pu_move rfl) ?_
            refine lex.gskip (want_f rfl rfl (show _ = Value.bool false from rfl) rfl) ?_
            refine lex.gskip (want_f rfl rfl (show _ = Value.bool false from rfl) rfl) ?_
            refine lex.pure (v := .bool false) (pu_pickF (q := false) rfl rfl rfl) ?_
            refine lex.pure (v := .bool false) (pu_assign rfl) ?_
            refine lex.nil ?_
            refine hK142 _ _ ?_
            obtain rfl := Option.some.inj hb
            refine Wc.ret ?_
            refine hKR _ _ ?_
            refine ⟨_, res1 Try.results5 (show RV _ _ _ (.tmp _) (.bool false) from rfl), _, rfl, rfl, hC.sel [] (by decide)⟩
        · replace hb := (cF hq143).symm.trans hb
          refine lex.gskip (want_f rfl rfl (show _ = Value.bool (decide (y33.2.2.2 = 0)) from rfl) hq143) ?_
          refine lex.gskip (want_f rfl rfl (show _ = Value.bool (decide (y33.2.2.2 = 0)) from rfl) hq143) ?_
          refine lex.gskip (want_f rfl rfl (show _ = Value.bool (decide (y33.2.2.2 = 0)) from rfl) hq143) ?_
          refine lex.pure (v := .bool false) (pu_pickF (q := (decide (y33.2.2.2 = 0))) rfl hq143 rfl) ?_
          refine lex.pure (v := .bool false) (pu_move rfl) ?_
          refine lex.gskip (want_f rfl rfl (show _ = Value.bool false from rfl) rfl) ?_
          refine lex.gskip (want_f rfl rfl (show _ = Value.bool false from rfl) rfl) ?_
          refine lex.gskip (want_f rfl rfl (show _ = Value.bool false from rfl) rfl) ?_
          refine lex.gskip (want_f rfl rfl (show _ = Value.bool false from rfl) rfl) ?_
          refine lex.pure (v := .bool false) (pu_pickF (q := false) rfl rfl rfl) ?_
          refine lex.pure (v := .bool false) (pu_move rfl) ?_
          refine lex.gskip (want_f rfl rfl (show _ = Value.bool false from rfl) rfl) ?_
          refine lex.gskip (want_f rfl rfl (show _ = Value.bool false from rfl) rfl) ?_
          refine lex.pure (v := .bool false) (pu_pickF (q := false) rfl rfl rfl) ?_
          refine lex.pure (v := .bool false) (pu_assign rfl) ?_
          refine lex.nil ?_
          refine hK142 _ _ ?_
          obtain rfl := Option.some.inj hb
          refine Wc.ret ?_
          refine hKR _ _ ?_
          refine ⟨_, res1 Try.results5 (show RV _ _ _ (.tmp _) (.bool false) from rfl), _, rfl, rfl, hC.sel [] (by decide)⟩
end Go.Proofs.Yteajmbanlohncaa
