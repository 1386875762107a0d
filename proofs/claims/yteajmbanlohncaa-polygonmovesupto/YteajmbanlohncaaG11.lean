/- The walks: part 11. -/
import Derived.Test.YteajmbanlohncaaS
import Derived.Test.YteajmbanlohncaaG6
import Derived.Test.YteajmbanlohncaaG10
set_option linter.unusedVariables false
set_option linter.unusedSimpArgs false
namespace Go.Proofs.Yteajmbanlohncaa
open Ev
set_option maxRecDepth 100000 in
set_option maxHeartbeats 4000000 in
theorem law46_PolygonMoves_ok (n : Nat) {w : World} {O0 : List Nat} (hO : ∀ k ∈ O0, k < w.heap.size) {Al_0 : Option Addr} {ml_0 cl_0 : Nat} {l_0 : List (List (Int × (Int × Int)))} (hl_0 : Rep O0 w (.sl (.sl (.pr (.int .i64) (.pr (.int .i64) (.int .i64))))) [.slice Al_0 ml_0 cl_0] l_0) {x_1 : Int} (hx_1 : IntKind.i8.wrap x_1 = x_1) {y_2 : Int} (hy_2 : IntKind.i8.wrap y_2 = y_2) {z_3 : Int} (hz_3 : IntKind.i8.wrap z_3 = z_3) {kind_4 : Int} (hkind_4 : IntKind.u8.wrap kind_4 = kind_4) {r : Bool} (hb : F.law46_PolygonMoves n l_0 x_1 y_2 z_3 kind_4 = some r) :
    Calls Try.prog 6 #[.slice Al_0 ml_0 cl_0, .int .i8 x_1, .int .i8 y_2, .int .i8 z_3, .int .u8 kind_4] w fun e w' => ∃ v, e = .returned v ∧ v = .bool r ∧ Cx (fun _ => False) O0 w w' [] := by
  unfold F.law46_PolygonMoves at hb
  have hC := Cx.start hO
  replace hC := hC.arg rfl hl_0
  clear hO
  obtain ⟨rfl, hll_0, hcl_0⟩ := hl_0.sl_len
  refine calls_of_Wc Try.func6 rfl (by rw [Try.ntmps6]; exact Nat.le_of_ble_eq_true rfl) fun KR hKR => ?_
  refine Wc.seq fun K2 hK2 => ?_
  refine Wc.region (by decide +kernel) ?_
  refine lex.op (hC.box (cs := [.int .i8 x_1]) rfl rfl) ?_
  rintro _ w4 ⟨g3, rfl, hC, hF, hG⟩
  clear hG
  refine lex.op (hC.box (cs := [.int .i8 y_2]) rfl rfl) ?_
  rintro _ w7 ⟨g6, rfl, hC, hF, hG⟩
  clear hG
  refine lex.op (hC.box (cs := [.int .i8 z_3]) rfl rfl) ?_
  rintro _ w10 ⟨g9, rfl, hC, hF, hG⟩
  clear hG
  refine lex.op (hC.box (cs := [.int .u8 kind_4]) rfl rfl) ?_
  rintro _ w13 ⟨g12, rfl, hC, hF, hG⟩
  clear hG
  refine lex.pure (v := .bool false) (pu_assign rfl) ?_
  refine lex.nil ?_
  refine hK2 _ _ ?_
  refine Wc.seq fun K15 hK15 => ?_
  refine Wc.seq fun K16 hK16 => ?_
  refine Wc.region (by decide +kernel) ?_
  obtain ⟨y17, h18, hb⟩ := bd hb
  refine lex.cl (⟨_, _, op_call (vs := []) Try.call11 rfl rfl rfl, law46_awake_ok n hC.lt  h18⟩) ?_
  rintro _ w19 ⟨rfl, hK⟩
  replace hC := hC.merge hK
  clear hK
  refine lex.pure (v := .bool (!y17)) (pu_not (q := y17) rfl) ?_
  refine lex.nil ?_
  refine hK16 _ _ ?_
  refine Wc.cond (t := (!y17)) (rfl) (fun hq20 => ?_) (fun hq20 => ?_)
  · replace hb := (cT hq20).symm.trans hb
    refine Wc.seq fun K21 hK21 => ?_
    refine Wc.region (by decide +kernel) ?_
    refine lex.pure (v := .bool false) (pu_assign rfl) ?_
    refine lex.nil ?_
    refine hK21 _ _ ?_
    obtain rfl := Option.some.inj hb
    refine Wc.ret ?_
    refine hKR _ _ ?_
    refine ⟨_, res1 Try.results6 (show RV _ _ _ (.tmp _) (.bool false) from rfl), _, rfl, rfl, hC.sel [] (by decide)⟩
  · replace hb := (cF hq20).symm.trans hb
    refine Wc.skip ?_
    refine hK15 _ _ ?_
    refine Wc.seq fun K22 hK22 => ?_
    refine Wc.region (by decide +kernel) ?_
    refine lex.pure (v := .slice Al_0 l_0.length cl_0) (pu_move rfl) ?_
    obtain ⟨y23, h24, hb⟩ := bd hb
    refine lex.cl (⟨_, _, op_call (vs := [.slice Al_0 l_0.length cl_0]) Try.call23 rfl rfl rfl, law46_generic_ok n hC.lt (hC.rd (i := 4) rfl) h24⟩) ?_
    rintro _ w34 ⟨A25, m26, c27, A29, m30, c31, rfl, hr33, hK⟩
    replace hC := hC.merge hK
    clear hK
    obtain ⟨rfl, hl35, hc36⟩ := (hC.ow (i := 0) rfl).sl_len
    obtain ⟨rfl, hl37, hc38⟩ := (hC.ow (i := 1) rfl).sl_len
    refine lex.pure (v := .tuple #[.agg #[.slice A25 y23.1.length c27, .slice A29 y23.2.1.length c31, .int .i64 y23.2.2.1], .bool y23.2.2.2]) (pu_move rfl) ?_
    refine lex.pure (v := .agg #[.slice A25 y23.1.length c27, .slice A29 y23.2.1.length c31, .int .i64 y23.2.2.1]) (pu_extract rfl rfl) ?_
    refine lex.pure (v := .bool y23.2.2.2) (pu_extract rfl rfl) ?_
    refine lex.op (hC.alloc (cs := [.slice none 0 0, .slice none 0 0, .int .i64 0]) Try.zeroValue32 rfl) ?_
    rintro _ w40 ⟨g39, rfl, hC, hF, hG⟩
    clear hG
    refine lex.sk (hC.seta (i := 0) (ds := [.slice A25 y23.1.length c27, .slice A29 y23.2.1.length c31, .int .i64 y23.2.2.1]) rfl Try.type32 rfl rfl rfl rfl rfl) ?_
    rintro w42 ⟨hC, hF⟩
    refine lex.pure (v := .bool y23.2.2.2) (pu_assign rfl) ?_
    refine lex.nil ?_
    refine hK22 _ _ ?_
    refine Wc.fresh fun E43 hE => ?_
    have e0 : E43 0 = .slice Al_0 l_0.length cl_0 := (congrFun hE 0).trans rfl
    have e6 : E43 6 = .pointer (some ⟨g3, 0, none⟩) := (congrFun hE 6).trans rfl
    have e7 : E43 7 = .pointer (some ⟨g6, 0, none⟩) := (congrFun hE 7).trans rfl
    have e8 : E43 8 = .pointer (some ⟨g9, 0, none⟩) := (congrFun hE 8).trans rfl
    have e9 : E43 9 = .pointer (some ⟨g12, 0, none⟩) := (congrFun hE 9).trans rfl
    have e10 : E43 10 = .bool false := (congrFun hE 10).trans rfl
    have e11 : E43 11 = .pointer (some ⟨g39, 0, none⟩) := (congrFun hE 11).trans rfl
    have e12 : E43 12 = .bool y23.2.2.2 := (congrFun hE 12).trans rfl
    clear hE
    refine Wc.seq fun K44 hK44 => ?_
    refine Wc.seq fun K45 hK45 => ?_
    refine Wc.region (by decide +kernel) ?_
    refine lex.pure (v := .bool y23.2.2.2) (pu_move e12) ?_
    refine lex.pure (v := .bool (!y23.2.2.2)) (pu_not (q := y23.2.2.2) rfl) ?_
    refine lex.nil ?_
    refine hK45 _ _ ?_
    refine Wc.cond (t := (!y23.2.2.2)) (rfl) (fun hq46 => ?_) (fun hq46 => ?_)
    · replace hb := (cT hq46).symm.trans hb
      refine Wc.seq fun K47 hK47 => ?_
      refine Wc.region (by decide +kernel) ?_
      refine lex.pure (v := .bool true) (pu_assign rfl) ?_
      refine lex.nil ?_
      refine hK47 _ _ ?_
      obtain rfl := Option.some.inj hb
      refine Wc.ret ?_
      refine hKR _ _ ?_
      refine ⟨_, res1 Try.results6 (show RV _ _ _ (.tmp _) (.bool true) from rfl), _, rfl, rfl, hC.sel [] (by decide)⟩
    · replace hb := (cF hq46).symm.trans hb
      refine Wc.skip ?_
      refine hK44 _ _ ?_
      refine Wc.seq fun K48 hK48 => ?_
      refine Wc.region (by decide +kernel) ?_
      refine lex.pure (v := .slice Al_0 l_0.length cl_0) (pu_move e0) ?_
      refine lex.pure (v := .func (.func 25) #[] #[.pointer (some ⟨g12, 0, none⟩), .pointer (some ⟨g3, 0, none⟩), .pointer (some ⟨g6, 0, none⟩), .pointer (some ⟨g9, 0, none⟩)]) (pu_funcc (map_of (m2_cons e9 (m2_cons e6 (m2_cons e7 (m2_cons e8 m2_nil)))))) ?_
      replace hC : Cx (fun _ => False) O0 w w42 ([.box g12 5 [.int .u8 kind_4], .box g3 45 [.int .i8 x_1], .box g6 45 [.int .i8 y_2], .box g9 45 [.int .i8 z_3]] ++ [.box g39 32 [.slice A25 y23.1.length c27, .slice A29 y23.2.1.length c31, .int .i64 y23.2.2.1], .own 3 (.int .i64) (.slice A25 y23.1.length c27) y23.1, .own 3 (.int .i64) (.slice A29 y23.2.1.length c31) y23.2.1, .ro (.sl (.sl (.pr (.int .i64) (.pr (.int .i64) (.int .i64))))) [.slice Al_0 l_0.length cl_0] l_0]) := hC.sel [3, 6, 5, 4, 0, 1, 2, 7] (by decide)
      obtain ⟨y49, h50, hb⟩ := bd hb
      refine lex.cl (⟨_, _, op_call (vs := [.slice Al_0 l_0.length cl_0, .func (.func 25) #[] #[.pointer (some ⟨g12, 0, none⟩), .pointer (some ⟨g3, 0, none⟩), .pointer (some ⟨g6, 0, none⟩), .pointer (some ⟨g9, 0, none⟩)]]) Try.call24 rfl rfl rfl, law46_moved_law46_PolygonMoves_c1_ok n hC.lt (hC.rd (i := 7) rfl) hkind_4 hx_1 hy_2 hz_3 hC.give h50⟩) ?_
      rintro _ w55 ⟨A51, m52, c53, rfl, hK⟩
      replace hC := hC.back hK
      clear hK
      obtain ⟨rfl, hl56, hc57⟩ := (hC.ow (i := 0) rfl).sl_len
      refine lex.pure (v := .slice A51 y49.length c53) (pu_assign rfl) ?_
      refine lex.nil ?_
      refine hK48 _ _ ?_
      refine Wc.seq fun K58 hK58 => ?_
      refine Wc.region (by decide +kernel) ?_
      refine lex.pure (v := .slice A51 y49.length c53) (pu_move rfl) ?_
      obtain ⟨y59, h60, hb⟩ := bd hb
      refine lex.cl (⟨_, _, op_call (vs := [.slice A51 y49.length c53]) Try.call15 rfl rfl rfl, polygon_Project_ok n (hC.lentLt [.slice A51 y49.length c53]) ((hC.ow (i := 0) rfl).lend (vs := [.slice A51 y49.length c53]) (by simp)) h60⟩) ?_
      rintro _ w71 ⟨A61, m62, c63, A65, m66, c67, rfl, hr69, hr70, hK⟩
      replace hC := hC.mergeF hK rfl
      clear hK
      obtain ⟨rfl, hl72, hc73⟩ := (hC.ow (i := 0) rfl).sl_len
      obtain ⟨rfl, hl74, hc75⟩ := (hC.ow (i := 1) rfl).sl_len
      refine lex.pure (v := .tuple #[.agg #[.slice A61 y59.1.length c63, .slice A65 y59.2.1.length c67, .int .i64 y59.2.2.1], .int .i64 y59.2.2.2]) (pu_move rfl) ?_
      refine lex.pure (v := .agg #[.slice A61 y59.1.length c63, .slice A65 y59.2.1.length c67, .int .i64 y59.2.2.1]) (pu_extract rfl rfl) ?_
      refine lex.pure (v := .int .i64 y59.2.2.2) (pu_extract rfl rfl) ?_
      refine lex.op (hC.alloc (cs := [.slice none 0 0, .slice none 0 0, .int .i64 0]) Try.zeroValue32 rfl) ?_
      rintro _ w77 ⟨g76, rfl, hC, hF, hG⟩
      clear hG
      refine lex.sk (hC.seta (i := 0) (ds := [.slice A61 y59.1.length c63, .slice A65 y59.2.1.length c67, .int .i64 y59.2.2.1]) rfl Try.type32 rfl rfl rfl rfl rfl) ?_
      rintro w79 ⟨hC, hF⟩
      refine lex.pure (v := .int .i64 y59.2.2.2) (pu_assign rfl) ?_
      refine lex.nil ?_
      refine hK58 _ _ ?_
      refine Wc.fresh fun E80 hE => ?_
      have e10 : E80 10 = .bool false := (congrFun hE 10).trans e10
      have e11 : E80 11 = .pointer (some ⟨g39, 0, none⟩) := (congrFun hE 11).trans e11
      have e14 : E80 14 = .pointer (some ⟨g76, 0, none⟩) := (congrFun hE 14).trans rfl
      have e15 : E80 15 = .int .i64 y59.2.2.2 := (congrFun hE 15).trans rfl
      clear hE
      refine Wc.seq fun K81 hK81 => ?_
      refine Wc.region (by decide +kernel) ?_
      refine lex.pure (v := .int .i64 y59.2.2.2) (pu_move e15) ?_
      refine lex.pure (v := .bool (decide (y59.2.2.2 = 1))) (pu_eql (k := .i64) (a := y59.2.2.2) (b := 1) rfl rfl) ?_
      refine lex.pure (v := .bool (decide (y59.2.2.2 = 1))) (pu_move rfl) ?_
      rcases bS (decide (y59.2.2.2 = 1)) with hq82 | hq82
      · replace hb := (cT hq82).symm.trans hb
        refine lex.gskip (want_f rfl rfl (show _ = Value.bool (decide (y59.2.2.2 = 1)) from rfl) hq82) ?_
        refine lex.gskip (want_f rfl rfl (show _ = Value.bool (decide (y59.2.2.2 = 1)) from rfl) hq82) ?_
        refine lex.gskip (want_f rfl rfl (show _ = Value.bool (decide (y59.2.2.2 = 1)) from rfl) hq82) ?_
        refine lex.gskip (want_n rfl rfl rfl) ?_
        refine lex.gskip (want_n rfl rfl rfl) ?_
        refine lex.gskip (want_n rfl rfl rfl) ?_
        refine lex.gskip (want_f rfl rfl (show _ = Value.bool (decide (y59.2.2.2 = 1)) from rfl) hq82) ?_
        refine lex.pure (v := .bool true) (pu_pickT (q := (decide (y59.2.2.2 = 1))) rfl hq82 rfl) ?_
        refine lex.pure (v := .bool true) (pu_assign rfl) ?_
        refine lex.nil ?_
        refine hK81 _ _ ?_
        obtain rfl := Option.some.inj hb
        refine Wc.ret ?_
        refine hKR _ _ ?_
        refine ⟨_, res1 Try.results6 (show RV _ _ _ (.tmp _) (.bool true) from rfl), _, rfl, rfl, hC.sel [] (by decide)⟩
      · replace hb := (cF hq82).symm.trans hb
        refine lex.gpure (want_t rfl rfl (show _ = Value.bool (decide (y59.2.2.2 = 1)) from rfl) hq82) (v := .int .i64 y59.2.2.2) (pu_move e15) ?_
        refine lex.gpure (want_t rfl rfl (show _ = Value.bool (decide (y59.2.2.2 = 1)) from rfl) hq82) (v := .bool (decide (y59.2.2.2 = 0))) (pu_eql (k := .i64) (a := y59.2.2.2) (b := 0) rfl rfl) ?_
        refine lex.gpure (want_t rfl rfl (show _ = Value.bool (decide (y59.2.2.2 = 1)) from rfl) hq82) (v := .bool (decide (y59.2.2.2 = 0))) (pu_move rfl) ?_
        rcases bS (decide (y59.2.2.2 = 0)) with hq83 | hq83
        · replace hb := (cT hq83).symm.trans hb
          refine lex.gval (want_t rfl rfl (show _ = Value.bool (decide (y59.2.2.2 = 0)) from rfl) hq83) (v := .agg #[.slice A61 y59.1.length c63, .slice A65 y59.2.1.length c67, .int .i64 y59.2.2.1]) (ld_blk (hC.bx (i := 0) rfl) Try.isAgg32 Try.sizeOf32 e14) ?_
          refine lex.gval (want_t rfl rfl (show _ = Value.bool (decide (y59.2.2.2 = 0)) from rfl) hq83) (v := .agg #[.slice A25 y23.1.length c27, .slice A29 y23.2.1.length c31, .int .i64 y23.2.2.1]) (ld_blk (hC.bx (i := 8) rfl) Try.isAgg32 Try.sizeOf32 e11) ?_
          obtain ⟨y84, h85, hb⟩ := bd hb
          refine lex.gcl (want_t rfl rfl (show _ = Value.bool (decide (y59.2.2.2 = 0)) from rfl) hq83) (⟨_, _, op_call (vs := [.agg #[.slice A61 y59.1.length c63, .slice A65 y59.2.1.length c67, .int .i64 y59.2.2.1], .agg #[.slice A25 y23.1.length c27, .slice A29 y23.2.1.length c31, .int .i64 y23.2.2.1]]) Try.call26 rfl rfl rfl, diagram_Equal_ok n (hC.lentLt [.slice A25 y23.1.length c27, .slice A29 y23.2.1.length c31, .slice A61 y59.1.length c63, .slice A65 y59.2.1.length c67]) ((hC.ow (i := 1) rfl).lend (vs := [.slice A25 y23.1.length c27, .slice A29 y23.2.1.length c31, .slice A61 y59.1.length c63, .slice A65 y59.2.1.length c67]) (by simp)) ((hC.ow (i := 2) rfl).lend (vs := [.slice A25 y23.1.length c27, .slice A29 y23.2.1.length c31, .slice A61 y59.1.length c63, .slice A65 y59.2.1.length c67]) (by simp)) hr69 ((hC.ow (i := 9) rfl).lend (vs := [.slice A25 y23.1.length c27, .slice A29 y23.2.1.length c31, .slice A61 y59.1.length c63, .slice A65 y59.2.1.length c67]) (by simp)) ((hC.ow (i := 10) rfl).lend (vs := [.slice A25 y23.1.length c27, .slice A29 y23.2.1.length c31, .slice A61 y59.1.length c63, .slice A65 y59.2.1.length c67]) (by simp)) hr33 h85⟩) ?_
          rintro _ w86 ⟨rfl, hK⟩
          replace hC := hC.mergeF hK rfl
          clear hK
          refine lex.gpure (want_t rfl rfl (show _ = Value.bool (decide (y59.2.2.2 = 1)) from rfl) hq82) (v := .bool y84) (pu_pickT (q := (decide (y59.2.2.2 = 0))) rfl hq83 rfl) ?_
          refine lex.pure (v := .bool y84) (pu_pickF (q := (decide (y59.2.2.2 = 1))) rfl hq82 rfl) ?_
          refine lex.pure (v := .bool y84) (pu_assign rfl) ?_
          refine lex.nil ?_
          refine hK81 _ _ ?_
          obtain rfl := Option.some.inj hb
          refine Wc.ret ?_
          refine hKR _ _ ?_
          refine ⟨_, res1 Try.results6 (show RV _ _ _ (.tmp _) (.bool y84) from rfl), _, rfl, rfl, hC.sel [] (by decide)⟩
        · replace hb := (cF hq83).symm.trans hb
          refine lex.gskip (want_f rfl rfl (show _ = Value.bool (decide (y59.2.2.2 = 0)) from rfl) hq83) ?_
          refine lex.gskip (want_f rfl rfl (show _ = Value.bool (decide (y59.2.2.2 = 0)) from rfl) hq83) ?_
          refine lex.gskip (want_f rfl rfl (show _ = Value.bool (decide (y59.2.2.2 = 0)) from rfl) hq83) ?_
          refine lex.gpure (want_t rfl rfl (show _ = Value.bool (decide (y59.2.2.2 = 1)) from rfl) hq82) (v := .bool false) (pu_pickF (q := (decide (y59.2.2.2 = 0))) rfl hq83 rfl) ?_
          refine lex.pure (v := .bool false) (pu_pickF (q := (decide (y59.2.2.2 = 1))) rfl hq82 rfl) ?_
          refine lex.pure (v := .bool false) (pu_assign rfl) ?_
          refine lex.nil ?_
          refine hK81 _ _ ?_
          obtain rfl := Option.some.inj hb
          refine Wc.ret ?_
          refine hKR _ _ ?_
          refine ⟨_, res1 Try.results6 (show RV _ _ _ (.tmp _) (.bool false) from rfl), _, rfl, rfl, hC.sel [] (by decide)⟩
end Go.Proofs.Yteajmbanlohncaa
