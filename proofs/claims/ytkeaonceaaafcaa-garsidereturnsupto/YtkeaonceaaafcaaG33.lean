/- The walks: part 33. -/
import Derived.Test.YtkeaonceaaafcaaS
import Derived.Test.YtkeaonceaaafcaaG0
import Derived.Test.YtkeaonceaaafcaaG3
import Derived.Test.YtkeaonceaaafcaaG4
import Derived.Test.YtkeaonceaaafcaaG14
import Derived.Test.YtkeaonceaaafcaaG17
import Derived.Test.YtkeaonceaaafcaaG30
set_option linter.unusedVariables false
set_option linter.unusedSimpArgs false
namespace Go.Proofs.Ytkeaonceaaafcaa
open Ev
set_option maxRecDepth 100000 in
set_option maxHeartbeats 4000000 in
theorem law34_GarsideReturns_ok (n : Nat) {w : World} {O0 : List Nat} (hO : ∀ k ∈ O0, k < w.heap.size) {nx_0_0 : Int} (hnx_0_0 : I64 nx_0_0) {nx_0_1 : Int} (hnx_0_1 : I64 nx_0_1) {Anx_0_2 : Option Addr} {mnx_0_2 cnx_0_2 : Nat} {nx_0_2 : List (List Int)} (hnx_0_2 : Rep O0 w (.sl (.sl (.int .i64))) [.slice Anx_0_2 mnx_0_2 cnx_0_2] nx_0_2) {b_1_0 : Int} (hb_1_0 : I64 b_1_0) {Ab_1_1 : Option Addr} {mb_1_1 cb_1_1 : Nat} {b_1_1 : List Int} (hb_1_1 : Rep O0 w (.sl (.int .i64)) [.slice Ab_1_1 mb_1_1 cb_1_1] b_1_1) {r : Bool} (hb : F.law34_GarsideReturns n nx_0_0 nx_0_1 nx_0_2 b_1_0 b_1_1 = some r) :
    Calls Try.prog 11 #[.agg #[.int .i64 nx_0_0, .int .i64 nx_0_1, .slice Anx_0_2 mnx_0_2 cnx_0_2], .agg #[.int .i64 b_1_0, .slice Ab_1_1 mb_1_1 cb_1_1]] w fun e w' => ∃ v, e = .returned v ∧ v = .bool r ∧ Cx (fun _ => False) O0 w w' [] := by
  unfold F.law34_GarsideReturns at hb
  have hC := Cx.start hO
  replace hC := hC.arg rfl hnx_0_2
  replace hC := hC.arg rfl hb_1_1
  clear hO
  obtain ⟨rfl, hlnx_0_2, hcnx_0_2⟩ := hnx_0_2.sl_len
  obtain ⟨rfl, hlb_1_1, hcb_1_1⟩ := hb_1_1.sl_len
  refine calls_of_Wc Try.func11 rfl (by rw [Try.ntmps11]; exact Nat.le_of_ble_eq_true rfl) fun KR hKR => ?_
  refine Wc.seq fun K3 hK3 => ?_
  refine Wc.region (by decide +kernel) ?_
  refine lex.op (hC.box (cs := [.int .i64 nx_0_0, .int .i64 nx_0_1, .slice Anx_0_2 nx_0_2.length cnx_0_2]) rfl rfl) ?_
  rintro _ w5 ⟨g4, rfl, hC, hF, hG⟩
  clear hG
  refine lex.op (hC.box (cs := [.int .i64 b_1_0, .slice Ab_1_1 b_1_1.length cb_1_1]) rfl rfl) ?_
  rintro _ w8 ⟨g7, rfl, hC, hF, hG⟩
  clear hG
  refine lex.pure (v := .bool false) (pu_assign rfl) ?_
  refine lex.nil ?_
  refine hK3 _ _ ?_
  refine Wc.seq fun K10 hK10 => ?_
  refine Wc.seq fun K11 hK11 => ?_
  refine Wc.region (by decide +kernel) ?_
  obtain ⟨y12, h13, hb⟩ := bd hb
  refine lex.cl (⟨_, _, op_call (vs := []) Try.call12 rfl rfl rfl, law34_awake_ok n hC.lt  h13⟩) ?_
  rintro _ w14 ⟨rfl, hK⟩
  replace hC := hC.merge hK
  clear hK
  refine lex.pure (v := .bool (!y12)) (pu_not (q := y12) rfl) ?_
  refine lex.pure (v := .bool (!y12)) (pu_move rfl) ?_
  rcases bS (!y12) with hq15 | hq15
  · replace hb := (cT hq15).symm.trans hb
    refine lex.gskip (want_f rfl rfl (show _ = Value.bool (!y12) from rfl) hq15) ?_
    refine lex.gskip (want_f rfl rfl (show _ = Value.bool (!y12) from rfl) hq15) ?_
    refine lex.gskip (want_f rfl rfl (show _ = Value.bool (!y12) from rfl) hq15) ?_
    refine lex.gskip (want_f rfl rfl (show _ = Value.bool (!y12) from rfl) hq15) ?_
    refine lex.pure (v := .bool true) (pu_pickT (q := (!y12)) rfl hq15 rfl) ?_
    refine lex.pure (v := .bool true) (pu_move rfl) ?_
    refine lex.gskip (want_f rfl rfl (show _ = Value.bool true from rfl) rfl) ?_
    refine lex.gskip (want_f rfl rfl (show _ = Value.bool true from rfl) rfl) ?_
    refine lex.gskip (want_f rfl rfl (show _ = Value.bool true from rfl) rfl) ?_
    refine lex.gskip (want_f rfl rfl (show _ = Value.bool true from rfl) rfl) ?_
    refine lex.pure (v := .bool true) (pu_pickT (q := true) rfl rfl rfl) ?_
    refine lex.nil ?_
    refine hK11 _ _ ?_
    refine Wc.cond_true (rfl) ?_
    refine Wc.seq fun K16 hK16 => ?_
    refine Wc.region (by decide +kernel) ?_
    obtain ⟨y17, h18, hb⟩ := bd hb
    refine lex.cl (⟨_, _, op_call (vs := []) Try.call12 rfl rfl rfl, law34_awake_ok n hC.lt  h18⟩) ?_
    rintro _ w19 ⟨rfl, hK⟩
    replace hC := hC.merge hK
    clear hK
    refine lex.pure (v := .bool y17) (pu_assign rfl) ?_
    refine lex.nil ?_
    refine hK16 _ _ ?_
    obtain rfl := Option.some.inj hb
    refine Wc.ret ?_
    refine hKR _ _ ?_
    refine ⟨_, res1 Try.results11 (show RV _ _ _ (.tmp _) (.bool y17) from rfl), _, rfl, rfl, hC.sel [] (by decide)⟩
  · replace hb := (cF hq15).symm.trans hb
    refine lex.gpure (want_t rfl rfl (show _ = Value.bool (!y12) from rfl) hq15) (v := .pointer (some ((⟨g4, 0, none⟩ : Addr).add 2))) (pu_field (sz := 1) Try.underlying28 rfl Try.sizeOf26 (by decide) rfl rfl) ?_
    refine lex.gval (want_t rfl rfl (show _ = Value.bool (!y12) from rfl) hq15) (v := .slice Anx_0_2 nx_0_2.length cnx_0_2) (ld_fld (hC.bx (i := 1) rfl) Try.isAgg26 rfl rfl) ?_
    refine lex.gpure (want_t rfl rfl (show _ = Value.bool (!y12) from rfl) hq15) (v := .int .i64 (nx_0_2.length : Int)) (pu_len (A := Anx_0_2) (n := nx_0_2.length) (m := cnx_0_2) Try.underlying26 rfl) ?_
    refine lex.gpure (want_t rfl rfl (show _ = Value.bool (!y12) from rfl) hq15) (v := .bool (decide (40 < (nx_0_2.length : Int)))) (pu_gtr (k := .i64) (a := (nx_0_2.length : Int)) (b := 40) rfl rfl) ?_
    refine lex.pure (v := .bool (decide (40 < (nx_0_2.length : Int)))) (pu_pickF (q := (!y12)) rfl hq15 rfl) ?_
    refine lex.pure (v := .bool (decide (40 < (nx_0_2.length : Int)))) (pu_move rfl) ?_
    rcases bS (decide (40 < (nx_0_2.length : Int))) with hq20 | hq20
    · replace hb := (cT hq20).symm.trans hb
      refine lex.gskip (want_f rfl rfl (show _ = Value.bool (decide (40 < (nx_0_2.length : Int))) from rfl) hq20) ?_
      refine lex.gskip (want_f rfl rfl (show _ = Value.bool (decide (40 < (nx_0_2.length : Int))) from rfl) hq20) ?_
      refine lex.gskip (want_f rfl rfl (show _ = Value.bool (decide (40 < (nx_0_2.length : Int))) from rfl) hq20) ?_
      refine lex.gskip (want_f rfl rfl (show _ = Value.bool (decide (40 < (nx_0_2.length : Int))) from rfl) hq20) ?_
      refine lex.pure (v := .bool true) (pu_pickT (q := (decide (40 < (nx_0_2.length : Int)))) rfl hq20 rfl) ?_
      refine lex.nil ?_
      refine hK11 _ _ ?_
      refine Wc.fresh fun E21 hE => ?_
      have e2 : E21 2 = .pointer (some ⟨g4, 0, none⟩) := (congrFun hE 2).trans rfl
      have e3 : E21 3 = .pointer (some ⟨g7, 0, none⟩) := (congrFun hE 3).trans rfl
      have e4 : E21 4 = .bool false := (congrFun hE 4).trans rfl
      have e26 : E21 26 = .bool true := (congrFun hE 26).trans rfl
      clear hE
      refine Wc.cond_true (e26) ?_
      refine Wc.seq fun K22 hK22 => ?_
      refine Wc.region (by decide +kernel) ?_
      obtain ⟨y23, h24, hb⟩ := bd hb
      refine lex.cl (⟨_, _, op_call (vs := []) Try.call12 rfl rfl rfl, law34_awake_ok n hC.lt  h24⟩) ?_
      rintro _ w25 ⟨rfl, hK⟩
      replace hC := hC.merge hK
      clear hK
      refine lex.pure (v := .bool y23) (pu_assign rfl) ?_
      refine lex.nil ?_
      refine hK22 _ _ ?_
      obtain rfl := Option.some.inj hb
      refine Wc.ret ?_
      refine hKR _ _ ?_
      refine ⟨_, res1 Try.results11 (show RV _ _ _ (.tmp _) (.bool y23) from rfl), _, rfl, rfl, hC.sel [] (by decide)⟩
    · replace hb := (cF hq20).symm.trans hb
      refine lex.gpure (want_t rfl rfl (show _ = Value.bool (decide (40 < (nx_0_2.length : Int))) from rfl) hq20) (v := .pointer (some ((⟨g7, 0, none⟩ : Addr).add 1))) (pu_field (sz := 1) Try.underlying24 rfl Try.sizeOf22 (by decide) rfl rfl) ?_
      refine lex.gval (want_t rfl rfl (show _ = Value.bool (decide (40 < (nx_0_2.length : Int))) from rfl) hq20) (v := .slice Ab_1_1 b_1_1.length cb_1_1) (ld_fld (hC.bx (i := 0) rfl) Try.isAgg22 rfl rfl) ?_
      refine lex.gpure (want_t rfl rfl (show _ = Value.bool (decide (40 < (nx_0_2.length : Int))) from rfl) hq20) (v := .int .i64 (b_1_1.length : Int)) (pu_len (A := Ab_1_1) (n := b_1_1.length) (m := cb_1_1) Try.underlying22 rfl) ?_
      refine lex.gpure (want_t rfl rfl (show _ = Value.bool (decide (40 < (nx_0_2.length : Int))) from rfl) hq20) (v := .bool (decide (40 < (b_1_1.length : Int)))) (pu_gtr (k := .i64) (a := (b_1_1.length : Int)) (b := 40) rfl rfl) ?_
      refine lex.pure (v := .bool (decide (40 < (b_1_1.length : Int)))) (pu_pickF (q := (decide (40 < (nx_0_2.length : Int)))) rfl hq20 rfl) ?_
      refine lex.nil ?_
      refine hK11 _ _ ?_
      refine Wc.fresh fun E26 hE => ?_
      have e2 : E26 2 = .pointer (some ⟨g4, 0, none⟩) := (congrFun hE 2).trans rfl
      have e3 : E26 3 = .pointer (some ⟨g7, 0, none⟩) := (congrFun hE 3).trans rfl
      have e4 : E26 4 = .bool false := (congrFun hE 4).trans rfl
      have e26 : E26 26 = .bool (decide (40 < (b_1_1.length : Int))) := (congrFun hE 26).trans rfl
      clear hE
      refine Wc.cond (t := (decide (40 < (b_1_1.length : Int)))) (e26) (fun hq27 => ?_) (fun hq27 => ?_)
      · replace hb := (cT hq27).symm.trans hb
        refine Wc.seq fun K28 hK28 => ?_
        refine Wc.region (by decide +kernel) ?_
        obtain ⟨y29, h30, hb⟩ := bd hb
        refine lex.cl (⟨_, _, op_call (vs := []) Try.call12 rfl rfl rfl, law34_awake_ok n hC.lt  h30⟩) ?_
        rintro _ w31 ⟨rfl, hK⟩
        replace hC := hC.merge hK
        clear hK
        refine lex.pure (v := .bool y29) (pu_assign rfl) ?_
        refine lex.nil ?_
        refine hK28 _ _ ?_
        obtain rfl := Option.some.inj hb
        refine Wc.ret ?_
        refine hKR _ _ ?_
        refine ⟨_, res1 Try.results11 (show RV _ _ _ (.tmp _) (.bool y29) from rfl), _, rfl, rfl, hC.sel [] (by decide)⟩
      · replace hb := (cF hq27).symm.trans hb
        refine Wc.skip ?_
        refine hK10 _ _ ?_
        refine Wc.seqJ (fun E wv => E 3 = .pointer (some ⟨g7, 0, none⟩) ∧ E 4 = .bool false ∧ Cx (fun _ => False) O0 w wv [.box g7 24 [.int .i64 b_1_0, .slice Ab_1_1 b_1_1.length cb_1_1], .ro (.sl (.int .i64)) [.slice Ab_1_1 b_1_1.length cb_1_1] b_1_1] ∧ F.law34_GarsideReturns_j0 n b_1_0 b_1_1 = some r) (fun K32 hK32 => ?_) ?_
        ·
          skip
          refine Wc.seq fun K33 hK33 => ?_
          refine Wc.region (by decide +kernel) ?_
          refine lex.val (v := .agg #[.int .i64 nx_0_0, .int .i64 nx_0_1, .slice Anx_0_2 nx_0_2.length cnx_0_2]) (ld_blk (hC.bx (i := 1) rfl) Try.isAgg28 Try.sizeOf28 e2) ?_
          obtain ⟨y34, h35, hb⟩ := bd hb
          refine lex.cl (⟨_, _, op_call (vs := [.agg #[.int .i64 nx_0_0, .int .i64 nx_0_1, .slice Anx_0_2 nx_0_2.length cnx_0_2]]) Try.call35 rfl rfl rfl, garside_Word_ok n hC.lt hnx_0_0 hnx_0_1 (hC.rd (i := 3) rfl) h35⟩) ?_
          rintro _ w42 ⟨A37, m38, c39, rfl, hr36, hr41, hK⟩
          replace hC := hC.merge hK
          clear hK
          obtain ⟨rfl, hl43, hc44⟩ := (hC.ow (i := 0) rfl).sl_len
          refine lex.pure (v := .tuple #[.agg #[.int .i64 y34.1, .slice A37 y34.2.1.length c39], .int .i64 y34.2.2]) (pu_move rfl) ?_
          refine lex.pure (v := .agg #[.int .i64 y34.1, .slice A37 y34.2.1.length c39]) (pu_extract rfl rfl) ?_
          refine lex.pure (v := .int .i64 y34.2.2) (pu_extract rfl rfl) ?_
          refine lex.op (hC.alloc (cs := [.int .i64 0, .slice none 0 0]) Try.zeroValue24 rfl) ?_
          rintro _ w46 ⟨g45, rfl, hC, hF, hG⟩
          clear hG
          refine lex.sk (hC.seta (i := 0) (ds := [.int .i64 y34.1, .slice A37 y34.2.1.length c39]) rfl Try.type24 rfl rfl rfl rfl rfl) ?_
          rintro w48 ⟨hC, hF⟩
          refine lex.pure (v := .int .i64 y34.2.2) (pu_assign rfl) ?_
          refine lex.nil ?_
          refine hK33 _ _ ?_
          refine Wc.seq fun K49 hK49 => ?_
          refine Wc.region (by decide +kernel) ?_
          refine lex.pure (v := .int .i64 y34.2.2) (pu_move rfl) ?_
          refine lex.pure (v := .bool (decide (y34.2.2 = 0))) (pu_eql (k := .i64) (a := y34.2.2) (b := 0) rfl rfl) ?_
          refine lex.nil ?_
          refine hK49 _ _ ?_
          refine Wc.cond (t := (decide (y34.2.2 = 0))) (rfl) (fun hq50 => ?_) (fun hq50 => ?_)
          · replace hb := (cT hq50).symm.trans hb
            refine Wc.seq fun K51 hK51 => ?_
            refine Wc.region (by decide +kernel) ?_
            refine lex.val (v := .agg #[.int .i64 y34.1, .slice A37 y34.2.1.length c39]) (ld_blk (hC.bx (i := 0) rfl) Try.isAgg24 Try.sizeOf24 rfl) ?_
            replace hC := hC.freeze (i := 1) rfl (hC.own_new (i := 1) rfl)
            obtain ⟨y52, h53, hb⟩ := bd hb
            refine lex.cl (⟨_, _, op_call (vs := [.agg #[.int .i64 y34.1, .slice A37 y34.2.1.length c39]]) Try.call13 rfl rfl rfl, garside_Form_ok n hC.lt hr36 (hC.rd (i := 1) rfl) h53⟩) ?_
            rintro _ w61 ⟨A56, m57, c58, rfl, hr54, hr55, hr60, hK⟩
            replace hC := hC.merge hK
            clear hK
            obtain ⟨rfl, hl62, hc63⟩ := (hC.rd (i := 0) rfl).sl_len
            refine lex.pure (v := .tuple #[.agg #[.int .i64 y52.1, .int .i64 y52.2.1, .slice A56 y52.2.2.1.length c58], .int .i64 y52.2.2.2]) (pu_move rfl) ?_
            refine lex.pure (v := .agg #[.int .i64 y52.1, .int .i64 y52.2.1, .slice A56 y52.2.2.1.length c58]) (pu_extract rfl rfl) ?_
            refine lex.pure (v := .int .i64 y52.2.2.2) (pu_extract rfl rfl) ?_
            refine lex.op (hC.alloc (cs := [.int .i64 0, .int .i64 0, .slice none 0 0]) Try.zeroValue28 rfl) ?_
            rintro _ w65 ⟨g64, rfl, hC, hF, hG⟩
            clear hG
            refine lex.sk (hC.seta (i := 0) (ds := [.int .i64 y52.1, .int .i64 y52.2.1, .slice A56 y52.2.2.1.length c58]) rfl Try.type28 rfl rfl rfl rfl rfl) ?_
            rintro w67 ⟨hC, hF⟩
            refine lex.pure (v := .int .i64 y52.2.2.2) (pu_assign rfl) ?_
            refine lex.nil ?_
            refine hK51 _ _ ?_
            refine Wc.fresh fun E68 hE => ?_
            have e2 : E68 2 = .pointer (some ⟨g4, 0, none⟩) := (congrFun hE 2).trans e2
            have e3 : E68 3 = .pointer (some ⟨g7, 0, none⟩) := (congrFun hE 3).trans e3
            have e4 : E68 4 = .bool false := (congrFun hE 4).trans e4
            have e7 : E68 7 = .pointer (some ⟨g64, 0, none⟩) := (congrFun hE 7).trans rfl
            have e8 : E68 8 = .int .i64 y52.2.2.2 := (congrFun hE 8).trans rfl
            clear hE
            refine Wc.seq fun K69 hK69 => ?_
            refine Wc.region (by decide +kernel) ?_
            refine lex.pure (v := .int .i64 y52.2.2.2) (pu_move e8) ?_
            refine lex.pure (v := .bool (!(decide (y52.2.2.2 = 0)))) (pu_neq (k := .i64) (a := y52.2.2.2) (b := 0) rfl rfl) ?_
            refine lex.pure (v := .bool (!(decide (y52.2.2.2 = 0)))) (pu_move rfl) ?_
            rcases bS (!(decide (y52.2.2.2 = 0))) with hq70 | hq70
            · replace hb := (cT hq70).symm.trans hb
              refine lex.gskip (want_f rfl rfl (show _ = Value.bool (!(decide (y52.2.2.2 = 0))) from rfl) hq70) ?_
              refine lex.gskip (want_f rfl rfl (show _ = Value.bool (!(decide (y52.2.2.2 = 0))) from rfl) hq70) ?_
              refine lex.gskip (want_f rfl rfl (show _ = Value.bool (!(decide (y52.2.2.2 = 0))) from rfl) hq70) ?_
              refine lex.gskip (want_f rfl rfl (show _ = Value.bool (!(decide (y52.2.2.2 = 0))) from rfl) hq70) ?_
              refine lex.pure (v := .bool true) (pu_pickT (q := (!(decide (y52.2.2.2 = 0)))) rfl hq70 rfl) ?_
              refine lex.nil ?_
              refine hK69 _ _ ?_
              refine Wc.cond_true (rfl) ?_
              refine Wc.seq fun K71 hK71 => ?_
              refine Wc.region (by decide +kernel) ?_
              refine lex.pure (v := .bool false) (pu_assign rfl) ?_
              refine lex.nil ?_
              refine hK71 _ _ ?_
              obtain rfl := Option.some.inj hb
              refine Wc.ret ?_
              refine hKR _ _ ?_
              refine ⟨_, res1 Try.results11 (show RV _ _ _ (.tmp _) (.bool false) from rfl), _, rfl, rfl, hC.sel [] (by decide)⟩
            · replace hb := (cF hq70).symm.trans hb
              refine lex.gval (want_t rfl rfl (show _ = Value.bool (!(decide (y52.2.2.2 = 0))) from rfl) hq70) (v := .agg #[.int .i64 y52.1, .int .i64 y52.2.1, .slice A56 y52.2.2.1.length c58]) (ld_blk (hC.bx (i := 0) rfl) Try.isAgg28 Try.sizeOf28 e7) ?_
              refine lex.gval (want_t rfl rfl (show _ = Value.bool (!(decide (y52.2.2.2 = 0))) from rfl) hq70) (v := .agg #[.int .i64 nx_0_0, .int .i64 nx_0_1, .slice Anx_0_2 nx_0_2.length cnx_0_2]) (ld_blk (hC.bx (i := 5) rfl) Try.isAgg28 Try.sizeOf28 e2) ?_
              obtain ⟨y72, h73, hb⟩ := bd hb
              refine lex.gcl (want_t rfl rfl (show _ = Value.bool (!(decide (y52.2.2.2 = 0))) from rfl) hq70) (⟨_, _, op_call (vs := [.agg #[.int .i64 y52.1, .int .i64 y52.2.1, .slice A56 y52.2.2.1.length c58], .agg #[.int .i64 nx_0_0, .int .i64 nx_0_1, .slice Anx_0_2 nx_0_2.length cnx_0_2]]) Try.call23 rfl rfl rfl, law34_equal_ok n hC.lt hr54 hr55 (hC.rd (i := 1) rfl) hnx_0_0 hnx_0_1 (hC.rd (i := 7) rfl) h73⟩) ?_
              rintro _ w74 ⟨rfl, hK⟩
              replace hC := hC.merge hK
              clear hK
              refine lex.gpure (want_t rfl rfl (show _ = Value.bool (!(decide (y52.2.2.2 = 0))) from rfl) hq70) (v := .bool (!y72)) (pu_not (q := y72) rfl) ?_
              refine lex.pure (v := .bool (!y72)) (pu_pickF (q := (!(decide (y52.2.2.2 = 0)))) rfl hq70 rfl) ?_
              refine lex.nil ?_
              refine hK69 _ _ ?_
              refine Wc.cond (t := (!y72)) (rfl) (fun hq75 => ?_) (fun hq75 => ?_)
              · replace hb := (cT hq75).symm.trans hb
                refine Wc.seq fun K76 hK76 => ?_
                refine Wc.region (by decide +kernel) ?_
                refine lex.pure (v := .bool false) (pu_assign rfl) ?_
                refine lex.nil ?_
                refine hK76 _ _ ?_
                obtain rfl := Option.some.inj hb
                refine Wc.ret ?_
                refine hKR _ _ ?_
                refine ⟨_, res1 Try.results11 (show RV _ _ _ (.tmp _) (.bool false) from rfl), _, rfl, rfl, hC.sel [] (by decide)⟩
              · replace hb := (cF hq75).symm.trans hb
                refine Wc.skip ?_
                exact hK32 _ _ ⟨e3, e4, hC.sel [4, 6] (by decide), hb⟩
          · replace hb := (cF hq50).symm.trans hb
            refine Wc.skip ?_
            exact hK32 _ _ ⟨e3, e4, hC.sel [2, 4] (by decide), hb⟩
        · clear hb hC
          rintro E78 w77 ⟨e3, e4, hC, hb⟩
          unfold F.law34_GarsideReturns_j0 at hb
          refine Wc.seq fun K79 hK79 => ?_
          refine Wc.seq fun K80 hK80 => ?_
          refine Wc.region (by decide +kernel) ?_
          refine lex.val (v := .agg #[.int .i64 b_1_0, .slice Ab_1_1 b_1_1.length cb_1_1]) (ld_blk (hC.bx (i := 0) rfl) Try.isAgg24 Try.sizeOf24 e3) ?_
          obtain ⟨y81, h82, hb⟩ := bd hb
          refine lex.cl (⟨_, _, op_call (vs := [.agg #[.int .i64 b_1_0, .slice Ab_1_1 b_1_1.length cb_1_1]]) Try.call14 rfl rfl rfl, braid_Valid_ok n hC.lt hb_1_0 (hC.rd (i := 1) rfl) h82⟩) ?_
          rintro _ w83 ⟨rfl, hK⟩
          replace hC := hC.merge hK
          clear hK
          refine lex.pure (v := .bool (!y81)) (pu_not (q := y81) rfl) ?_
          refine lex.nil ?_
          refine hK80 _ _ ?_
          refine Wc.cond (t := (!y81)) (rfl) (fun hq84 => ?_) (fun hq84 => ?_)
          · replace hb := (cT hq84).symm.trans hb
            refine Wc.seq fun K85 hK85 => ?_
            refine Wc.region (by decide +kernel) ?_
            refine lex.pure (v := .bool true) (pu_assign rfl) ?_
            refine lex.nil ?_
            refine hK85 _ _ ?_
            obtain rfl := Option.some.inj hb
            refine Wc.ret ?_
            refine hKR _ _ ?_
            refine ⟨_, res1 Try.results11 (show RV _ _ _ (.tmp _) (.bool true) from rfl), _, rfl, rfl, hC.sel [] (by decide)⟩
          · replace hb := (cF hq84).symm.trans hb
            refine Wc.skip ?_
            refine hK79 _ _ ?_
            refine Wc.seq fun K86 hK86 => ?_
            refine Wc.region (by decide +kernel) ?_
            refine lex.val (v := .agg #[.int .i64 b_1_0, .slice Ab_1_1 b_1_1.length cb_1_1]) (ld_blk (hC.bx (i := 0) rfl) Try.isAgg24 Try.sizeOf24 e3) ?_
            obtain ⟨y87, h88, hb⟩ := bd hb
            refine lex.cl (⟨_, _, op_call (vs := [.agg #[.int .i64 b_1_0, .slice Ab_1_1 b_1_1.length cb_1_1]]) Try.call13 rfl rfl rfl, garside_Form_ok n hC.lt hb_1_0 (hC.rd (i := 1) rfl) h88⟩) ?_
            rintro _ w96 ⟨A91, m92, c93, rfl, hr89, hr90, hr95, hK⟩
            replace hC := hC.merge hK
            clear hK
            obtain ⟨rfl, hl97, hc98⟩ := (hC.rd (i := 0) rfl).sl_len
            refine lex.pure (v := .tuple #[.agg #[.int .i64 y87.1, .int .i64 y87.2.1, .slice A91 y87.2.2.1.length c93], .int .i64 y87.2.2.2]) (pu_move rfl) ?_
            refine lex.pure (v := .agg #[.int .i64 y87.1, .int .i64 y87.2.1, .slice A91 y87.2.2.1.length c93]) (pu_extract rfl rfl) ?_
            refine lex.pure (v := .int .i64 y87.2.2.2) (pu_extract rfl rfl) ?_
            refine lex.op (hC.alloc (cs := [.int .i64 0, .int .i64 0, .slice none 0 0]) Try.zeroValue28 rfl) ?_
            rintro _ w100 ⟨g99, rfl, hC, hF, hG⟩
            clear hG
            refine lex.sk (hC.seta (i := 0) (ds := [.int .i64 y87.1, .int .i64 y87.2.1, .slice A91 y87.2.2.1.length c93]) rfl Try.type28 rfl rfl rfl rfl rfl) ?_
            rintro w102 ⟨hC, hF⟩
            refine lex.pure (v := .int .i64 y87.2.2.2) (pu_assign rfl) ?_
            refine lex.nil ?_
            refine hK86 _ _ ?_
            refine Wc.fresh fun E103 hE => ?_
            have e3 : E103 3 = .pointer (some ⟨g7, 0, none⟩) := (congrFun hE 3).trans e3
            have e4 : E103 4 = .bool false := (congrFun hE 4).trans e4
            have e9 : E103 9 = .pointer (some ⟨g99, 0, none⟩) := (congrFun hE 9).trans rfl
            have e10 : E103 10 = .int .i64 y87.2.2.2 := (congrFun hE 10).trans rfl
            clear hE
            refine Wc.seq fun K104 hK104 => ?_
            refine Wc.region (by decide +kernel) ?_
            refine lex.val (v := .agg #[.int .i64 y87.1, .int .i64 y87.2.1, .slice A91 y87.2.2.1.length c93]) (ld_blk (hC.bx (i := 0) rfl) Try.isAgg28 Try.sizeOf28 e9) ?_
            obtain ⟨y105, h106, hb⟩ := bd hb
            refine lex.cl (⟨_, _, op_call (vs := [.agg #[.int .i64 y87.1, .int .i64 y87.2.1, .slice A91 y87.2.2.1.length c93]]) Try.call35 rfl rfl rfl, garside_Word_ok n hC.lt hr89 hr90 (hC.rd (i := 1) rfl) h106⟩) ?_
            rintro _ w113 ⟨A108, m109, c110, rfl, hr107, hr112, hK⟩
            replace hC := hC.merge hK
            clear hK
            obtain ⟨rfl, hl114, hc115⟩ := (hC.ow (i := 0) rfl).sl_len
            refine lex.pure (v := .tuple #[.agg #[.int .i64 y105.1, .slice A108 y105.2.1.length c110], .int .i64 y105.2.2]) (pu_move rfl) ?_
            refine lex.pure (v := .agg #[.int .i64 y105.1, .slice A108 y105.2.1.length c110]) (pu_extract rfl rfl) ?_
            refine lex.pure (v := .int .i64 y105.2.2) (pu_extract rfl rfl) ?_
            refine lex.op (hC.alloc (cs := [.int .i64 0, .slice none 0 0]) Try.zeroValue24 rfl) ?_
            rintro _ w117 ⟨g116, rfl, hC, hF, hG⟩
            clear hG
            refine lex.sk (hC.seta (i := 0) (ds := [.int .i64 y105.1, .slice A108 y105.2.1.length c110]) rfl Try.type24 rfl rfl rfl rfl rfl) ?_
            rintro w119 ⟨hC, hF⟩
            refine lex.pure (v := .int .i64 y105.2.2) (pu_assign rfl) ?_
            refine lex.nil ?_
            refine hK104 _ _ ?_
            refine Wc.seq fun K120 hK120 => ?_
            refine Wc.region (by decide +kernel) ?_
            refine lex.pure (v := .int .i64 y87.2.2.2) (pu_move e10) ?_
            refine lex.pure (v := .bool (decide (y87.2.2.2 = 0))) (pu_eql (k := .i64) (a := y87.2.2.2) (b := 0) rfl rfl) ?_
            refine lex.pure (v := .bool (decide (y87.2.2.2 = 0))) (pu_move rfl) ?_
            rcases bS (decide (y87.2.2.2 = 0)) with hq121 | hq121
            · replace hb := (cT hq121).symm.trans hb
              refine lex.gpure (want_t rfl rfl (show _ = Value.bool (decide (y87.2.2.2 = 0)) from rfl) hq121) (v := .int .i64 y105.2.2) (pu_move rfl) ?_
              refine lex.gpure (want_t rfl rfl (show _ = Value.bool (decide (y87.2.2.2 = 0)) from rfl) hq121) (v := .bool (decide (y105.2.2 = 5))) (pu_eql (k := .i64) (a := y105.2.2) (b := 5) rfl rfl) ?_
              refine lex.gpure (want_t rfl rfl (show _ = Value.bool (decide (y87.2.2.2 = 0)) from rfl) hq121) (v := .bool (decide (y105.2.2 = 5))) (pu_move rfl) ?_
              rcases bS (decide (y105.2.2 = 5)) with hq122 | hq122
              · replace hb := (cT hq122).symm.trans hb
                refine lex.gskip (want_f rfl rfl (show _ = Value.bool (decide (y105.2.2 = 5)) from rfl) hq122) ?_
                refine lex.gskip (want_f rfl rfl (show _ = Value.bool (decide (y105.2.2 = 5)) from rfl) hq122) ?_
                refine lex.gskip (want_f rfl rfl (show _ = Value.bool (decide (y105.2.2 = 5)) from rfl) hq122) ?_
                refine lex.gskip (want_n rfl rfl rfl) ?_
                refine lex.gskip (want_n rfl rfl rfl) ?_
                refine lex.gskip (want_n rfl rfl rfl) ?_
                refine lex.gskip (want_f rfl rfl (show _ = Value.bool (decide (y105.2.2 = 5)) from rfl) hq122) ?_
                refine lex.gpure (want_t rfl rfl (show _ = Value.bool (decide (y87.2.2.2 = 0)) from rfl) hq121) (v := .bool true) (pu_pickT (q := (decide (y105.2.2 = 5))) rfl hq122 rfl) ?_
                refine lex.pure (v := .bool true) (pu_pickT (q := (decide (y87.2.2.2 = 0))) rfl hq121 rfl) ?_
                refine lex.pure (v := .bool true) (pu_assign rfl) ?_
                refine lex.nil ?_
                refine hK120 _ _ ?_
                obtain rfl := Option.some.inj hb
                refine Wc.ret ?_
                refine hKR _ _ ?_
                refine ⟨_, res1 Try.results11 (show RV _ _ _ (.tmp _) (.bool true) from rfl), _, rfl, rfl, hC.sel [] (by decide)⟩
              · replace hb := (cF hq122).symm.trans hb
                refine lex.gpure (want_t rfl rfl (show _ = Value.bool (decide (y105.2.2 = 5)) from rfl) hq122) (v := .int .i64 y105.2.2) (pu_move rfl) ?_
                refine lex.gpure (want_t rfl rfl (show _ = Value.bool (decide (y105.2.2 = 5)) from rfl) hq122) (v := .bool (decide (y105.2.2 = 0))) (pu_eql (k := .i64) (a := y105.2.2) (b := 0) rfl rfl) ?_
                refine lex.gpure (want_t rfl rfl (show _ = Value.bool (decide (y105.2.2 = 5)) from rfl) hq122) (v := .bool (decide (y105.2.2 = 0))) (pu_move rfl) ?_
                rcases bS (decide (y105.2.2 = 0)) with hq123 | hq123
                · replace hb := (cT hq123).symm.trans hb
                  refine lex.gval (want_t rfl rfl (show _ = Value.bool (decide (y105.2.2 = 0)) from rfl) hq123) (v := .agg #[.int .i64 y105.1, .slice A108 y105.2.1.length c110]) (ld_blk (hC.bx (i := 0) rfl) Try.isAgg24 Try.sizeOf24 rfl) ?_
                  refine lex.gval (want_t rfl rfl (show _ = Value.bool (decide (y105.2.2 = 0)) from rfl) hq123) (v := .agg #[.int .i64 b_1_0, .slice Ab_1_1 b_1_1.length cb_1_1]) (ld_blk (hC.bx (i := 4) rfl) Try.isAgg24 Try.sizeOf24 e3) ?_
                  obtain ⟨y124, h125, hb⟩ := bd hb
                  refine lex.gcl (want_t rfl rfl (show _ = Value.bool (decide (y105.2.2 = 0)) from rfl) hq123) (⟨_, _, op_call (vs := [.agg #[.int .i64 y105.1, .slice A108 y105.2.1.length c110], .agg #[.int .i64 b_1_0, .slice Ab_1_1 b_1_1.length cb_1_1]]) Try.call21 rfl rfl rfl, garside_Same_ok n (hC.lentLt [.slice A108 y105.2.1.length c110]) hr107 ((hC.ow (i := 1) rfl).lend (vs := [.slice A108 y105.2.1.length c110]) (by simp)) hb_1_0 ((hC.rd (i := 5) rfl).lent [.slice A108 y105.2.1.length c110]) h125⟩) ?_
                  rintro _ w126 ⟨rfl, hK⟩
                  replace hC := hC.mergeF hK rfl
                  clear hK
                  refine lex.gpure (want_t rfl rfl (show _ = Value.bool (decide (y105.2.2 = 5)) from rfl) hq122) (v := .bool y124) (pu_pickT (q := (decide (y105.2.2 = 0))) rfl hq123 rfl) ?_
                  refine lex.gpure (want_t rfl rfl (show _ = Value.bool (decide (y87.2.2.2 = 0)) from rfl) hq121) (v := .bool y124) (pu_pickF (q := (decide (y105.2.2 = 5))) rfl hq122 rfl) ?_
                  refine lex.pure (v := .bool y124) (pu_pickT (q := (decide (y87.2.2.2 = 0))) rfl hq121 rfl) ?_
                  refine lex.pure (v := .bool y124) (pu_assign rfl) ?_
                  refine lex.nil ?_
                  refine hK120 _ _ ?_
                  obtain rfl := Option.some.inj hb
                  refine Wc.ret ?_
                  refine hKR _ _ ?_
                  refine ⟨_, res1 Try.results11 (show RV _ _ _ (.tmp _) (.bool y124) from rfl), _, rfl, rfl, hC.sel [] (by decide)⟩
                · replace hb := (cF hq123).symm.trans hb
                  refine lex.gskip (want_f rfl rfl (show _ = Value.bool (decide (y105.2.2 = 0)) from rfl) hq123) ?_
                  refine lex.gskip (want_f rfl rfl (show _ = Value.bool (decide (y105.2.2 = 0)) from rfl) hq123) ?_
                  refine lex.gskip (want_f rfl rfl (show _ = Value.bool (decide (y105.2.2 = 0)) from rfl) hq123) ?_
                  refine lex.gpure (want_t rfl rfl (show _ = Value.bool (decide (y105.2.2 = 5)) from rfl) hq122) (v := .bool false) (pu_pickF (q := (decide (y105.2.2 = 0))) rfl hq123 rfl) ?_
                  refine lex.gpure (want_t rfl rfl (show _ = Value.bool (decide (y87.2.2.2 = 0)) from rfl) hq121) (v := .bool false) (pu_pickF (q := (decide (y105.2.2 = 5))) rfl hq122 rfl) ?_
                  refine lex.pure (v := .bool false) (pu_pickT (q := (decide (y87.2.2.2 = 0))) rfl hq121 rfl) ?_
                  refine lex.pure (v := .bool false) (pu_assign rfl) ?_
                  refine lex.nil ?_
                  refine hK120 _ _ ?_
                  obtain rfl := Option.some.inj hb
                  refine Wc.ret ?_
                  refine hKR _ _ ?_
                  refine ⟨_, res1 Try.results11 (show RV _ _ _ (.tmp _) (.bool false) from rfl), _, rfl, rfl, hC.sel [] (by decide)⟩
            · replace hb := (cF hq121).symm.trans hb
              refine lex.gskip (want_f rfl rfl (show _ = Value.bool (decide (y87.2.2.2 = 0)) from rfl) hq121) ?_
              refine lex.gskip (want_f rfl rfl (show _ = Value.bool (decide (y87.2.2.2 = 0)) from rfl) hq121) ?_
              refine lex.gskip (want_f rfl rfl (show _ = Value.bool (decide (y87.2.2.2 = 0)) from rfl) hq121) ?_
              refine lex.gskip (want_n rfl rfl rfl) ?_
              refine lex.gskip (want_n rfl rfl rfl) ?_
              refine lex.gskip (want_n rfl rfl rfl) ?_
              refine lex.gskip (want_n rfl rfl rfl) ?_
              refine lex.gskip (want_n rfl rfl rfl) ?_
              refine lex.gskip (want_n rfl rfl rfl) ?_
              refine lex.gskip (want_n rfl rfl rfl) ?_
              refine lex.gskip (want_f rfl rfl (show _ = Value.bool (decide (y87.2.2.2 = 0)) from rfl) hq121) ?_
              refine lex.pure (v := .bool false) (pu_pickF (q := (decide (y87.2.2.2 = 0))) rfl hq121 rfl) ?_
              refine lex.pure (v := .bool false) (pu_assign rfl) ?_
              refine lex.nil ?_
              refine hK120 _ _ ?_
              obtain rfl := Option.some.inj hb
              refine Wc.ret ?_
              refine hKR _ _ ?_
              refine ⟨_, res1 Try.results11 (show RV _ _ _ (.tmp _) (.bool false) from rfl), _, rfl, rfl, hC.sel [] (by decide)⟩
end Go.Proofs.Ytkeaonceaaafcaa
