/- The walks: part 14. -/
import Derived.Test.YtkeaonceaaafcaaS
import Derived.Test.YtkeaonceaaafcaaG0
import Derived.Test.YtkeaonceaaafcaaG4
import Derived.Test.YtkeaonceaaafcaaG8
import Derived.Test.YtkeaonceaaafcaaG11
import Derived.Test.YtkeaonceaaafcaaG13
set_option linter.unusedVariables false
set_option linter.unusedSimpArgs false
namespace Go.Proofs.Ytkeaonceaaafcaa
open Ev
set_option maxRecDepth 100000 in
set_option maxHeartbeats 4000000 in
theorem law34_GarsideSame_ok (n : Nat) {w : World} {O0 : List Nat} (hO : ∀ k ∈ O0, k < w.heap.size) {a_0_0 : Int} (ha_0_0 : I64 a_0_0) {Aa_0_1 : Option Addr} {ma_0_1 ca_0_1 : Nat} {a_0_1 : List Int} (ha_0_1 : Rep O0 w (.sl (.int .i64)) [.slice Aa_0_1 ma_0_1 ca_0_1] a_0_1) {b_1_0 : Int} (hb_1_0 : I64 b_1_0) {Ab_1_1 : Option Addr} {mb_1_1 cb_1_1 : Nat} {b_1_1 : List Int} (hb_1_1 : Rep O0 w (.sl (.int .i64)) [.slice Ab_1_1 mb_1_1 cb_1_1] b_1_1) {r : Bool} (hb : F.law34_GarsideSame n a_0_0 a_0_1 b_1_0 b_1_1 = some r) :
    Calls Try.prog 4 #[.agg #[.int .i64 a_0_0, .slice Aa_0_1 ma_0_1 ca_0_1], .agg #[.int .i64 b_1_0, .slice Ab_1_1 mb_1_1 cb_1_1]] w fun e w' => ∃ v, e = .returned v ∧ v = .bool r ∧ Cx (fun _ => False) O0 w w' [] := by
  unfold F.law34_GarsideSame at hb
  have hC := Cx.start hO
  replace hC := hC.arg rfl ha_0_1
  replace hC := hC.arg rfl hb_1_1
  clear hO
  obtain ⟨rfl, hla_0_1, hca_0_1⟩ := ha_0_1.sl_len
  obtain ⟨rfl, hlb_1_1, hcb_1_1⟩ := hb_1_1.sl_len
  refine calls_of_Wc Try.func4 rfl (by rw [Try.ntmps4]; exact Nat.le_of_ble_eq_true rfl) fun KR hKR => ?_
  refine Wc.seq fun K3 hK3 => ?_
  refine Wc.region (by decide +kernel) ?_
  refine lex.op (hC.box (cs := [.int .i64 a_0_0, .slice Aa_0_1 a_0_1.length ca_0_1]) rfl rfl) ?_
  rintro _ w5 ⟨g4, rfl, hC, hF, hG⟩
  clear hG
  refine lex.op (hC.box (cs := [.int .i64 b_1_0, .slice Ab_1_1 b_1_1.length cb_1_1]) rfl rfl) ?_
  rintro _ w8 ⟨g7, rfl, hC, hF, hG⟩
  clear hG
  refine lex.pure (v := .bool false) (pu_assign rfl) ?_
  refine lex.nil ?_
  refine hK3 _ _ ?_
  refine Wc.seq fun K10 hK10 => ?_
  refine Wc.seq fun K11 hK11 => ?_
  refine Wc.region (by decide +kernel) ?_
  obtain ⟨y12, h13, hb⟩ := bd hb
  refine lex.cl (⟨_, _, op_call (vs := []) Try.call12 rfl rfl rfl, law34_awake_ok n hC.lt  h13⟩) ?_
  rintro _ w14 ⟨rfl, hK⟩
  replace hC := hC.merge hK
  clear hK
  refine lex.pure (v := .bool (!y12)) (pu_not (q := y12) rfl) ?_
  refine lex.pure (v := .bool (!y12)) (pu_move rfl) ?_
  rcases bS (!y12) with hq15 | hq15
  · replace hb := (cT hq15).symm.trans hb
    refine lex.gskip (want_f rfl rfl (show _ = Value.bool (!y12) from rfl) hq15) ?_
    refine lex.gskip (want_f rfl rfl (show _ = Value.bool (!y12) from rfl) hq15) ?_
    refine lex.gskip (want_f rfl rfl (show _ = Value.bool (!y12) from rfl) hq15) ?_
    refine lex.gskip (want_f rfl rfl (show _ = Value.bool (!y12) from rfl) hq15) ?_
    refine lex.pure (v := .bool true) (pu_pickT (q := (!y12)) rfl hq15 rfl) ?_
    refine lex.pure (v := .bool true) (pu_move rfl) ?_
    refine lex.gskip (want_f rfl rfl (show _ = Value.bool true from rfl) rfl) ?_
    refine lex.gskip (want_f rfl rfl (show _ = Value.bool true from rfl) rfl) ?_
    refine lex.gskip (want_f rfl rfl (show _ = Value.bool true from rfl) rfl) ?_
    refine lex.gskip (want_f rfl rfl (show _ = Value.bool true from rfl) rfl) ?_
    refine lex.pure (v := .bool true) (pu_pickT (q := true) rfl rfl rfl) ?_
    refine lex.nil ?_
    refine hK11 _ _ ?_
    refine Wc.cond_true (rfl) ?_
    refine Wc.seq fun K16 hK16 => ?_
    refine Wc.region (by decide +kernel) ?_
    obtain ⟨y17, h18, hb⟩ := bd hb
    refine lex.cl (⟨_, _, op_call (vs := []) Try.call12 rfl rfl rfl, law34_awake_ok n hC.lt  h18⟩) ?_
    rintro _ w19 ⟨rfl, hK⟩
    replace hC := hC.merge hK
    clear hK
    refine lex.pure (v := .bool y17) (pu_assign rfl) ?_
    refine lex.nil ?_
    refine hK16 _ _ ?_
    obtain rfl := Option.some.inj hb
    refine Wc.ret ?_
    refine hKR _ _ ?_
    refine ⟨_, res1 Try.results4 (show RV _ _ _ (.tmp _) (.bool y17) from rfl), _, rfl, rfl, hC.sel [] (by decide)⟩
  · replace hb := (cF hq15).symm.trans hb
    refine lex.gpure (want_t rfl rfl (show _ = Value.bool (!y12) from rfl) hq15) (v := .pointer (some ((⟨g4, 0, none⟩ : Addr).add 1))) (pu_field (sz := 1) Try.underlying24 rfl Try.sizeOf22 (by decide) rfl rfl) ?_
    refine lex.gval (want_t rfl rfl (show _ = Value.bool (!y12) from rfl) hq15) (v := .slice Aa_0_1 a_0_1.length ca_0_1) (ld_fld (hC.bx (i := 1) rfl) Try.isAgg22 rfl rfl) ?_
    refine lex.gpure (want_t rfl rfl (show _ = Value.bool (!y12) from rfl) hq15) (v := .int .i64 (a_0_1.length : Int)) (pu_len (A := Aa_0_1) (n := a_0_1.length) (m := ca_0_1) Try.underlying22 rfl) ?_
    refine lex.gpure (want_t rfl rfl (show _ = Value.bool (!y12) from rfl) hq15) (v := .bool (decide (12 < (a_0_1.length : Int)))) (pu_gtr (k := .i64) (a := (a_0_1.length : Int)) (b := 12) rfl rfl) ?_
    refine lex.pure (v := .bool (decide (12 < (a_0_1.length : Int)))) (pu_pickF (q := (!y12)) rfl hq15 rfl) ?_
    refine lex.pure (v := .bool (decide (12 < (a_0_1.length : Int)))) (pu_move rfl) ?_
    rcases bS (decide (12 < (a_0_1.length : Int))) with hq20 | hq20
    · replace hb := (cT hq20).symm.trans hb
      refine lex.gskip (want_f rfl rfl (show _ = Value.bool (decide (12 < (a_0_1.length : Int))) from rfl) hq20) ?_
      refine lex.gskip (want_f rfl rfl (show _ = Value.bool (decide (12 < (a_0_1.length : Int))) from rfl) hq20) ?_
      refine lex.gskip (want_f rfl rfl (show _ = Value.bool (decide (12 < (a_0_1.length : Int))) from rfl) hq20) ?_
      refine lex.gskip (want_f rfl rfl (show _ = Value.bool (decide (12 < (a_0_1.length : Int))) from rfl) hq20) ?_
      refine lex.pure (v := .bool true) (pu_pickT (q := (decide (12 < (a_0_1.length : Int)))) rfl hq20 rfl) ?_
      refine lex.nil ?_
      refine hK11 _ _ ?_
      refine Wc.fresh fun E21 hE => ?_
      have e2 : E21 2 = .pointer (some ⟨g4, 0, none⟩) := (congrFun hE 2).trans rfl
      have e3 : E21 3 = .pointer (some ⟨g7, 0, none⟩) := (congrFun hE 3).trans rfl
      have e4 : E21 4 = .bool false := (congrFun hE 4).trans rfl
      have e21 : E21 21 = .bool true := (congrFun hE 21).trans rfl
      clear hE
      refine Wc.cond_true (e21) ?_
      refine Wc.seq fun K22 hK22 => ?_
      refine Wc.region (by decide +kernel) ?_
      obtain ⟨y23, h24, hb⟩ := bd hb
      refine lex.cl (⟨_, _, op_call (vs := []) Try.call12 rfl rfl rfl, law34_awake_ok n hC.lt  h24⟩) ?_
      rintro _ w25 ⟨rfl, hK⟩
      replace hC := hC.merge hK
      clear hK
      refine lex.pure (v := .bool y23) (pu_assign rfl) ?_
      refine lex.nil ?_
      refine hK22 _ _ ?_
      obtain rfl := Option.some.inj hb
      refine Wc.ret ?_
      refine hKR _ _ ?_
      refine ⟨_, res1 Try.results4 (show RV _ _ _ (.tmp _) (.bool y23) from rfl), _, rfl, rfl, hC.sel [] (by decide)⟩
    · replace hb := (cF hq20).symm.trans hb
      refine lex.gpure (want_t rfl rfl (show _ = Value.bool (decide (12 < (a_0_1.length : Int))) from rfl) hq20) (v := .pointer (some ((⟨g7, 0, none⟩ : Addr).add 1))) (pu_field (sz := 1) Try.underlying24 rfl Try.sizeOf22 (by decide) rfl rfl) ?_
      refine lex.gval (want_t rfl rfl (show _ = Value.bool (decide (12 < (a_0_1.length : Int))) from rfl) hq20) (v := .slice Ab_1_1 b_1_1.length cb_1_1) (ld_fld (hC.bx (i := 0) rfl) Try.isAgg22 rfl rfl) ?_
      refine lex.gpure (want_t rfl rfl (show _ = Value.bool (decide (12 < (a_0_1.length : Int))) from rfl) hq20) (v := .int .i64 (b_1_1.length : Int)) (pu_len (A := Ab_1_1) (n := b_1_1.length) (m := cb_1_1) Try.underlying22 rfl) ?_
      refine lex.gpure (want_t rfl rfl (show _ = Value.bool (decide (12 < (a_0_1.length : Int))) from rfl) hq20) (v := .bool (decide (12 < (b_1_1.length : Int)))) (pu_gtr (k := .i64) (a := (b_1_1.length : Int)) (b := 12) rfl rfl) ?_
      refine lex.pure (v := .bool (decide (12 < (b_1_1.length : Int)))) (pu_pickF (q := (decide (12 < (a_0_1.length : Int)))) rfl hq20 rfl) ?_
      refine lex.nil ?_
      refine hK11 _ _ ?_
      refine Wc.fresh fun E26 hE => ?_
      have e2 : E26 2 = .pointer (some ⟨g4, 0, none⟩) := (congrFun hE 2).trans rfl
      have e3 : E26 3 = .pointer (some ⟨g7, 0, none⟩) := (congrFun hE 3).trans rfl
      have e4 : E26 4 = .bool false := (congrFun hE 4).trans rfl
      have e21 : E26 21 = .bool (decide (12 < (b_1_1.length : Int))) := (congrFun hE 21).trans rfl
      clear hE
      refine Wc.cond (t := (decide (12 < (b_1_1.length : Int)))) (e21) (fun hq27 => ?_) (fun hq27 => ?_)
      · replace hb := (cT hq27).symm.trans hb
        refine Wc.seq fun K28 hK28 => ?_
        refine Wc.region (by decide +kernel) ?_
        obtain ⟨y29, h30, hb⟩ := bd hb
        refine lex.cl (⟨_, _, op_call (vs := []) Try.call12 rfl rfl rfl, law34_awake_ok n hC.lt  h30⟩) ?_
        rintro _ w31 ⟨rfl, hK⟩
        replace hC := hC.merge hK
        clear hK
        refine lex.pure (v := .bool y29) (pu_assign rfl) ?_
        refine lex.nil ?_
        refine hK28 _ _ ?_
        obtain rfl := Option.some.inj hb
        refine Wc.ret ?_
        refine hKR _ _ ?_
        refine ⟨_, res1 Try.results4 (show RV _ _ _ (.tmp _) (.bool y29) from rfl), _, rfl, rfl, hC.sel [] (by decide)⟩
      · replace hb := (cF hq27).symm.trans hb
        refine Wc.skip ?_
        refine hK10 _ _ ?_
        refine Wc.seq fun K32 hK32 => ?_
        refine Wc.region (by decide +kernel) ?_
        refine lex.val (v := .agg #[.int .i64 a_0_0, .slice Aa_0_1 a_0_1.length ca_0_1]) (ld_blk (hC.bx (i := 1) rfl) Try.isAgg24 Try.sizeOf24 e2) ?_
        refine lex.val (v := .agg #[.int .i64 b_1_0, .slice Ab_1_1 b_1_1.length cb_1_1]) (ld_blk (hC.bx (i := 0) rfl) Try.isAgg24 Try.sizeOf24 e3) ?_
        obtain ⟨y33, h34, hb⟩ := bd hb
        refine lex.cl (⟨_, _, op_call (vs := [.agg #[.int .i64 a_0_0, .slice Aa_0_1 a_0_1.length ca_0_1], .agg #[.int .i64 b_1_0, .slice Ab_1_1 b_1_1.length cb_1_1]]) Try.call21 rfl rfl rfl, garside_Same_ok n hC.lt ha_0_0 (hC.rd (i := 3) rfl) hb_1_0 (hC.rd (i := 2) rfl) h34⟩) ?_
        rintro _ w35 ⟨rfl, hK⟩
        replace hC := hC.merge hK
        clear hK
        refine lex.pure (v := .bool y33) (pu_assign rfl) ?_
        refine lex.nil ?_
        refine hK32 _ _ ?_
        refine Wc.seq fun K36 hK36 => ?_
        refine Wc.seq fun K37 hK37 => ?_
        refine Wc.region (by decide +kernel) ?_
        refine lex.val (v := .agg #[.int .i64 a_0_0, .slice Aa_0_1 a_0_1.length ca_0_1]) (ld_blk (hC.bx (i := 1) rfl) Try.isAgg24 Try.sizeOf24 e2) ?_
        obtain ⟨y38, h39, hb⟩ := bd hb
        refine lex.cl (⟨_, _, op_call (vs := [.agg #[.int .i64 a_0_0, .slice Aa_0_1 a_0_1.length ca_0_1]]) Try.call14 rfl rfl rfl, braid_Valid_ok n hC.lt ha_0_0 (hC.rd (i := 3) rfl) h39⟩) ?_
        rintro _ w40 ⟨rfl, hK⟩
        replace hC := hC.merge hK
        clear hK
        refine lex.pure (v := .bool (!y38)) (pu_not (q := y38) rfl) ?_
        refine lex.pure (v := .bool (!y38)) (pu_move rfl) ?_
        rcases bS (!y38) with hq41 | hq41
        · replace hb := (cT hq41).symm.trans hb
          refine lex.gskip (want_f rfl rfl (show _ = Value.bool (!y38) from rfl) hq41) ?_
          refine lex.gskip (want_f rfl rfl (show _ = Value.bool (!y38) from rfl) hq41) ?_
          refine lex.gskip (want_f rfl rfl (show _ = Value.bool (!y38) from rfl) hq41) ?_
          refine lex.pure (v := .bool true) (pu_pickT (q := (!y38)) rfl hq41 rfl) ?_
          refine lex.pure (v := .bool true) (pu_move rfl) ?_
          refine lex.gskip (want_f rfl rfl (show _ = Value.bool true from rfl) rfl) ?_
          refine lex.gskip (want_f rfl rfl (show _ = Value.bool true from rfl) rfl) ?_
          refine lex.gskip (want_f rfl rfl (show _ = Value.bool true from rfl) rfl) ?_
          refine lex.gskip (want_f rfl rfl (show _ = Value.bool true from rfl) rfl) ?_
          refine lex.gskip (want_f rfl rfl (show _ = Value.bool true from rfl) rfl) ?_
          refine lex.pure (v := .bool true) (pu_pickT (q := true) rfl rfl rfl) ?_
          refine lex.nil ?_
          refine hK37 _ _ ?_
          refine Wc.fresh fun E42 hE => ?_
          have e2 : E42 2 = .pointer (some ⟨g4, 0, none⟩) := (congrFun hE 2).trans e2
          have e3 : E42 3 = .pointer (some ⟨g7, 0, none⟩) := (congrFun hE 3).trans e3
          have e4 : E42 4 = .bool false := (congrFun hE 4).trans e4
          have e5 : E42 5 = .bool y33 := (congrFun hE 5).trans rfl
          have e40 : E42 40 = .bool true := (congrFun hE 40).trans rfl
          clear hE
          refine Wc.cond_true (e40) ?_
          refine Wc.seq fun K43 hK43 => ?_
          refine Wc.region (by decide +kernel) ?_
          refine lex.pure (v := .bool y33) (pu_move e5) ?_
          refine lex.pure (v := .bool (!y33)) (pu_not (q := y33) rfl) ?_
          refine lex.pure (v := .bool (!y33)) (pu_assign rfl) ?_
          refine lex.nil ?_
          refine hK43 _ _ ?_
          obtain rfl := Option.some.inj hb
          refine Wc.ret ?_
          refine hKR _ _ ?_
          refine ⟨_, res1 Try.results4 (show RV _ _ _ (.tmp _) (.bool (!y33)) from rfl), _, rfl, rfl, hC.sel [] (by decide)⟩
        · replace hb := (cF hq41).symm.trans hb
          refine lex.gval (want_t rfl rfl (show _ = Value.bool (!y38) from rfl) hq41) (v := .agg #[.int .i64 b_1_0, .slice Ab_1_1 b_1_1.length cb_1_1]) (ld_blk (hC.bx (i := 0) rfl) Try.isAgg24 Try.sizeOf24 e3) ?_
          obtain ⟨y44, h45, hb⟩ := bd hb
          refine lex.gcl (want_t rfl rfl (show _ = Value.bool (!y38) from rfl) hq41) (⟨_, _, op_call (vs := [.agg #[.int .i64 b_1_0, .slice Ab_1_1 b_1_1.length cb_1_1]]) Try.call14 rfl rfl rfl, braid_Valid_ok n hC.lt hb_1_0 (hC.rd (i := 2) rfl) h45⟩) ?_
          rintro _ w46 ⟨rfl, hK⟩
          replace hC := hC.merge hK
          clear hK
          refine lex.gpure (want_t rfl rfl (show _ = Value.bool (!y38) from rfl) hq41) (v := .bool (!y44)) (pu_not (q := y44) rfl) ?_
          refine lex.pure (v := .bool (!y44)) (pu_pickF (q := (!y38)) rfl hq41 rfl) ?_
          refine lex.pure (v := .bool (!y44)) (pu_move rfl) ?_
          rcases bS (!y44) with hq47 | hq47
          · replace hb := (cT hq47).symm.trans hb
            refine lex.gskip (want_f rfl rfl (show _ = Value.bool (!y44) from rfl) hq47) ?_
            refine lex.gskip (want_f rfl rfl (show _ = Value.bool (!y44) from rfl) hq47) ?_
            refine lex.gskip (want_f rfl rfl (show _ = Value.bool (!y44) from rfl) hq47) ?_
            refine lex.gskip (want_f rfl rfl (show _ = Value.bool (!y44) from rfl) hq47) ?_
            refine lex.gskip (want_f rfl rfl (show _ = Value.bool (!y44) from rfl) hq47) ?_
            refine lex.pure (v := .bool true) (pu_pickT (q := (!y44)) rfl hq47 rfl) ?_
            refine lex.nil ?_
            refine hK37 _ _ ?_
            refine Wc.fresh fun E48 hE => ?_
            have e2 : E48 2 = .pointer (some ⟨g4, 0, none⟩) := (congrFun hE 2).trans e2
            have e3 : E48 3 = .pointer (some ⟨g7, 0, none⟩) := (congrFun hE 3).trans e3
            have e4 : E48 4 = .bool false := (congrFun hE 4).trans e4
            have e5 : E48 5 = .bool y33 := (congrFun hE 5).trans rfl
            have e40 : E48 40 = .bool true := (congrFun hE 40).trans rfl
            clear hE
            refine Wc.cond_true (e40) ?_
            refine Wc.seq fun K49 hK49 => ?_
            refine Wc.region (by decide +kernel) ?_
            refine lex.pure (v := .bool y33) (pu_move e5) ?_
            refine lex.pure (v := .bool (!y33)) (pu_not (q := y33) rfl) ?_
            refine lex.pure (v := .bool (!y33)) (pu_assign rfl) ?_
            refine lex.nil ?_
            refine hK49 _ _ ?_
            obtain rfl := Option.some.inj hb
            refine Wc.ret ?_
            refine hKR _ _ ?_
            refine ⟨_, res1 Try.results4 (show RV _ _ _ (.tmp _) (.bool (!y33)) from rfl), _, rfl, rfl, hC.sel [] (by decide)⟩
          · replace hb := (cF hq47).symm.trans hb
            refine lex.gpure (want_t rfl rfl (show _ = Value.bool (!y44) from rfl) hq47) (v := .pointer (some ((⟨g4, 0, none⟩ : Addr).add 0))) (pu_field (sz := 1) Try.underlying24 rfl Try.sizeOf3 (by decide) rfl e2) ?_
            refine lex.gval (want_t rfl rfl (show _ = Value.bool (!y44) from rfl) hq47) (v := .int .i64 a_0_0) (ld_fld (hC.bx (i := 1) rfl) Try.isAgg3 rfl rfl) ?_
            refine lex.gpure (want_t rfl rfl (show _ = Value.bool (!y44) from rfl) hq47) (v := .pointer (some ((⟨g7, 0, none⟩ : Addr).add 0))) (pu_field (sz := 1) Try.underlying24 rfl Try.sizeOf3 (by decide) rfl e3) ?_
            refine lex.gval (want_t rfl rfl (show _ = Value.bool (!y44) from rfl) hq47) (v := .int .i64 b_1_0) (ld_fld (hC.bx (i := 0) rfl) Try.isAgg3 rfl rfl) ?_
            refine lex.gpure (want_t rfl rfl (show _ = Value.bool (!y44) from rfl) hq47) (v := .bool (!(decide (a_0_0 = b_1_0)))) (pu_neq (k := .i64) (a := a_0_0) (b := b_1_0) rfl rfl) ?_
            refine lex.pure (v := .bool (!(decide (a_0_0 = b_1_0)))) (pu_pickF (q := (!y44)) rfl hq47 rfl) ?_
            refine lex.nil ?_
            refine hK37 _ _ ?_
            refine Wc.fresh fun E50 hE => ?_
            have e2 : E50 2 = .pointer (some ⟨g4, 0, none⟩) := (congrFun hE 2).trans e2
            have e3 : E50 3 = .pointer (some ⟨g7, 0, none⟩) := (congrFun hE 3).trans e3
            have e4 : E50 4 = .bool false := (congrFun hE 4).trans e4
            have e5 : E50 5 = .bool y33 := (congrFun hE 5).trans rfl
            have e40 : E50 40 = .bool (!(decide (a_0_0 = b_1_0))) := (congrFun hE 40).trans rfl
            clear hE
            refine Wc.cond (t := (!(decide (a_0_0 = b_1_0)))) (e40) (fun hq51 => ?_) (fun hq51 => ?_)
            · replace hb := (cT hq51).symm.trans hb
              refine Wc.seq fun K52 hK52 => ?_
              refine Wc.region (by decide +kernel) ?_
              refine lex.pure (v := .bool y33) (pu_move e5) ?_
              refine lex.pure (v := .bool (!y33)) (pu_not (q := y33) rfl) ?_
              refine lex.pure (v := .bool (!y33)) (pu_assign rfl) ?_
              refine lex.nil ?_
              refine hK52 _ _ ?_
              obtain rfl := Option.some.inj hb
              refine Wc.ret ?_
              refine hKR _ _ ?_
              refine ⟨_, res1 Try.results4 (show RV _ _ _ (.tmp _) (.bool (!y33)) from rfl), _, rfl, rfl, hC.sel [] (by decide)⟩
            · replace hb := (cF hq51).symm.trans hb
              refine Wc.skip ?_
              refine hK36 _ _ ?_
              refine Wc.seq fun K53 hK53 => ?_
              refine Wc.regionMix [] (frm [] ([] : List Fact) ([] : List Fact)) (fun _ => rfl) mixed (by decide +kernel) (by decide +kernel) fun w55 hw54 => ?_
              replace hC := hC.step (Fr.of_drew hw54)
              have hM := Fr.refl (fun k => k ∈ blocks ([] : List Fact)) w55
              clear hw54
              have hS := hC
              refine mixE.pure (v := .pointer (some ((⟨g4, 0, none⟩ : Addr).add 0))) (pu_field (sz := 1) Try.underlying24 rfl Try.sizeOf3 (by decide) rfl e2) ?_
              refine mixE.load hM (v := .int .i64 a_0_0) (fun _ hF => ld_fld (hS.bx2 (i := 1) rfl [] (by decide) hF) Try.isAgg3 rfl rfl) ?_
              refine mixE.pure (v := .pointer (some ((⟨g4, 0, none⟩ : Addr).add 1))) (pu_field (sz := 1) Try.underlying24 rfl Try.sizeOf22 (by decide) rfl e2) ?_
              refine mixE.load hM (v := .slice Aa_0_1 a_0_1.length ca_0_1) (fun _ hF => ld_fld (hS.bx2 (i := 1) rfl [] (by decide) hF) Try.isAgg22 rfl rfl) ?_
              obtain ⟨y56, h57, hb⟩ := bd hb
              refine mixE.cl hM (⟨_, _, op_call (vs := [.int .i64 a_0_0, .slice Aa_0_1 a_0_1.length ca_0_1, .int .i64 20000]) Try.call18 rfl rfl rfl, ref34_Action_ok n hC.lt ha_0_0 (hC.rd (i := 3) rfl) (show I64 20000 from by unfold I64; omega) h57⟩) ?_
              rintro _ w62 ⟨A58, m59, c60, rfl, hK⟩
              replace hM := hM.none hK.fr
              refine ⟨hM, ?_⟩
              replace hC := hC.merge hK
              clear hK
              obtain ⟨rfl, hl63, hc64⟩ := (hC.ow (i := 0) rfl).sl_len
              refine mixE.pure (v := .pointer (some ((⟨g7, 0, none⟩ : Addr).add 0))) (pu_field (sz := 1) Try.underlying24 rfl Try.sizeOf3 (by decide) rfl e3) ?_
              refine mixE.load hM (v := .int .i64 b_1_0) (fun _ hF => ld_fld (hS.bx2 (i := 0) rfl [] (by decide) hF) Try.isAgg3 rfl rfl) ?_
              refine mixE.pure (v := .pointer (some ((⟨g7, 0, none⟩ : Addr).add 1))) (pu_field (sz := 1) Try.underlying24 rfl Try.sizeOf22 (by decide) rfl e3) ?_
              refine mixE.load hM (v := .slice Ab_1_1 b_1_1.length cb_1_1) (fun _ hF => ld_fld (hS.bx2 (i := 0) rfl [] (by decide) hF) Try.isAgg22 rfl rfl) ?_
              obtain ⟨y65, h66, hb⟩ := bd hb
              refine mixE.cl hM (⟨_, _, op_call (vs := [.int .i64 b_1_0, .slice Ab_1_1 b_1_1.length cb_1_1, .int .i64 20000]) Try.call18 rfl rfl rfl, ref34_Action_ok n hC.lt hb_1_0 (hC.rd (i := 3) rfl) (show I64 20000 from by unfold I64; omega) h66⟩) ?_
              rintro _ w71 ⟨A67, m68, c69, rfl, hK⟩
              replace hM := hM.none hK.fr
              refine ⟨hM, ?_⟩
              replace hC := hC.merge hK
              clear hK
              obtain ⟨rfl, hl72, hc73⟩ := (hC.ow (i := 0) rfl).sl_len
              refine mixE.pure (v := .slice A58 y56.length c60) (pu_assign rfl) ?_
              refine mixE.pure (v := .slice A67 y65.length c69) (pu_assign rfl) ?_
              refine mixE.nil ?_
              clear hS hM
              refine hK53 _ _ ?_
              refine Wc.fresh fun E74 hE => ?_
              have e4 : E74 4 = .bool false := (congrFun hE 4).trans e4
              have e5 : E74 5 = .bool y33 := (congrFun hE 5).trans e5
              have e6 : E74 6 = .slice A58 y56.length c60 := (congrFun hE 6).trans rfl
              have e7 : E74 7 = .slice A67 y65.length c69 := (congrFun hE 7).trans rfl
              clear hE
              refine Wc.seq fun K75 hK75 => ?_
              refine Wc.region (by decide +kernel) ?_
              refine lex.pure (v := .slice A58 y56.length c60) (pu_move e6) ?_
              refine lex.pure (v := .int .i64 (y56.length : Int)) (pu_len (A := A58) (n := y56.length) (m := c60) Try.underlying35 rfl) ?_
              refine lex.pure (v := .bool (decide ((y56.length : Int) = 0))) (pu_eql (k := .i64) (a := (y56.length : Int)) (b := 0) rfl rfl) ?_
              refine lex.pure (v := .bool (decide ((y56.length : Int) = 0))) (pu_move rfl) ?_
              rcases bS (decide ((y56.length : Int) = 0)) with hq76 | hq76
              · replace hb := (cT hq76).symm.trans hb
                refine lex.gskip (want_f rfl rfl (show _ = Value.bool (decide ((y56.length : Int) = 0)) from rfl) hq76) ?_
                refine lex.gskip (want_f rfl rfl (show _ = Value.bool (decide ((y56.length : Int) = 0)) from rfl) hq76) ?_
                refine lex.gskip (want_f rfl rfl (show _ = Value.bool (decide ((y56.length : Int) = 0)) from rfl) hq76) ?_
                refine lex.pure (v := .bool true) (pu_pickT (q := (decide ((y56.length : Int) = 0))) rfl hq76 rfl) ?_
                refine lex.pure (v := .bool true) (pu_move rfl) ?_
                refine lex.gskip (want_f rfl rfl (show _ = Value.bool true from rfl) rfl) ?_
                refine lex.gskip (want_f rfl rfl (show _ = Value.bool true from rfl) rfl) ?_
                refine lex.gskip (want_f rfl rfl (show _ = Value.bool true from rfl) rfl) ?_
                refine lex.gskip (want_f rfl rfl (show _ = Value.bool true from rfl) rfl) ?_
                refine lex.gskip (want_f rfl rfl (show _ = Value.bool true from rfl) rfl) ?_
                refine lex.pure (v := .bool true) (pu_pickT (q := true) rfl rfl rfl) ?_
                refine lex.pure (v := .bool true) (pu_assign rfl) ?_
                refine lex.nil ?_
                refine hK75 _ _ ?_
                obtain rfl := Option.some.inj hb
                refine Wc.ret ?_
                refine hKR _ _ ?_
                refine ⟨_, res1 Try.results4 (show RV _ _ _ (.tmp _) (.bool true) from rfl), _, rfl, rfl, hC.sel [] (by decide)⟩
              · replace hb := (cF hq76).symm.trans hb
                refine lex.gpure (want_t rfl rfl (show _ = Value.bool (decide ((y56.length : Int) = 0)) from rfl) hq76) (v := .slice A67 y65.length c69) (pu_move e7) ?_
                refine lex.gpure (want_t rfl rfl (show _ = Value.bool (decide ((y56.length : Int) = 0)) from rfl) hq76) (v := .int .i64 (y65.length : Int)) (pu_len (A := A67) (n := y65.length) (m := c69) Try.underlying35 rfl) ?_
                refine lex.gpure (want_t rfl rfl (show _ = Value.bool (decide ((y56.length : Int) = 0)) from rfl) hq76) (v := .bool (decide ((y65.length : Int) = 0))) (pu_eql (k := .i64) (a := (y65.length : Int)) (b := 0) rfl rfl) ?_
                refine lex.pure (v := .bool (decide ((y65.length : Int) = 0))) (pu_pickF (q := (decide ((y56.length : Int) = 0))) rfl hq76 rfl) ?_
                refine lex.pure (v := .bool (decide ((y65.length : Int) = 0))) (pu_move rfl) ?_
                rcases bS (decide ((y65.length : Int) = 0)) with hq77 | hq77
                · replace hb := (cT hq77).symm.trans hb
                  refine lex.gskip (want_f rfl rfl (show _ = Value.bool (decide ((y65.length : Int) = 0)) from rfl) hq77) ?_
                  refine lex.gskip (want_f rfl rfl (show _ = Value.bool (decide ((y65.length : Int) = 0)) from rfl) hq77) ?_
                  refine lex.gskip (want_f rfl rfl (show _ = Value.bool (decide ((y65.length : Int) = 0)) from rfl) hq77) ?_
                  refine lex.gskip (want_f rfl rfl (show _ = Value.bool (decide ((y65.length : Int) = 0)) from rfl) hq77) ?_
                  refine lex.gskip (want_f rfl rfl (show _ = Value.bool (decide ((y65.length : Int) = 0)) from rfl) hq77) ?_
                  refine lex.pure (v := .bool true) (pu_pickT (q := (decide ((y65.length : Int) = 0))) rfl hq77 rfl) ?_
                  refine lex.pure (v := .bool true) (pu_assign rfl) ?_
                  refine lex.nil ?_
                  refine hK75 _ _ ?_
                  obtain rfl := Option.some.inj hb
                  refine Wc.ret ?_
                  refine hKR _ _ ?_
                  refine ⟨_, res1 Try.results4 (show RV _ _ _ (.tmp _) (.bool true) from rfl), _, rfl, rfl, hC.sel [] (by decide)⟩
                · replace hb := (cF hq77).symm.trans hb
                  refine lex.gpure (want_t rfl rfl (show _ = Value.bool (decide ((y65.length : Int) = 0)) from rfl) hq77) (v := .bool y33) (pu_move e5) ?_
                  refine lex.gpure (want_t rfl rfl (show _ = Value.bool (decide ((y65.length : Int) = 0)) from rfl) hq77) (v := .slice A58 y56.length c60) (pu_move e6) ?_
                  refine lex.gpure (want_t rfl rfl (show _ = Value.bool (decide ((y65.length : Int) = 0)) from rfl) hq77) (v := .slice A67 y65.length c69) (pu_move e7) ?_
                  obtain ⟨y78, h79, hb⟩ := bd hb
                  refine lex.gcl (want_t rfl rfl (show _ = Value.bool (decide ((y65.length : Int) = 0)) from rfl) hq77) (⟨_, _, op_call (vs := [.slice A58 y56.length c60, .slice A67 y65.length c69]) Try.call20 rfl rfl rfl, ref34_Same_ok n (hC.lentLt [.slice A58 y56.length c60, .slice A67 y65.length c69]) ((hC.ow (i := 1) rfl).lend (vs := [.slice A58 y56.length c60, .slice A67 y65.length c69]) (by simp)) ((hC.ow (i := 0) rfl).lend (vs := [.slice A58 y56.length c60, .slice A67 y65.length c69]) (by simp)) h79⟩) ?_
                  rintro _ w80 ⟨rfl, hK⟩
                  replace hC := hC.mergeF hK rfl
                  clear hK
                  refine lex.gpure (want_t rfl rfl (show _ = Value.bool (decide ((y65.length : Int) = 0)) from rfl) hq77) (v := .bool (y33 == y78)) (pu_eqlb (p := y33) (q := y78) Try.underlying4 rfl rfl) ?_
                  refine lex.pure (v := .bool (y33 == y78)) (pu_pickF (q := (decide ((y65.length : Int) = 0))) rfl hq77 rfl) ?_
                  refine lex.pure (v := .bool (y33 == y78)) (pu_assign rfl) ?_
                  refine lex.nil ?_
                  refine hK75 _ _ ?_
                  obtain rfl := Option.some.inj hb
                  refine Wc.ret ?_
                  refine hKR _ _ ?_
                  refine ⟨_, res1 Try.results4 (show RV _ _ _ (.tmp _) (.bool (y33 == y78)) from rfl), _, rfl, rfl, hC.sel [] (by decide)⟩
end Go.Proofs.Ytkeaonceaaafcaa
