/- The walks: part 32. -/
import Derived.Test.YtkeaonceaaafcaaS
import Derived.Test.YtkeaonceaaafcaaG0
import Derived.Test.YtkeaonceaaafcaaG3
import Derived.Test.YtkeaonceaaafcaaG4
import Derived.Test.YtkeaonceaaafcaaG16
import Derived.Test.YtkeaonceaaafcaaG28
import Derived.Test.YtkeaonceaaafcaaG29
set_option linter.unusedVariables false
set_option linter.unusedSimpArgs false
namespace Go.Proofs.Ytkeaonceaaafcaa
open Ev
set_option maxRecDepth 100000 in
set_option maxHeartbeats 4000000 in
theorem braid_Mul_ok (n : Nat) {w : World} {O0 : List Nat} (hO : ∀ k ∈ O0, k < w.heap.size) {a_0_0 : Int} (ha_0_0 : I64 a_0_0) {Aa_0_1 : Option Addr} {ma_0_1 ca_0_1 : Nat} {a_0_1 : List Int} (ha_0_1 : Rep O0 w (.sl (.int .i64)) [.slice Aa_0_1 ma_0_1 ca_0_1] a_0_1) {b_1_0 : Int} (hb_1_0 : I64 b_1_0) {Ab_1_1 : Option Addr} {mb_1_1 cb_1_1 : Nat} {b_1_1 : List Int} (hb_1_1 : Rep O0 w (.sl (.int .i64)) [.slice Ab_1_1 mb_1_1 cb_1_1] b_1_1) {r : Int × (List Int) × Int} (hb : F.braid_Mul n a_0_0 a_0_1 b_1_0 b_1_1 = some r) :
    Calls Try.prog 38 #[.agg #[.int .i64 a_0_0, .slice Aa_0_1 ma_0_1 ca_0_1], .agg #[.int .i64 b_1_0, .slice Ab_1_1 mb_1_1 cb_1_1]] w fun e w' => ∃ v, e = .returned v ∧ ∃ (A1 : Option Addr) (m1 c1 : Nat), v = .tuple #[.agg #[.int .i64 r.1, .slice A1 m1 c1], .int .i64 r.2.2] ∧ I64 r.1 ∧ I64 r.2.2 ∧ Cx (fun _ => False) O0 w w' [.own 3 (.int .i64) (.slice A1 m1 c1) r.2.1] := by
  unfold F.braid_Mul at hb
  have hC := Cx.start hO
  replace hC := hC.arg rfl ha_0_1
  replace hC := hC.arg rfl hb_1_1
  clear hO
  obtain ⟨rfl, hla_0_1, hca_0_1⟩ := ha_0_1.sl_len
  obtain ⟨rfl, hlb_1_1, hcb_1_1⟩ := hb_1_1.sl_len
  refine calls_of_Wc Try.func38 rfl (by rw [Try.ntmps38]; exact Nat.le_of_ble_eq_true rfl) fun KR hKR => ?_
  refine Wc.seq fun K3 hK3 => ?_
  refine Wc.region (by decide +kernel) ?_
  refine lex.op (hC.box (cs := [.int .i64 a_0_0, .slice Aa_0_1 a_0_1.length ca_0_1]) rfl rfl) ?_
  rintro _ w5 ⟨g4, rfl, hC, hF, hG⟩
  clear hG
  refine lex.op (hC.box (cs := [.int .i64 b_1_0, .slice Ab_1_1 b_1_1.length cb_1_1]) rfl rfl) ?_
  rintro _ w8 ⟨g7, rfl, hC, hF, hG⟩
  clear hG
  refine lex.op (hC.alloc (cs := [.int .i64 0, .slice none 0 0]) Try.zeroValue24 rfl) ?_
  rintro _ w11 ⟨g10, rfl, hC, hF, hG⟩
  clear hG
  refine lex.pure (v := .int .i64 0) (pu_assign rfl) ?_
  refine lex.nil ?_
  refine hK3 _ _ ?_
  refine Wc.seq fun K13 hK13 => ?_
  refine Wc.seq fun K14 hK14 => ?_
  refine Wc.region (by decide +kernel) ?_
  refine lex.val (v := .agg #[.int .i64 a_0_0, .slice Aa_0_1 a_0_1.length ca_0_1]) (ld_blk (hC.bx (i := 2) rfl) Try.isAgg24 Try.sizeOf24 rfl) ?_
  obtain ⟨y15, h16, hb⟩ := bd hb
  refine lex.cl (⟨_, _, op_call (vs := [.agg #[.int .i64 a_0_0, .slice Aa_0_1 a_0_1.length ca_0_1]]) Try.call14 rfl rfl rfl, braid_Valid_ok n hC.lt ha_0_0 (hC.rd (i := 4) rfl) h16⟩) ?_
  rintro _ w17 ⟨rfl, hK⟩
  replace hC := hC.merge hK
  clear hK
  refine lex.pure (v := .bool (!y15)) (pu_not (q := y15) rfl) ?_
  refine lex.pure (v := .bool (!y15)) (pu_move rfl) ?_
  rcases bS (!y15) with hq18 | hq18
  · replace hb := (cT hq18).symm.trans hb
    refine lex.gskip (want_f rfl rfl (show _ = Value.bool (!y15) from rfl) hq18) ?_
    refine lex.gskip (want_f rfl rfl (show _ = Value.bool (!y15) from rfl) hq18) ?_
    refine lex.gskip (want_f rfl rfl (show _ = Value.bool (!y15) from rfl) hq18) ?_
    refine lex.pure (v := .bool true) (pu_pickT (q := (!y15)) rfl hq18 rfl) ?_
    refine lex.nil ?_
    refine hK14 _ _ ?_
    refine Wc.cond_true (rfl) ?_
    refine Wc.seq fun K19 hK19 => ?_
    refine Wc.region (by decide +kernel) ?_
    refine lex.pure (v := .agg #[.int .i64 0, .slice none 0 0]) (pu_builds (places := [(0, 1), (1, 1)]) (pv := []) Try.type24 Try.underlying24 rfl (mp_cons Try.type3 (mp_cons Try.type22 mp_nil rfl rfl) rfl rfl) rfl (by simp [Instr.fill, Value.cells])) ?_
    refine lex.sk (hC.seta (i := 0) (ds := [.int .i64 0, .slice none 0 0]) rfl Try.type24 rfl rfl rfl rfl rfl) ?_
    rintro w20 ⟨hC, hF⟩
    refine lex.pure (v := .int .i64 1) (pu_assign rfl) ?_
    refine lex.nil ?_
    refine hK19 _ _ ?_
    replace hC := hC.nil 3 (.int .i64)
    obtain rfl := Option.some.inj hb
    refine Wc.ret ?_
    refine hKR _ _ ?_
    refine ⟨_, res2 Try.results38 ⟨_, rfl, loadVar_blk (hC.bx (i := 1) rfl) Try.isAgg24 Try.sizeOf24⟩ (show RV _ _ _ (.tmp _) (.int .i64 1) from rfl), _, rfl, none, 0, 0, rfl, (show I64 0 from by unfold I64; omega), (show I64 1 from by unfold I64; omega), hC.sel [0] (by decide)⟩
  · replace hb := (cF hq18).symm.trans hb
    refine lex.gval (want_t rfl rfl (show _ = Value.bool (!y15) from rfl) hq18) (v := .agg #[.int .i64 b_1_0, .slice Ab_1_1 b_1_1.length cb_1_1]) (ld_blk (hC.bx (i := 1) rfl) Try.isAgg24 Try.sizeOf24 rfl) ?_
    obtain ⟨y22, h23, hb⟩ := bd hb
    refine lex.gcl (want_t rfl rfl (show _ = Value.bool (!y15) from rfl) hq18) (⟨_, _, op_call (vs := [.agg #[.int .i64 b_1_0, .slice Ab_1_1 b_1_1.length cb_1_1]]) Try.call14 rfl rfl rfl, braid_Valid_ok n hC.lt hb_1_0 (hC.rd (i := 3) rfl) h23⟩) ?_
    rintro _ w24 ⟨rfl, hK⟩
    replace hC := hC.merge hK
    clear hK
    refine lex.gpure (want_t rfl rfl (show _ = Value.bool (!y15) from rfl) hq18) (v := .bool (!y22)) (pu_not (q := y22) rfl) ?_
    refine lex.pure (v := .bool (!y22)) (pu_pickF (q := (!y15)) rfl hq18 rfl) ?_
    refine lex.nil ?_
    refine hK14 _ _ ?_
    refine Wc.fresh fun E25 hE => ?_
    have e2 : E25 2 = .pointer (some ⟨g4, 0, none⟩) := (congrFun hE 2).trans rfl
    have e3 : E25 3 = .pointer (some ⟨g7, 0, none⟩) := (congrFun hE 3).trans rfl
    have e4 : E25 4 = .pointer (some ⟨g10, 0, none⟩) := (congrFun hE 4).trans rfl
    have e5 : E25 5 = .int .i64 0 := (congrFun hE 5).trans rfl
    have e13 : E25 13 = .bool (!y22) := (congrFun hE 13).trans rfl
    clear hE
    refine Wc.cond (t := (!y22)) (e13) (fun hq26 => ?_) (fun hq26 => ?_)
    · replace hb := (cT hq26).symm.trans hb
      refine Wc.seq fun K27 hK27 => ?_
      refine Wc.region (by decide +kernel) ?_
      refine lex.pure (v := .agg #[.int .i64 0, .slice none 0 0]) (pu_builds (places := [(0, 1), (1, 1)]) (pv := []) Try.type24 Try.underlying24 rfl (mp_cons Try.type3 (mp_cons Try.type22 mp_nil rfl rfl) rfl rfl) rfl (by simp [Instr.fill, Value.cells])) ?_
      refine lex.sk (hC.seta (i := 0) (ds := [.int .i64 0, .slice none 0 0]) rfl Try.type24 rfl rfl rfl e4 rfl) ?_
      rintro w28 ⟨hC, hF⟩
      refine lex.pure (v := .int .i64 1) (pu_assign rfl) ?_
      refine lex.nil ?_
      refine hK27 _ _ ?_
      replace hC := hC.nil 3 (.int .i64)
      obtain rfl := Option.some.inj hb
      refine Wc.ret ?_
      refine hKR _ _ ?_
      refine ⟨_, res2 Try.results38 ⟨_, e4, loadVar_blk (hC.bx (i := 1) rfl) Try.isAgg24 Try.sizeOf24⟩ (show RV _ _ _ (.tmp _) (.int .i64 1) from rfl), _, rfl, none, 0, 0, rfl, (show I64 0 from by unfold I64; omega), (show I64 1 from by unfold I64; omega), hC.sel [0] (by decide)⟩
    · replace hb := (cF hq26).symm.trans hb
      refine Wc.skip ?_
      refine hK13 _ _ ?_
      refine Wc.seq fun K30 hK30 => ?_
      refine Wc.seq fun K31 hK31 => ?_
      refine Wc.region (by decide +kernel) ?_
      refine lex.pure (v := .pointer (some ((⟨g4, 0, none⟩ : Addr).add 0))) (pu_field (sz := 1) Try.underlying24 rfl Try.sizeOf3 (by decide) rfl e2) ?_
      refine lex.val (v := .int .i64 a_0_0) (ld_fld (hC.bx (i := 2) rfl) Try.isAgg3 rfl rfl) ?_
      refine lex.pure (v := .pointer (some ((⟨g7, 0, none⟩ : Addr).add 0))) (pu_field (sz := 1) Try.underlying24 rfl Try.sizeOf3 (by decide) rfl e3) ?_
      refine lex.val (v := .int .i64 b_1_0) (ld_fld (hC.bx (i := 1) rfl) Try.isAgg3 rfl rfl) ?_
      refine lex.pure (v := .bool (!(decide (a_0_0 = b_1_0)))) (pu_neq (k := .i64) (a := a_0_0) (b := b_1_0) rfl rfl) ?_
      refine lex.nil ?_
      refine hK31 _ _ ?_
      refine Wc.cond (t := (!(decide (a_0_0 = b_1_0)))) (rfl) (fun hq32 => ?_) (fun hq32 => ?_)
      · replace hb := (cT hq32).symm.trans hb
        refine Wc.seq fun K33 hK33 => ?_
        refine Wc.region (by decide +kernel) ?_
        refine lex.pure (v := .agg #[.int .i64 0, .slice none 0 0]) (pu_builds (places := [(0, 1), (1, 1)]) (pv := []) Try.type24 Try.underlying24 rfl (mp_cons Try.type3 (mp_cons Try.type22 mp_nil rfl rfl) rfl rfl) rfl (by simp [Instr.fill, Value.cells])) ?_
        refine lex.sk (hC.seta (i := 0) (ds := [.int .i64 0, .slice none 0 0]) rfl Try.type24 rfl rfl rfl e4 rfl) ?_
        rintro w34 ⟨hC, hF⟩
        refine lex.pure (v := .int .i64 2) (pu_assign rfl) ?_
        refine lex.nil ?_
        refine hK33 _ _ ?_
        replace hC := hC.nil 3 (.int .i64)
        obtain rfl := Option.some.inj hb
        refine Wc.ret ?_
        refine hKR _ _ ?_
        refine ⟨_, res2 Try.results38 ⟨_, e4, loadVar_blk (hC.bx (i := 1) rfl) Try.isAgg24 Try.sizeOf24⟩ (show RV _ _ _ (.tmp _) (.int .i64 2) from rfl), _, rfl, none, 0, 0, rfl, (show I64 0 from by unfold I64; omega), (show I64 2 from by unfold I64; omega), hC.sel [0] (by decide)⟩
      · replace hb := (cF hq32).symm.trans hb
        refine Wc.skip ?_
        refine hK30 _ _ ?_
        refine Wc.seq fun K36 hK36 => ?_
        refine Wc.seq fun K37 hK37 => ?_
        refine Wc.region (by decide +kernel) ?_
        refine lex.pure (v := .pointer (some ((⟨g4, 0, none⟩ : Addr).add 1))) (pu_field (sz := 1) Try.underlying24 rfl Try.sizeOf22 (by decide) rfl e2) ?_
        refine lex.val (v := .slice Aa_0_1 a_0_1.length ca_0_1) (ld_fld (hC.bx (i := 2) rfl) Try.isAgg22 rfl rfl) ?_
        refine lex.pure (v := .int .i64 (a_0_1.length : Int)) (pu_len (A := Aa_0_1) (n := a_0_1.length) (m := ca_0_1) Try.underlying22 rfl) ?_
        refine lex.pure (v := .pointer (some ((⟨g7, 0, none⟩ : Addr).add 1))) (pu_field (sz := 1) Try.underlying24 rfl Try.sizeOf22 (by decide) rfl e3) ?_
        refine lex.val (v := .slice Ab_1_1 b_1_1.length cb_1_1) (ld_fld (hC.bx (i := 1) rfl) Try.isAgg22 rfl rfl) ?_
        refine lex.pure (v := .int .i64 (b_1_1.length : Int)) (pu_len (A := Ab_1_1) (n := b_1_1.length) (m := cb_1_1) Try.underlying22 rfl) ?_
        obtain ⟨z38, h39, hb⟩ := bd hb
        refine lex.pure (v := .int .i64 z38) (pu_addc (a := (a_0_1.length : Int)) (b := (b_1_1.length : Int)) rfl rfl h39) ?_
        refine lex.pure (v := .bool (decide (200 < z38))) (pu_gtr (k := .i64) (a := z38) (b := 200) rfl rfl) ?_
        refine lex.nil ?_
        refine hK37 _ _ ?_
        refine Wc.fresh fun E40 hE => ?_
        have e2 : E40 2 = .pointer (some ⟨g4, 0, none⟩) := (congrFun hE 2).trans e2
        have e3 : E40 3 = .pointer (some ⟨g7, 0, none⟩) := (congrFun hE 3).trans e3
        have e4 : E40 4 = .pointer (some ⟨g10, 0, none⟩) := (congrFun hE 4).trans e4
        have e5 : E40 5 = .int .i64 0 := (congrFun hE 5).trans e5
        have e28 : E40 28 = .bool (decide (200 < z38)) := (congrFun hE 28).trans rfl
        clear hE
        refine Wc.cond (t := (decide (200 < z38))) (e28) (fun hq41 => ?_) (fun hq41 => ?_)
        · replace hb := (cT hq41).symm.trans hb
          refine Wc.seq fun K42 hK42 => ?_
          refine Wc.region (by decide +kernel) ?_
          refine lex.pure (v := .agg #[.int .i64 0, .slice none 0 0]) (pu_builds (places := [(0, 1), (1, 1)]) (pv := []) Try.type24 Try.underlying24 rfl (mp_cons Try.type3 (mp_cons Try.type22 mp_nil rfl rfl) rfl rfl) rfl (by simp [Instr.fill, Value.cells])) ?_
          refine lex.sk (hC.seta (i := 0) (ds := [.int .i64 0, .slice none 0 0]) rfl Try.type24 rfl rfl rfl e4 rfl) ?_
          rintro w43 ⟨hC, hF⟩
          refine lex.pure (v := .int .i64 5) (pu_assign rfl) ?_
          refine lex.nil ?_
          refine hK42 _ _ ?_
          replace hC := hC.nil 3 (.int .i64)
          obtain rfl := Option.some.inj hb
          refine Wc.ret ?_
          refine hKR _ _ ?_
          refine ⟨_, res2 Try.results38 ⟨_, e4, loadVar_blk (hC.bx (i := 1) rfl) Try.isAgg24 Try.sizeOf24⟩ (show RV _ _ _ (.tmp _) (.int .i64 5) from rfl), _, rfl, none, 0, 0, rfl, (show I64 0 from by unfold I64; omega), (show I64 5 from by unfold I64; omega), hC.sel [0] (by decide)⟩
        · replace hb := (cF hq41).symm.trans hb
          refine Wc.skip ?_
          refine hK36 _ _ ?_
          refine Wc.seq fun K45 hK45 => ?_
          refine Wc.regionMix [31, 33, 35] (frm [31, 33, 35] ([] : List Fact) [.box g10 24 [.int .i64 0, .slice none 0 0]]) (fun _ => rfl) mixed (by decide +kernel) (by decide +kernel) fun w47 hw46 => ?_
          replace hC := hC.step (Fr.of_drew hw46)
          have hM := Fr.refl (fun k => k ∈ blocks ([] : List Fact)) w47
          clear hw46
          have hS := hC
          have hD : Fr (fun k => k ∈ blocks (([] : List Fact) ++ [.box g10 24 [.int .i64 0, .slice none 0 0]])) w47 w47 := hM.wide
          have hUf12 : g10 < w47.heap.size → g10 ∈ blocks (([] : List Fact) ++ [.box g10 24 [.int .i64 0, .slice none 0 0]]) := fun _ => box_in (i := 0) rfl
          refine mixE.pure (v := .pointer (some ((⟨g4, 0, none⟩ : Addr).add 0))) (pu_field (sz := 1) Try.underlying24 rfl Try.sizeOf3 (by decide) rfl e2) ?_
          refine mixE.steady hD (v := .int .i64 a_0_0) (fun _ hF => ld_fld (hS.bx2 (i := 2) rfl [0] (by decide) hF) Try.isAgg3 rfl rfl) ?_
          refine mixE.pure (v := .pointer (some ((⟨g4, 0, none⟩ : Addr).add 1))) (pu_field (sz := 1) Try.underlying24 rfl Try.sizeOf22 (by decide) rfl e2) ?_
          refine mixE.steady hD (v := .slice Aa_0_1 a_0_1.length ca_0_1) (fun _ hF => ld_fld (hS.bx2 (i := 2) rfl [0] (by decide) hF) Try.isAgg22 rfl rfl) ?_
          refine mixE.pure (v := .pointer (some ((⟨g7, 0, none⟩ : Addr).add 1))) (pu_field (sz := 1) Try.underlying24 rfl Try.sizeOf22 (by decide) rfl e3) ?_
          refine mixE.steady hD (v := .slice Ab_1_1 b_1_1.length cb_1_1) (fun _ hF => ld_fld (hS.bx2 (i := 1) rfl [0] (by decide) hF) Try.isAgg22 rfl rfl) ?_
          refine mixE.op hM (hC.lit (s := (.sl (.int .i64))) (vs := [.slice Aa_0_1 a_0_1.length ca_0_1, .slice Ab_1_1 b_1_1.length cb_1_1]) (xs := [a_0_1, b_1_1]) Try.underlying35 Try.type22 rfl rfl (Nat.le_of_ble_eq_true rfl) rfl rfl (by simp [Value.cells, Sh.n]) rfl (show Elems _ _ (.sl (.int .i64)) ([.slice Aa_0_1 a_0_1.length ca_0_1] ++ ([.slice Ab_1_1 b_1_1.length cb_1_1] ++ ([]))) ([a_0_1, b_1_1] : List (List Int)) from Elems.cons (hC.rd (i := 4) rfl) (Elems.cons (hC.rd (i := 3) rfl) (Elems.nil _ _ _)))) ?_
          rintro _ w52 ⟨A48, c49, rfl, hl50, hc51, hC, hF, hN⟩
          have hBf53 := Beside.new hM hN
          have hUf53 := Beside.new (hM.wide (H := [.box g10 24 [.int .i64 0, .slice none 0 0]])) hN
          replace hM := hM.none hF
          replace hD := hM.wide (H := [.box g10 24 [.int .i64 0, .slice none 0 0]])
          refine ⟨hM, ?_⟩
          clear hF hN
          obtain ⟨y54, h55, hb⟩ := bd hb
          refine mixE.cl hM (⟨_, _, op_call (vs := [.slice A48 ((([a_0_1, b_1_1] : List (List Int))).length) c49]) Try.call22 rfl rfl rfl, slices_Concat_Lint_int_ok n (hC.lentLt [.slice A48 ((([a_0_1, b_1_1] : List (List Int))).length) c49]) ((hC.ow (i := 0) rfl).lend (vs := [.slice A48 ((([a_0_1, b_1_1] : List (List Int))).length) c49]) (by simp)) h55⟩) ?_
          rintro _ w60 ⟨A56, m57, c58, rfl, hK⟩
          replace hM := hM.none hK.fr
          replace hD := hM.wide (H := [.box g10 24 [.int .i64 0, .slice none 0 0]])
          refine ⟨hM, ?_⟩
          replace hC := hC.mergeF hK rfl
          clear hK
          obtain ⟨rfl, hl61, hc62⟩ := (hC.ow (i := 0) rfl).sl_len
          refine mixE.pure (v := .agg #[.int .i64 a_0_0, .slice A56 y54.length c58]) (pu_builds (places := [(0, 1), (1, 1)]) (pv := [(0, .int .i64 a_0_0), (1, .slice A56 y54.length c58)]) Try.type24 Try.underlying24 rfl (mp_cons Try.type3 (mp_cons Try.type22 mp_nil rfl rfl) rfl rfl) rfl (by simp [Instr.fill, Value.cells])) ?_
          refine mixE.sk hD (hC.seta (i := 2) (ds := [.int .i64 a_0_0, .slice A56 y54.length c58]) rfl Try.type24 rfl rfl rfl e4 rfl) ?_
          rintro w63 ⟨hC, hF⟩
          replace hD := hD.besideG hUf12 hF
          clear hF
          refine ⟨hD, ?_⟩
          refine mixE.pure (v := .int .i64 0) (pu_assign rfl) ?_
          refine mixE.nil ?_
          clear hS hM
          clear hD
          refine hK45 _ _ ?_
          obtain rfl := Option.some.inj hb
          refine Wc.ret ?_
          refine hKR _ _ ?_
          refine ⟨_, res2 Try.results38 ⟨_, e4, loadVar_blk (hC.bx (i := 2) rfl) Try.isAgg24 Try.sizeOf24⟩ (show RV _ _ _ (.tmp _) (.int .i64 0) from rfl), _, rfl, A56, y54.length, c58, rfl, ha_0_0, (show I64 0 from by unfold I64; omega), hC.sel [0] (by decide)⟩

set_option maxRecDepth 100000 in
set_option maxHeartbeats 4000000 in
theorem law34_GarsideInverse_ok (n : Nat) {w : World} {O0 : List Nat} (hO : ∀ k ∈ O0, k < w.heap.size) {b_0_0 : Int} (hb_0_0 : I64 b_0_0) {Ab_0_1 : Option Addr} {mb_0_1 cb_0_1 : Nat} {b_0_1 : List Int} (hb_0_1 : Rep O0 w (.sl (.int .i64)) [.slice Ab_0_1 mb_0_1 cb_0_1] b_0_1) {r : Bool} (hb : F.law34_GarsideInverse n b_0_0 b_0_1 = some r) :
    Calls Try.prog 10 #[.agg #[.int .i64 b_0_0, .slice Ab_0_1 mb_0_1 cb_0_1]] w fun e w' => ∃ v, e = .returned v ∧ v = .bool r ∧ Cx (fun _ => False) O0 w w' [] := by
  unfold F.law34_GarsideInverse at hb
  have hC := Cx.start hO
  replace hC := hC.arg rfl hb_0_1
  clear hO
  obtain ⟨rfl, hlb_0_1, hcb_0_1⟩ := hb_0_1.sl_len
  refine calls_of_Wc Try.func10 rfl (by rw [Try.ntmps10]; exact Nat.le_of_ble_eq_true rfl) fun KR hKR => ?_
  refine Wc.seq fun K2 hK2 => ?_
  refine Wc.region (by decide +kernel) ?_
  refine lex.op (hC.box (cs := [.int .i64 b_0_0, .slice Ab_0_1 b_0_1.length cb_0_1]) rfl rfl) ?_
  rintro _ w4 ⟨g3, rfl, hC, hF, hG⟩
  clear hG
  refine lex.pure (v := .bool false) (pu_assign rfl) ?_
  refine lex.nil ?_
  refine hK2 _ _ ?_
  refine Wc.seq fun K6 hK6 => ?_
  refine Wc.seq fun K7 hK7 => ?_
  refine Wc.region (by decide +kernel) ?_
  obtain ⟨y8, h9, hb⟩ := bd hb
  refine lex.cl (⟨_, _, op_call (vs := []) Try.call12 rfl rfl rfl, law34_awake_ok n hC.lt  h9⟩) ?_
  rintro _ w10 ⟨rfl, hK⟩
  replace hC := hC.merge hK
  clear hK
  refine lex.pure (v := .bool (!y8)) (pu_not (q := y8) rfl) ?_
  refine lex.pure (v := .bool (!y8)) (pu_move rfl) ?_
  rcases bS (!y8) with hq11 | hq11
  · replace hb := (cT hq11).symm.trans hb
    refine lex.gskip (want_f rfl rfl (show _ = Value.bool (!y8) from rfl) hq11) ?_
    refine lex.gskip (want_f rfl rfl (show _ = Value.bool (!y8) from rfl) hq11) ?_
    refine lex.gskip (want_f rfl rfl (show _ = Value.bool (!y8) from rfl) hq11) ?_
    refine lex.gskip (want_f rfl rfl (show _ = Value.bool (!y8) from rfl) hq11) ?_
    refine lex.pure (v := .bool true) (pu_pickT (q := (!y8)) rfl hq11 rfl) ?_
    refine lex.pure (v := .bool true) (pu_move rfl) ?_
    refine lex.gskip (want_f rfl rfl (show _ = Value.bool true from rfl) rfl) ?_
    refine lex.gskip (want_f rfl rfl (show _ = Value.bool true from rfl) rfl) ?_
    refine lex.gskip (want_f rfl rfl (show _ = Value.bool true from rfl) rfl) ?_
    refine lex.pure (v := .bool true) (pu_pickT (q := true) rfl rfl rfl) ?_
    refine lex.nil ?_
    refine hK7 _ _ ?_
    refine Wc.cond_true (rfl) ?_
    refine Wc.seq fun K12 hK12 => ?_
    refine Wc.region (by decide +kernel) ?_
    obtain ⟨y13, h14, hb⟩ := bd hb
    refine lex.cl (⟨_, _, op_call (vs := []) Try.call12 rfl rfl rfl, law34_awake_ok n hC.lt  h14⟩) ?_
    rintro _ w15 ⟨rfl, hK⟩
    replace hC := hC.merge hK
    clear hK
    refine lex.pure (v := .bool y13) (pu_assign rfl) ?_
    refine lex.nil ?_
    refine hK12 _ _ ?_
    obtain rfl := Option.some.inj hb
    refine Wc.ret ?_
    refine hKR _ _ ?_
    refine ⟨_, res1 Try.results10 (show RV _ _ _ (.tmp _) (.bool y13) from rfl), _, rfl, rfl, hC.sel [] (by decide)⟩
  · replace hb := (cF hq11).symm.trans hb
    refine lex.gpure (want_t rfl rfl (show _ = Value.bool (!y8) from rfl) hq11) (v := .pointer (some ((⟨g3, 0, none⟩ : Addr).add 1))) (pu_field (sz := 1) Try.underlying24 rfl Try.sizeOf22 (by decide) rfl rfl) ?_
    refine lex.gval (want_t rfl rfl (show _ = Value.bool (!y8) from rfl) hq11) (v := .slice Ab_0_1 b_0_1.length cb_0_1) (ld_fld (hC.bx (i := 0) rfl) Try.isAgg22 rfl rfl) ?_
    refine lex.gpure (want_t rfl rfl (show _ = Value.bool (!y8) from rfl) hq11) (v := .int .i64 (b_0_1.length : Int)) (pu_len (A := Ab_0_1) (n := b_0_1.length) (m := cb_0_1) Try.underlying22 rfl) ?_
    refine lex.gpure (want_t rfl rfl (show _ = Value.bool (!y8) from rfl) hq11) (v := .bool (decide (40 < (b_0_1.length : Int)))) (pu_gtr (k := .i64) (a := (b_0_1.length : Int)) (b := 40) rfl rfl) ?_
    refine lex.pure (v := .bool (decide (40 < (b_0_1.length : Int)))) (pu_pickF (q := (!y8)) rfl hq11 rfl) ?_
    refine lex.pure (v := .bool (decide (40 < (b_0_1.length : Int)))) (pu_move rfl) ?_
    rcases bS (decide (40 < (b_0_1.length : Int))) with hq16 | hq16
    · replace hb := (cT hq16).symm.trans hb
      refine lex.gskip (want_f rfl rfl (show _ = Value.bool (decide (40 < (b_0_1.length : Int))) from rfl) hq16) ?_
      refine lex.gskip (want_f rfl rfl (show _ = Value.bool (decide (40 < (b_0_1.length : Int))) from rfl) hq16) ?_
      refine lex.gskip (want_f rfl rfl (show _ = Value.bool (decide (40 < (b_0_1.length : Int))) from rfl) hq16) ?_
      refine lex.pure (v := .bool true) (pu_pickT (q := (decide (40 < (b_0_1.length : Int)))) rfl hq16 rfl) ?_
      refine lex.nil ?_
      refine hK7 _ _ ?_
      refine Wc.fresh fun E17 hE => ?_
      have e1 : E17 1 = .pointer (some ⟨g3, 0, none⟩) := (congrFun hE 1).trans rfl
      have e2 : E17 2 = .bool false := (congrFun hE 2).trans rfl
      have e28 : E17 28 = .bool true := (congrFun hE 28).trans rfl
      clear hE
      refine Wc.cond_true (e28) ?_
      refine Wc.seq fun K18 hK18 => ?_
      refine Wc.region (by decide +kernel) ?_
      obtain ⟨y19, h20, hb⟩ := bd hb
      refine lex.cl (⟨_, _, op_call (vs := []) Try.call12 rfl rfl rfl, law34_awake_ok n hC.lt  h20⟩) ?_
      rintro _ w21 ⟨rfl, hK⟩
      replace hC := hC.merge hK
      clear hK
      refine lex.pure (v := .bool y19) (pu_assign rfl) ?_
      refine lex.nil ?_
      refine hK18 _ _ ?_
      obtain rfl := Option.some.inj hb
      refine Wc.ret ?_
      refine hKR _ _ ?_
      refine ⟨_, res1 Try.results10 (show RV _ _ _ (.tmp _) (.bool y19) from rfl), _, rfl, rfl, hC.sel [] (by decide)⟩
    · replace hb := (cF hq16).symm.trans hb
      refine lex.gval (want_t rfl rfl (show _ = Value.bool (decide (40 < (b_0_1.length : Int))) from rfl) hq16) (v := .agg #[.int .i64 b_0_0, .slice Ab_0_1 b_0_1.length cb_0_1]) (ld_blk (hC.bx (i := 0) rfl) Try.isAgg24 Try.sizeOf24 rfl) ?_
      obtain ⟨y22, h23, hb⟩ := bd hb
      refine lex.gcl (want_t rfl rfl (show _ = Value.bool (decide (40 < (b_0_1.length : Int))) from rfl) hq16) (⟨_, _, op_call (vs := [.agg #[.int .i64 b_0_0, .slice Ab_0_1 b_0_1.length cb_0_1]]) Try.call14 rfl rfl rfl, braid_Valid_ok n hC.lt hb_0_0 (hC.rd (i := 1) rfl) h23⟩) ?_
      rintro _ w24 ⟨rfl, hK⟩
      replace hC := hC.merge hK
      clear hK
      refine lex.gpure (want_t rfl rfl (show _ = Value.bool (decide (40 < (b_0_1.length : Int))) from rfl) hq16) (v := .bool (!y22)) (pu_not (q := y22) rfl) ?_
      refine lex.pure (v := .bool (!y22)) (pu_pickF (q := (decide (40 < (b_0_1.length : Int)))) rfl hq16 rfl) ?_
      refine lex.nil ?_
      refine hK7 _ _ ?_
      refine Wc.fresh fun E25 hE => ?_
      have e1 : E25 1 = .pointer (some ⟨g3, 0, none⟩) := (congrFun hE 1).trans rfl
      have e2 : E25 2 = .bool false := (congrFun hE 2).trans rfl
      have e28 : E25 28 = .bool (!y22) := (congrFun hE 28).trans rfl
      clear hE
      refine Wc.cond (t := (!y22)) (e28) (fun hq26 => ?_) (fun hq26 => ?_)
      · replace hb := (cT hq26).symm.trans hb
        refine Wc.seq fun K27 hK27 => ?_
        refine Wc.region (by decide +kernel) ?_
        obtain ⟨y28, h29, hb⟩ := bd hb
        refine lex.cl (⟨_, _, op_call (vs := []) Try.call12 rfl rfl rfl, law34_awake_ok n hC.lt  h29⟩) ?_
        rintro _ w30 ⟨rfl, hK⟩
        replace hC := hC.merge hK
        clear hK
        refine lex.pure (v := .bool y28) (pu_assign rfl) ?_
        refine lex.nil ?_
        refine hK27 _ _ ?_
        obtain rfl := Option.some.inj hb
        refine Wc.ret ?_
        refine hKR _ _ ?_
        refine ⟨_, res1 Try.results10 (show RV _ _ _ (.tmp _) (.bool y28) from rfl), _, rfl, rfl, hC.sel [] (by decide)⟩
      · replace hb := (cF hq26).symm.trans hb
        refine Wc.skip ?_
        refine hK6 _ _ ?_
        refine Wc.seq fun K31 hK31 => ?_
        refine Wc.region (by decide +kernel) ?_
        refine lex.val (v := .agg #[.int .i64 b_0_0, .slice Ab_0_1 b_0_1.length cb_0_1]) (ld_blk (hC.bx (i := 0) rfl) Try.isAgg24 Try.sizeOf24 e1) ?_
        obtain ⟨y32, h33, hb⟩ := bd hb
        refine lex.cl (⟨_, _, op_call (vs := [.agg #[.int .i64 b_0_0, .slice Ab_0_1 b_0_1.length cb_0_1]]) Try.call37 rfl rfl rfl, braid_Inverse_ok n hC.lt hb_0_0 (hC.rd (i := 1) rfl) h33⟩) ?_
        rintro _ w39 ⟨A35, m36, c37, rfl, hr34, hK⟩
        replace hC := hC.merge hK
        clear hK
        obtain ⟨rfl, hl40, hc41⟩ := (hC.ow (i := 0) rfl).sl_len
        refine lex.op (hC.alloc (cs := [.int .i64 0, .slice none 0 0]) Try.zeroValue24 rfl) ?_
        rintro _ w43 ⟨g42, rfl, hC, hF, hG⟩
        clear hG
        refine lex.sk (hC.seta (i := 0) (ds := [.int .i64 y32.1, .slice A35 y32.2.length c37]) rfl Try.type24 rfl rfl rfl rfl rfl) ?_
        rintro w45 ⟨hC, hF⟩
        refine lex.nil ?_
        refine hK31 _ _ ?_
        refine Wc.seq fun K46 hK46 => ?_
        refine Wc.region (by decide +kernel) ?_
        refine lex.val (v := .agg #[.int .i64 b_0_0, .slice Ab_0_1 b_0_1.length cb_0_1]) (ld_blk (hC.bx (i := 2) rfl) Try.isAgg24 Try.sizeOf24 e1) ?_
        refine lex.val (v := .agg #[.int .i64 y32.1, .slice A35 y32.2.length c37]) (ld_blk (hC.bx (i := 0) rfl) Try.isAgg24 Try.sizeOf24 rfl) ?_
        obtain ⟨y47, h48, hb⟩ := bd hb
        refine lex.cl (⟨_, _, op_call (vs := [.agg #[.int .i64 b_0_0, .slice Ab_0_1 b_0_1.length cb_0_1], .agg #[.int .i64 y32.1, .slice A35 y32.2.length c37]]) Try.call38 rfl rfl rfl, braid_Mul_ok n (hC.lentLt [.slice A35 y32.2.length c37]) hb_0_0 ((hC.rd (i := 3) rfl).lent [.slice A35 y32.2.length c37]) hr34 ((hC.ow (i := 1) rfl).lend (vs := [.slice A35 y32.2.length c37]) (by simp)) h48⟩) ?_
        rintro _ w55 ⟨A50, m51, c52, rfl, hr49, hr54, hK⟩
        replace hC := hC.mergeF hK rfl
        clear hK
        obtain ⟨rfl, hl56, hc57⟩ := (hC.ow (i := 0) rfl).sl_len
        refine lex.pure (v := .tuple #[.agg #[.int .i64 y47.1, .slice A50 y47.2.1.length c52], .int .i64 y47.2.2]) (pu_move rfl) ?_
        refine lex.pure (v := .agg #[.int .i64 y47.1, .slice A50 y47.2.1.length c52]) (pu_extract rfl rfl) ?_
        refine lex.pure (v := .int .i64 y47.2.2) (pu_extract rfl rfl) ?_
        refine lex.op (hC.alloc (cs := [.int .i64 0, .slice none 0 0]) Try.zeroValue24 rfl) ?_
        rintro _ w59 ⟨g58, rfl, hC, hF, hG⟩
        clear hG
        refine lex.sk (hC.seta (i := 0) (ds := [.int .i64 y47.1, .slice A50 y47.2.1.length c52]) rfl Try.type24 rfl rfl rfl rfl rfl) ?_
        rintro w61 ⟨hC, hF⟩
        refine lex.pure (v := .int .i64 y47.2.2) (pu_assign rfl) ?_
        refine lex.nil ?_
        refine hK46 _ _ ?_
        refine Wc.fresh fun E62 hE => ?_
        have e1 : E62 1 = .pointer (some ⟨g3, 0, none⟩) := (congrFun hE 1).trans e1
        have e2 : E62 2 = .bool false := (congrFun hE 2).trans e2
        have e3 : E62 3 = .pointer (some ⟨g42, 0, none⟩) := (congrFun hE 3).trans rfl
        have e4 : E62 4 = .pointer (some ⟨g58, 0, none⟩) := (congrFun hE 4).trans rfl
        have e5 : E62 5 = .int .i64 y47.2.2 := (congrFun hE 5).trans rfl
        clear hE
        refine Wc.seq fun K63 hK63 => ?_
        refine Wc.region (by decide +kernel) ?_
        refine lex.val (v := .agg #[.int .i64 y47.1, .slice A50 y47.2.1.length c52]) (ld_blk (hC.bx (i := 0) rfl) Try.isAgg24 Try.sizeOf24 e4) ?_
        replace hC := hC.freeze (i := 1) rfl (hC.own_new (i := 1) rfl)
        obtain ⟨y64, h65, hb⟩ := bd hb
        refine lex.cl (⟨_, _, op_call (vs := [.agg #[.int .i64 y47.1, .slice A50 y47.2.1.length c52]]) Try.call13 rfl rfl rfl, garside_Form_ok n hC.lt hr49 (hC.rd (i := 1) rfl) h65⟩) ?_
        rintro _ w73 ⟨A68, m69, c70, rfl, hr66, hr67, hr72, hK⟩
        replace hC := hC.merge hK
        clear hK
        obtain ⟨rfl, hl74, hc75⟩ := (hC.rd (i := 0) rfl).sl_len
        refine lex.pure (v := .tuple #[.agg #[.int .i64 y64.1, .int .i64 y64.2.1, .slice A68 y64.2.2.1.length c70], .int .i64 y64.2.2.2]) (pu_move rfl) ?_
        refine lex.pure (v := .agg #[.int .i64 y64.1, .int .i64 y64.2.1, .slice A68 y64.2.2.1.length c70]) (pu_extract rfl rfl) ?_
        refine lex.pure (v := .int .i64 y64.2.2.2) (pu_extract rfl rfl) ?_
        refine lex.op (hC.alloc (cs := [.int .i64 0, .int .i64 0, .slice none 0 0]) Try.zeroValue28 rfl) ?_
        rintro _ w77 ⟨g76, rfl, hC, hF, hG⟩
        clear hG
        refine lex.sk (hC.seta (i := 0) (ds := [.int .i64 y64.1, .int .i64 y64.2.1, .slice A68 y64.2.2.1.length c70]) rfl Try.type28 rfl rfl rfl rfl rfl) ?_
        rintro w79 ⟨hC, hF⟩
        refine lex.pure (v := .int .i64 y64.2.2.2) (pu_assign rfl) ?_
        refine lex.nil ?_
        refine hK63 _ _ ?_
        refine Wc.seq fun K80 hK80 => ?_
        refine Wc.region (by decide +kernel) ?_
        refine lex.val (v := .agg #[.int .i64 b_0_0, .slice Ab_0_1 b_0_1.length cb_0_1]) (ld_blk (hC.bx (i := 6) rfl) Try.isAgg24 Try.sizeOf24 e1) ?_
        obtain ⟨y81, h82, hb⟩ := bd hb
        refine lex.cl (⟨_, _, op_call (vs := [.agg #[.int .i64 b_0_0, .slice Ab_0_1 b_0_1.length cb_0_1]]) Try.call13 rfl rfl rfl, garside_Form_ok n hC.lt hb_0_0 (hC.rd (i := 7) rfl) h82⟩) ?_
        rintro _ w90 ⟨A85, m86, c87, rfl, hr83, hr84, hr89, hK⟩
        replace hC := hC.merge hK
        clear hK
        obtain ⟨rfl, hl91, hc92⟩ := (hC.rd (i := 0) rfl).sl_len
        refine lex.pure (v := .tuple #[.agg #[.int .i64 y81.1, .int .i64 y81.2.1, .slice A85 y81.2.2.1.length c87], .int .i64 y81.2.2.2]) (pu_move rfl) ?_
        refine lex.pure (v := .agg #[.int .i64 y81.1, .int .i64 y81.2.1, .slice A85 y81.2.2.1.length c87]) (pu_extract rfl rfl) ?_
        refine lex.pure (v := .int .i64 y81.2.2.2) (pu_extract rfl rfl) ?_
        refine lex.op (hC.alloc (cs := [.int .i64 0, .int .i64 0, .slice none 0 0]) Try.zeroValue28 rfl) ?_
        rintro _ w94 ⟨g93, rfl, hC, hF, hG⟩
        clear hG
        refine lex.sk (hC.seta (i := 0) (ds := [.int .i64 y81.1, .int .i64 y81.2.1, .slice A85 y81.2.2.1.length c87]) rfl Try.type28 rfl rfl rfl rfl rfl) ?_
        rintro w96 ⟨hC, hF⟩
        refine lex.pure (v := .int .i64 y81.2.2.2) (pu_assign rfl) ?_
        refine lex.nil ?_
        refine hK80 _ _ ?_
        refine Wc.fresh fun E97 hE => ?_
        have e2 : E97 2 = .bool false := (congrFun hE 2).trans e2
        have e3 : E97 3 = .pointer (some ⟨g42, 0, none⟩) := (congrFun hE 3).trans e3
        have e5 : E97 5 = .int .i64 y47.2.2 := (congrFun hE 5).trans e5
        have e6 : E97 6 = .pointer (some ⟨g76, 0, none⟩) := (congrFun hE 6).trans rfl
        have e7 : E97 7 = .int .i64 y64.2.2.2 := (congrFun hE 7).trans rfl
        have e8 : E97 8 = .pointer (some ⟨g93, 0, none⟩) := (congrFun hE 8).trans rfl
        have e9 : E97 9 = .int .i64 y81.2.2.2 := (congrFun hE 9).trans rfl
        clear hE
        refine Wc.seq fun K98 hK98 => ?_
        refine Wc.region (by decide +kernel) ?_
        refine lex.val (v := .agg #[.int .i64 y32.1, .slice A35 y32.2.length c37]) (ld_blk (hC.bx (i := 6) rfl) Try.isAgg24 Try.sizeOf24 e3) ?_
        replace hC := hC.freeze (i := 7) rfl (hC.own_new (i := 7) rfl)
        obtain ⟨y99, h100, hb⟩ := bd hb
        refine lex.cl (⟨_, _, op_call (vs := [.agg #[.int .i64 y32.1, .slice A35 y32.2.length c37]]) Try.call13 rfl rfl rfl, garside_Form_ok n hC.lt hr34 (hC.rd (i := 7) rfl) h100⟩) ?_
        rintro _ w108 ⟨A103, m104, c105, rfl, hr101, hr102, hr107, hK⟩
        replace hC := hC.merge hK
        clear hK
        obtain ⟨rfl, hl109, hc110⟩ := (hC.rd (i := 0) rfl).sl_len
        refine lex.pure (v := .tuple #[.agg #[.int .i64 y99.1, .int .i64 y99.2.1, .slice A103 y99.2.2.1.length c105], .int .i64 y99.2.2.2]) (pu_move rfl) ?_
        refine lex.pure (v := .agg #[.int .i64 y99.1, .int .i64 y99.2.1, .slice A103 y99.2.2.1.length c105]) (pu_extract rfl rfl) ?_
        refine lex.pure (v := .int .i64 y99.2.2.2) (pu_extract rfl rfl) ?_
        refine lex.op (hC.alloc (cs := [.int .i64 0, .int .i64 0, .slice none 0 0]) Try.zeroValue28 rfl) ?_
        rintro _ w112 ⟨g111, rfl, hC, hF, hG⟩
        clear hG
        refine lex.sk (hC.seta (i := 0) (ds := [.int .i64 y99.1, .int .i64 y99.2.1, .slice A103 y99.2.2.1.length c105]) rfl Try.type28 rfl rfl rfl rfl rfl) ?_
        rintro w114 ⟨hC, hF⟩
        refine lex.pure (v := .int .i64 y99.2.2.2) (pu_assign rfl) ?_
        refine lex.nil ?_
        refine hK98 _ _ ?_
        refine Wc.seq fun K115 hK115 => ?_
        refine Wc.region (by decide +kernel) ?_
        refine lex.val (v := .agg #[.int .i64 y81.1, .int .i64 y81.2.1, .slice A85 y81.2.2.1.length c87]) (ld_blk (hC.bx (i := 2) rfl) Try.isAgg28 Try.sizeOf28 e8) ?_
        obtain ⟨y116, h117, hb⟩ := bd hb
        refine lex.cl (⟨_, _, op_call (vs := [.agg #[.int .i64 y81.1, .int .i64 y81.2.1, .slice A85 y81.2.2.1.length c87]]) Try.call34 rfl rfl rfl, garside_Canonical_ok n hC.lt hr83 hr84 (hC.rd (i := 3) rfl) h117⟩) ?_
        rintro _ w120 ⟨rfl, hr118, hr119, hK⟩
        replace hC := hC.merge hK
        clear hK
        refine lex.pure (v := .tuple #[.int .i64 y116.1, .int .i64 y116.2]) (pu_move rfl) ?_
        refine lex.pure (v := .int .i64 y116.1) (pu_extract rfl rfl) ?_
        refine lex.pure (v := .int .i64 y116.2) (pu_extract rfl rfl) ?_
        refine lex.pure (v := .int .i64 y116.1) (pu_assign rfl) ?_
        refine lex.pure (v := .int .i64 y116.2) (pu_assign rfl) ?_
        refine lex.nil ?_
        refine hK115 _ _ ?_
        refine Wc.fresh fun E121 hE => ?_
        have e2 : E121 2 = .bool false := (congrFun hE 2).trans e2
        have e5 : E121 5 = .int .i64 y47.2.2 := (congrFun hE 5).trans e5
        have e6 : E121 6 = .pointer (some ⟨g76, 0, none⟩) := (congrFun hE 6).trans e6
        have e7 : E121 7 = .int .i64 y64.2.2.2 := (congrFun hE 7).trans e7
        have e9 : E121 9 = .int .i64 y81.2.2.2 := (congrFun hE 9).trans e9
        have e10 : E121 10 = .pointer (some ⟨g111, 0, none⟩) := (congrFun hE 10).trans rfl
        have e11 : E121 11 = .int .i64 y99.2.2.2 := (congrFun hE 11).trans rfl
        have e12 : E121 12 = .int .i64 y116.1 := (congrFun hE 12).trans rfl
        have e13 : E121 13 = .int .i64 y116.2 := (congrFun hE 13).trans rfl
        clear hE
        refine Wc.seq fun K122 hK122 => ?_
        refine Wc.region (by decide +kernel) ?_
        refine lex.val (v := .agg #[.int .i64 y99.1, .int .i64 y99.2.1, .slice A103 y99.2.2.1.length c105]) (ld_blk (hC.bx (i := 0) rfl) Try.isAgg28 Try.sizeOf28 e10) ?_
        obtain ⟨y123, h124, hb⟩ := bd hb
        refine lex.cl (⟨_, _, op_call (vs := [.agg #[.int .i64 y99.1, .int .i64 y99.2.1, .slice A103 y99.2.2.1.length c105]]) Try.call34 rfl rfl rfl, garside_Canonical_ok n hC.lt hr101 hr102 (hC.rd (i := 1) rfl) h124⟩) ?_
        rintro _ w127 ⟨rfl, hr125, hr126, hK⟩
        replace hC := hC.merge hK
        clear hK
        refine lex.pure (v := .tuple #[.int .i64 y123.1, .int .i64 y123.2]) (pu_move rfl) ?_
        refine lex.pure (v := .int .i64 y123.1) (pu_extract rfl rfl) ?_
        refine lex.pure (v := .int .i64 y123.2) (pu_extract rfl rfl) ?_
        refine lex.pure (v := .int .i64 y123.1) (pu_assign rfl) ?_
        refine lex.pure (v := .int .i64 y123.2) (pu_assign rfl) ?_
        refine lex.nil ?_
        refine hK122 _ _ ?_
        refine Wc.seq fun K128 hK128 => ?_
        refine Wc.region (by decide +kernel) ?_
        refine lex.pure (v := .int .i64 y47.2.2) (pu_move e5) ?_
        refine lex.pure (v := .bool (decide (y47.2.2 = 0))) (pu_eql (k := .i64) (a := y47.2.2) (b := 0) rfl rfl) ?_
        refine lex.pure (v := .bool (decide (y47.2.2 = 0))) (pu_move rfl) ?_
        rcases bS (decide (y47.2.2 = 0)) with hq129 | hq129
        · replace hb := (cT hq129).symm.trans hb
          refine lex.gpure (want_t rfl rfl (show _ = Value.bool (decide (y47.2.2 = 0)) from rfl) hq129) (v := .int .i64 y64.2.2.2) (pu_move e7) ?_
          refine lex.gpure (want_t rfl rfl (show _ = Value.bool (decide (y47.2.2 = 0)) from rfl) hq129) (v := .bool (decide (y64.2.2.2 = 0))) (pu_eql (k := .i64) (a := y64.2.2.2) (b := 0) rfl rfl) ?_
          refine lex.pure (v := .bool (decide (y64.2.2.2 = 0))) (pu_pickT (q := (decide (y47.2.2 = 0))) rfl hq129 rfl) ?_
          refine lex.pure (v := .bool (decide (y64.2.2.2 = 0))) (pu_move rfl) ?_
          rcases bS (decide (y64.2.2.2 = 0)) with hq130 | hq130
          · replace hb := (cT hq130).symm.trans hb
            refine lex.gpure (want_t rfl rfl (show _ = Value.bool (decide (y64.2.2.2 = 0)) from rfl) hq130) (v := .int .i64 y81.2.2.2) (pu_move e9) ?_
            refine lex.gpure (want_t rfl rfl (show _ = Value.bool (decide (y64.2.2.2 = 0)) from rfl) hq130) (v := .bool (decide (y81.2.2.2 = 0))) (pu_eql (k := .i64) (a := y81.2.2.2) (b := 0) rfl rfl) ?_
            refine lex.pure (v := .bool (decide (y81.2.2.2 = 0))) (pu_pickT (q := (decide (y64.2.2.2 = 0))) rfl hq130 rfl) ?_
            refine lex.pure (v := .bool (decide (y81.2.2.2 = 0))) (pu_move rfl) ?_
            rcases bS (decide (y81.2.2.2 = 0)) with hq131 | hq131
            · replace hb := (cT hq131).symm.trans hb
              refine lex.gpure (want_t rfl rfl (show _ = Value.bool (decide (y81.2.2.2 = 0)) from rfl) hq131) (v := .int .i64 y99.2.2.2) (pu_move e11) ?_
              refine lex.gpure (want_t rfl rfl (show _ = Value.bool (decide (y81.2.2.2 = 0)) from rfl) hq131) (v := .bool (decide (y99.2.2.2 = 0))) (pu_eql (k := .i64) (a := y99.2.2.2) (b := 0) rfl rfl) ?_
              refine lex.pure (v := .bool (decide (y99.2.2.2 = 0))) (pu_pickT (q := (decide (y81.2.2.2 = 0))) rfl hq131 rfl) ?_
              refine lex.pure (v := .bool (decide (y99.2.2.2 = 0))) (pu_move rfl) ?_
              rcases bS (decide (y99.2.2.2 = 0)) with hq132 | hq132
              · replace hb := (cT hq132).symm.trans hb
                refine lex.gpure (want_t rfl rfl (show _ = Value.bool (decide (y99.2.2.2 = 0)) from rfl) hq132) (v := .pointer (some ((⟨g76, 0, none⟩ : Addr).add 1))) (pu_field (sz := 1) Try.underlying28 rfl Try.sizeOf3 (by decide) rfl e6) ?_
                refine lex.gval (want_t rfl rfl (show _ = Value.bool (decide (y99.2.2.2 = 0)) from rfl) hq132) (v := .int .i64 y64.2.1) (ld_fld (hC.bx (i := 4) rfl) Try.isAgg3 rfl rfl) ?_
                refine lex.gpure (want_t rfl rfl (show _ = Value.bool (decide (y99.2.2.2 = 0)) from rfl) hq132) (v := .bool (decide (y64.2.1 = 0))) (pu_eql (k := .i64) (a := y64.2.1) (b := 0) rfl rfl) ?_
                refine lex.pure (v := .bool (decide (y64.2.1 = 0))) (pu_pickT (q := (decide (y99.2.2.2 = 0))) rfl hq132 rfl) ?_
                refine lex.pure (v := .bool (decide (y64.2.1 = 0))) (pu_move rfl) ?_
                rcases bS (decide (y64.2.1 = 0)) with hq133 | hq133
                · replace hb := (cT hq133).symm.trans hb
                  refine lex.gpure (want_t rfl rfl (show _ = Value.bool (decide (y64.2.1 = 0)) from rfl) hq133) (v := .pointer (some ((⟨g76, 0, none⟩ : Addr).add 2))) (pu_field (sz := 1) Try.underlying28 rfl Try.sizeOf26 (by decide) rfl e6) ?_
                  refine lex.gval (want_t rfl rfl (show _ = Value.bool (decide (y64.2.1 = 0)) from rfl) hq133) (v := .slice A68 y64.2.2.1.length c70) (ld_fld (hC.bx (i := 4) rfl) Try.isAgg26 rfl rfl) ?_
                  refine lex.gpure (want_t rfl rfl (show _ = Value.bool (decide (y64.2.1 = 0)) from rfl) hq133) (v := .int .i64 (y64.2.2.1.length : Int)) (pu_len (A := A68) (n := y64.2.2.1.length) (m := c70) Try.underlying26 rfl) ?_
                  refine lex.gpure (want_t rfl rfl (show _ = Value.bool (decide (y64.2.1 = 0)) from rfl) hq133) (v := .bool (decide ((y64.2.2.1.length : Int) = 0))) (pu_eql (k := .i64) (a := (y64.2.2.1.length : Int)) (b := 0) rfl rfl) ?_
                  refine lex.pure (v := .bool (decide ((y64.2.2.1.length : Int) = 0))) (pu_pickT (q := (decide (y64.2.1 = 0))) rfl hq133 rfl) ?_
                  refine lex.pure (v := .bool (decide ((y64.2.2.1.length : Int) = 0))) (pu_move rfl) ?_
                  rcases bS (decide ((y64.2.2.1.length : Int) = 0)) with hq134 | hq134
                  · replace hb := (cT hq134).symm.trans hb
                    refine lex.gpure (want_t rfl rfl (show _ = Value.bool (decide ((y64.2.2.1.length : Int) = 0)) from rfl) hq134) (v := .int .i64 y123.1) (pu_move rfl) ?_
                    refine lex.gpure (want_t rfl rfl (show _ = Value.bool (decide ((y64.2.2.1.length : Int) = 0)) from rfl) hq134) (v := .int .i64 y116.2) (pu_move e13) ?_
                    obtain ⟨z135, h136, hb⟩ := bd hb
                    refine lex.gpure (want_t rfl rfl (show _ = Value.bool (decide ((y64.2.2.1.length : Int) = 0)) from rfl) hq134) (v := .int .i64 z135) (pu_negc (a := y116.2) rfl h136) ?_
                    refine lex.gpure (want_t rfl rfl (show _ = Value.bool (decide ((y64.2.2.1.length : Int) = 0)) from rfl) hq134) (v := .bool (decide (y123.1 = z135))) (pu_eql (k := .i64) (a := y123.1) (b := z135) rfl rfl) ?_
                    refine lex.pure (v := .bool (decide (y123.1 = z135))) (pu_pickT (q := (decide ((y64.2.2.1.length : Int) = 0))) rfl hq134 rfl) ?_
                    refine lex.pure (v := .bool (decide (y123.1 = z135))) (pu_move rfl) ?_
                    rcases bS (decide (y123.1 = z135)) with hq137 | hq137
                    · replace hb := (cT hq137).symm.trans hb
                      refine lex.gpure (want_t rfl rfl (show _ = Value.bool (decide (y123.1 = z135)) from rfl) hq137) (v := .int .i64 y123.2) (pu_move rfl) ?_
                      refine lex.gpure (want_t rfl rfl (show _ = Value.bool (decide (y123.1 = z135)) from rfl) hq137) (v := .int .i64 y116.1) (pu_move e12) ?_
                      obtain ⟨z138, h139, hb⟩ := bd hb
                      refine lex.gpure (want_t rfl rfl (show _ = Value.bool (decide (y123.1 = z135)) from rfl) hq137) (v := .int .i64 z138) (pu_negc (a := y116.1) rfl h139) ?_
                      refine lex.gpure (want_t rfl rfl (show _ = Value.bool (decide (y123.1 = z135)) from rfl) hq137) (v := .bool (decide (y123.2 = z138))) (pu_eql (k := .i64) (a := y123.2) (b := z138) rfl rfl) ?_
                      refine lex.pure (v := .bool (decide (y123.2 = z138))) (pu_pickT (q := (decide (y123.1 = z135))) rfl hq137 rfl) ?_
                      refine lex.pure (v := .bool (decide (y123.2 = z138))) (pu_assign rfl) ?_
                      refine lex.nil ?_
                      refine hK128 _ _ ?_
                      obtain rfl := Option.some.inj hb
                      refine Wc.ret ?_
                      refine hKR _ _ ?_
                      refine ⟨_, res1 Try.results10 (show RV _ _ _ (.tmp _) (.bool (decide (y123.2 = z138))) from rfl), _, rfl, rfl, hC.sel [] (by decide)⟩
                    · replace hb := (cF hq137).symm.trans hb
                      refine lex.gskip (want_f rfl rfl (show _ = Value.bool (decide (y123.1 = z135)) from rfl) hq137) ?_
                      refine lex.gskip (want_f rfl rfl (show _ = Value.bool (decide (y123.1 = z135)) from rfl) hq137) ?_
                      refine lex.gskip (want_f rfl rfl (show _ = Value.bool (decide (y123.1 = z135)) from rfl) hq137) ?_
                      refine lex.gskip (want_f rfl rfl (show _ = Value.bool (decide (y123.1 = z135)) from rfl) hq137) ?_
                      refine lex.pure (v := .bool false) (pu_pickF (q := (decide (y123.1 = z135))) rfl hq137 rfl) ?_
                      refine lex.pure (v := .bool false) (pu_assign rfl) ?_
                      refine lex.nil ?_
                      refine hK128 _ _ ?_
                      obtain rfl := Option.some.inj hb
                      refine Wc.ret ?_
                      refine hKR _ _ ?_
                      refine ⟨_, res1 Try.results10 (show RV _ _ _ (.tmp _) (.bool false) from rfl), _, rfl, rfl, hC.sel [] (by decide)⟩
                  · replace hb := (cF hq134).symm.trans hb
                    refine lex.gskip (want_f rfl rfl (show _ = Value.bool (decide ((y64.2.2.1.length : Int) = 0)) from rfl) hq134) ?_
                    refine lex.gskip (want_f rfl rfl (show _ = Value.bool (decide ((y64.2.2.1.length : Int) = 0)) from rfl) hq134) ?_
                    refine lex.gskip (want_f rfl rfl (show _ = Value.bool (decide ((y64.2.2.1.length : Int) = 0)) from rfl) hq134) ?_
                    refine lex.gskip (want_f rfl rfl (show _ = Value.bool (decide ((y64.2.2.1.length : Int) = 0)) from rfl) hq134) ?_
                    refine lex.pure (v := .bool false) (pu_pickF (q := (decide ((y64.2.2.1.length : Int) = 0))) rfl hq134 rfl) ?_
                    refine lex.pure (v := .bool false) (pu_move rfl) ?_
                    refine lex.gskip (want_f rfl rfl (show _ = Value.bool false from rfl) rfl) ?_
                    refine lex.gskip (want_f rfl rfl (show _ = Value.bool false from rfl) rfl) ?_
                    refine lex.gskip (want_f rfl rfl (show _ = Value.bool false from rfl) rfl) ?_
                    refine lex.gskip (want_f rfl rfl (show _ = Value.bool false from rfl) rfl) ?_
                    refine lex.pure (v := .bool false) (pu_pickF (q := false) rfl rfl rfl) ?_
                    refine lex.pure (v := .bool false) (pu_assign rfl) ?_
                    refine lex.nil ?_
                    refine hK128 _ _ ?_
                    obtain rfl := Option.some.inj hb
                    refine Wc.ret ?_
                    refine hKR _ _ ?_
                    refine ⟨_, res1 Try.results10 (show RV _ _ _ (.tmp _) (.bool false) from rfl), _, rfl, rfl, hC.sel [] (by decide)⟩
                · replace hb := (cF hq133).symm.trans hb
                  refine lex.gskip (want_f rfl rfl (show _ = Value.bool (decide (y64.2.1 = 0)) from rfl) hq133) ?_
                  refine lex.gskip (want_f rfl rfl (show _ = Value.bool (decide (y64.2.1 = 0)) from rfl) hq133) ?_
                  refine lex.gskip (want_f rfl rfl (show _ = Value.bool (decide (y64.2.1 = 0)) from rfl) hq133) ?_
                  refine lex.gskip (want_f rfl rfl (show _ = Value.bool (decide (y64.2.1 = 0)) from rfl) hq133) ?_
                  refine lex.pure (v := .bool false) (pu_pickF (q := (decide (y64.2.1 = 0))) rfl hq133 rfl) ?_
                  refine lex.pure (v := .bool false) (pu_move rfl) ?_
                  refine lex.gskip (want_f rfl rfl (show _ = Value.bool false from rfl) rfl) ?_
                  refine lex.gskip (want_f rfl rfl (show _ = Value.bool false from rfl) rfl) ?_
                  refine lex.gskip (want_f rfl rfl (show _ = Value.bool false from rfl) rfl) ?_
                  refine lex.gskip (want_f rfl rfl (show _ = Value.bool false from rfl) rfl) ?_
                  refine lex.pure (v := .bool false) (pu_pickF (q := false) rfl rfl rfl) ?_
                  refine lex.pure (v := .bool false) (pu_move rfl) ?_
                  refine lex.gskip (want_f rfl rfl (show _ = Value.bool false from rfl) rfl) ?_
                  refine lex.gskip (want_f rfl rfl (show _ = Value.bool false from rfl) rfl) ?_
                  refine lex.gskip (want_f rfl rfl (show _ = Value.bool false from rfl) rfl) ?_
                  refine lex.gskip (want_f rfl rfl (show _ = Value.bool false from rfl) rfl) ?_
                  refine lex.pure (v := .bool false) (pu_pickF (q := false) rfl rfl rfl) ?_
                  refine lex.pure (v := .bool false) (pu_assign rfl) ?_
                  refine lex.nil ?_
                  refine hK128 _ _ ?_
                  obtain rfl := Option.some.inj hb
                  refine Wc.ret ?_
                  refine hKR _ _ ?_
                  refine ⟨_, res1 Try.results10 (show RV _ _ _ (.tmp _) (.bool false) from rfl), _, rfl, rfl, hC.sel [] (by decide)⟩
              · replace hb := (cF hq132).symm.trans hb
                refine lex.gskip (want_f rfl rfl (show _ = Value.bool (decide (y99.2.2.2 = 0)) from rfl) hq132) ?_
                refine lex.gskip (want_f rfl rfl (show _ = Value.bool (decide (y99.2.2.2 = 0)) from rfl) hq132) ?_
                refine lex.gskip (want_f rfl rfl (show _ = Value.bool (decide (y99.2.2.2 = 0)) from rfl) hq132) ?_
                refine lex.pure (v := .bool false) (pu_pickF (q := (decide (y99.2.2.2 = 0))) rfl hq132 rfl) ?_
                refine lex.pure (v := .bool false) (pu_move rfl) ?_
                refine lex.gskip (want_f rfl rfl (show _ = Value.bool false from rfl) rfl) ?_
                refine lex.gskip (want_f rfl rfl (show _ = Value.bool false from rfl) rfl) ?_
                refine lex.gskip (want_f rfl rfl (show _ = Value.bool false from rfl) rfl) ?_
                refine lex.gskip (want_f rfl rfl (show _ = Value.bool false from rfl) rfl) ?_
                refine lex.pure (v := .bool false) (pu_pickF (q := false) rfl rfl rfl) ?_
                refine lex.pure (v := .bool false) (pu_move rfl) ?_
                refine lex.gskip (want_f rfl rfl (show _ = Value.bool false from rfl) rfl) ?_
                refine lex.gskip (want_f rfl rfl (show _ = Value.bool false from rfl) rfl) ?_
                refine lex.gskip (want_f rfl rfl (show _ = Value.bool false from rfl) rfl) ?_
                refine lex.gskip (want_f rfl rfl (show _ = Value.bool false from rfl) rfl) ?_
                refine lex.pure (v := .bool false) (pu_pickF (q := false) rfl rfl rfl) ?_
                refine lex.pure (v := .bool false) (pu_move rfl) ?_
                refine lex.gskip (want_f rfl rfl (show _ = Value.bool false from rfl) rfl) ?_
                refine lex.gskip (want_f rfl rfl (show _ = Value.bool false from rfl) rfl) ?_
                refine lex.gskip (want_f rfl rfl (show _ = Value.bool false from rfl) rfl) ?_
                refine lex.gskip (want_f rfl rfl (show _ = Value.bool false from rfl) rfl) ?_
                refine lex.pure (v := .bool false) (pu_pickF (q := false) rfl rfl rfl) ?_
                refine lex.pure (v := .bool false) (pu_assign rfl) ?_
                refine lex.nil ?_
                refine hK128 _ _ ?_
                obtain rfl := Option.some.inj hb
                refine Wc.ret ?_
                refine hKR _ _ ?_
                refine ⟨_, res1 Try.results10 (show RV _ _ _ (.tmp _) (.bool false) from rfl), _, rfl, rfl, hC.sel [] (by decide)⟩
            · replace hb := (cF hq131).symm.trans hb
              refine lex.gskip (want_f rfl rfl (show _ = Value.bool (decide (y81.2.2.2 = 0)) from rfl) hq131) ?_
              refine lex.gskip (want_f rfl rfl (show _ = Value.bool (decide (y81.2.2.2 = 0)) from rfl) hq131) ?_
              refine lex.pure (v := .bool false) (pu_pickF (q := (decide (y81.2.2.2 = 0))) rfl hq131 rfl) ?_
              refine lex.pure (v := .bool false) (pu_move rfl) ?_
              refine lex.gskip (want_f rfl rfl (show _ = Value.bool false from rfl) rfl) ?_
              refine lex.gskip (want_f rfl rfl (show _ = Value.bool false from rfl) rfl) ?_
              refine lex.gskip (want_f rfl rfl (show _ = Value.bool false from rfl) rfl) ?_
              refine lex.pure (v := .bool false) (pu_pickF (q := false) rfl rfl rfl) ?_
              refine lex.pure (v := .bool false) (pu_move rfl) ?_
              refine lex.gskip (want_f rfl rfl (show _ = Value.bool false from rfl) rfl) ?_
              refine lex.gskip (want_f rfl rfl (show _ = Value.bool false from rfl) rfl) ?_
              refine lex.gskip (want_f rfl rfl (show _ = Value.bool false from rfl) rfl) ?_
              refine lex.gskip (want_f rfl rfl (show _ = Value.bool false from rfl) rfl) ?_
              refine lex.pure (v := .bool false) (pu_pickF (q := false) rfl rfl rfl) ?_
              refine lex.pure (v := .bool false) (pu_move rfl) ?_
              refine lex.gskip (want_f rfl rfl (show _ = Value.bool false from rfl) rfl) ?_
              refine lex.gskip (want_f rfl rfl (show _ = Value.bool false from rfl) rfl) ?_
              refine lex.gskip (want_f rfl rfl (show _ = Value.bool false from rfl) rfl) ?_
              refine lex.gskip (want_f rfl rfl (show _ = Value.bool false from rfl) rfl) ?_
              refine lex.pure (v := .bool false) (pu_pickF (q := false) rfl rfl rfl) ?_
              refine lex.pure (v := .bool false) (pu_move rfl) ?_
              refine lex.gskip (want_f rfl rfl (show _ = Value.bool false from rfl) rfl) ?_
              refine lex.gskip (want_f rfl rfl (show _ = Value.bool false from rfl) rfl) ?_
              refine lex.gskip (want_f rfl rfl (show _ = Value.bool false from rfl) rfl) ?_
              refine lex.gskip (want_f rfl rfl (show _ = Value.bool false from rfl) rfl) ?_
              refine lex.pure (v := .bool false) (pu_pickF (q := false) rfl rfl rfl) ?_
              refine lex.pure (v := .bool false) (pu_assign rfl) ?_
              refine lex.nil ?_
              refine hK128 _ _ ?_
              obtain rfl := Option.some.inj hb
              refine Wc.ret ?_
              refine hKR _ _ ?_
              refine ⟨_, res1 Try.results10 (show RV _ _ _ (.tmp _) (.bool false) from rfl), _, rfl, rfl, hC.sel [] (by decide)⟩
          · replace hb := (cF hq130).symm.trans hb
            refine lex.gskip (want_f rfl rfl (show _ = Value.bool (decide (y64.2.2.2 = 0)) from rfl) hq130) ?_
            refine lex.gskip (want_f rfl rfl (show _ = Value.bool (decide (y64.2.2.2 = 0)) from rfl) hq130) ?_
            refine lex.pure (v := .bool false) (pu_pickF (q := (decide (y64.2.2.2 = 0))) rfl hq130 rfl) ?_
            refine lex.pure (v := .bool false) (pu_move rfl) ?_
            refine lex.gskip (want_f rfl rfl (show _ = Value.bool false from rfl) rfl) ?_
            refine lex.gskip (want_f rfl rfl (show _ = Value.bool false from rfl) rfl) ?_
            refine lex.pure (v := .bool false) (pu_pickF (q := false) rfl rfl rfl) ?_
            refine lex.pure (v := .bool false) (pu_move rfl) ?_
            refine lex.gskip (want_f rfl rfl (show _ = Value.bool false from rfl) rfl) ?_
            refine lex.gskip (want_f rfl rfl (show _ = Value.bool false from rfl) rfl) ?_
            refine lex.gskip (want_f rfl rfl (show _ = Value.bool false from rfl) rfl) ?_
            refine lex.pure (v := .bool false) (pu_pickF (q := false) rfl rfl rfl) ?_
            refine lex.pure (v := .bool false) (pu_move rfl) ?_
            refine lex.gskip (want_f rfl rfl (show _ = Value.bool false from rfl) rfl) ?_
            refine lex.gskip (want_f rfl rfl (show _ = Value.bool false from rfl) rfl) ?_
            refine lex.gskip (want_f rfl rfl (show _ = Value.bool false from rfl) rfl) ?_
            refine lex.gskip (want_f rfl rfl (show _ = Value.bool false from rfl) rfl) ?_
            refine lex.pure (v := .bool false) (pu_pickF (q := false) rfl rfl rfl) ?_
            refine lex.pure (v := .bool false) (pu_move rfl) ?_
            refine lex.gskip (want_f rfl rfl (show _ = Value.bool false from rfl) rfl) ?_
            refine lex.gskip (want_f rfl rfl (show _ = Value.bool false from rfl) rfl) ?_
            refine lex.gskip (want_f rfl rfl (show _ = Value.bool false from rfl) rfl) ?_
            refine lex.gskip (want_f rfl rfl (show _ = Value.bool false from rfl) rfl) ?_
            refine lex.pure (v := .bool false) (pu_pickF (q := false) rfl rfl rfl) ?_
            refine lex.pure (v := .bool false) (pu_move rfl) ?_
            refine lex.gskip (want_f rfl rfl (show _ = Value.bool false from rfl) rfl) ?_
            refine lex.gskip (want_f rfl rfl (show _ = Value.bool false from rfl) rfl) ?_
            refine lex.gskip (want_f rfl rfl (show _ = Value.bool false from rfl) rfl) ?_
            refine lex.gskip (want_f rfl rfl (show _ = Value.bool false from rfl) rfl) ?_
            refine lex.pure (v := .bool false) (pu_pickF (q := false) rfl rfl rfl) ?_
            refine lex.pure (v := .bool false) (pu_assign rfl) ?_
            refine lex.nil ?_
            refine hK128 _ _ ?_
            obtain rfl := Option.some.inj hb
            refine Wc.ret ?_
            refine hKR _ _ ?_
            refine ⟨_, res1 Try.results10 (show RV _ _ _ (.tmp _) (.bool false) from rfl), _, rfl, rfl, hC.sel [] (by decide)⟩
        · replace hb := (cF hq129).symm.trans hb
          refine lex.gskip (want_f rfl rfl (show _ = Value.bool (decide (y47.2.2 = 0)) from rfl) hq129) ?_
          refine lex.gskip (want_f rfl rfl (show _ = Value.bool (decide (y47.2.2 = 0)) from rfl) hq129) ?_
          refine lex.pure (v := .bool false) (pu_pickF (q := (decide (y47.2.2 = 0))) rfl hq129 rfl) ?_
          refine lex.pure (v := .bool false) (pu_move rfl) ?_
          refine lex.gskip (want_f rfl rfl (show _ = Value.bool false from rfl) rfl) ?_
          refine lex.gskip (want_f rfl rfl (show _ = Value.bool false from rfl) rfl) ?_
          refine lex.pure (v := .bool false) (pu_pickF (q := false) rfl rfl rfl) ?_
          refine lex.pure (v := .bool false) (pu_move rfl) ?_
          refine lex.gskip (want_f rfl rfl (show _ = Value.bool false from rfl) rfl) ?_
          refine lex.gskip (want_f rfl rfl (show _ = Value.bool false from rfl) rfl) ?_
          refine lex.pure (v := .bool false) (pu_pickF (q := false) rfl rfl rfl) ?_
          refine lex.pure (v := .bool false) (pu_move rfl) ?_
          refine lex.gskip (want_f rfl rfl (show _ = Value.bool false from rfl) rfl) ?_
          refine lex.gskip (want_f rfl rfl (show _ = Value.bool false from rfl) rfl) ?_
          refine lex.gskip (want_f rfl rfl (show _ = Value.bool false from rfl) rfl) ?_
          refine lex.pure (v := .bool false) (pu_pickF (q := false) rfl rfl rfl) ?_
          refine lex.pure (v := .bool false) (pu_move rfl) ?_
          refine lex.gskip (want_f rfl rfl (show _ = Value.bool false from rfl) rfl) ?_
          refine lex.gskip (want_f rfl rfl (show _ = Value.bool false from rfl) rfl) ?_
          refine lex.gskip (want_f rfl rfl (show _ = Value.bool false from rfl) rfl) ?_
          refine lex.gskip (want_f rfl rfl (show _ = Value.bool false from rfl) rfl) ?_
          refine lex.pure (v := .bool false) (pu_pickF (q := false) rfl rfl rfl) ?_
          refine lex.pure (v := .bool false) (pu_move rfl) ?_
          refine lex.gskip (want_f rfl rfl (show _ = Value.bool false from rfl) rfl) ?_
          refine lex.gskip (want_f rfl rfl (show _ = Value.bool false from rfl) rfl) ?_
          refine lex.gskip (want_f rfl rfl (show _ = Value.bool false from rfl) rfl) ?_
          refine lex.gskip (want_f rfl rfl (show _ = Value.bool false from rfl) rfl) ?_
          refine lex.pure (v := .bool false) (pu_pickF (q := false) rfl rfl rfl) ?_
          refine lex.pure (v := .bool false) (pu_move rfl) ?_
          refine lex.gskip (want_f rfl rfl (show _ = Value.bool false from rfl) rfl) ?_
          refine lex.gskip (want_f rfl rfl (show _ = Value.bool false from rfl) rfl) ?_
          refine lex.gskip (want_f rfl rfl (show _ = Value.bool false from rfl) rfl) ?_
          refine lex.gskip (want_f rfl rfl (show _ = Value.bool false from rfl) rfl) ?_
          refine lex.pure (v := .bool false) (pu_pickF (q := false) rfl rfl rfl) ?_
          refine lex.pure (v := .bool false) (pu_assign rfl) ?_
          refine lex.nil ?_
          refine hK128 _ _ ?_
          obtain rfl := Option.some.inj hb
          refine Wc.ret ?_
          refine hKR _ _ ?_
          refine ⟨_, res1 Try.results10 (show RV _ _ _ (.tmp _) (.bool false) from rfl), _, rfl, rfl, hC.sel [] (by decide)⟩
end Go.Proofs.Ytkeaonceaaafcaa
